import Derived.Test.YtbagnalcabdlhaaS0
import Derived.Test.YtbagnalcabdlhaaS2
import Derived.Test.YtbagnalcabdlhaaS3
import Derived.Test.YtbagnalcabdlhaaS4
import Derived.Test.YtbagnalcabdlhaaS5
import Derived.Test.YtbagnalcabdlhaaS6
import Derived.Test.YtbagnalcabdlhaaS7
import Derived.Test.YtbagnalcabdlhaaS13
import Derived.Test.YtbagnalcabdlhaaS17
import Derived.Test.YtbagnalcabdlhaaS23
import Derived.Test.YtbagnalcabdlhaaS25
namespace Go.Proofs.Ytbagnalcabdlhaa.Pure
open Go.RowKit Go.Proofs.YtbagnalcabdlhaaW.PrintWords Go.Proofs.Ytbagnalcabdlhaa.S
set_option linter.unusedVariables false
set_option linter.unusedSimpArgs false
theorem w64_in (n : Int) (h : -9223372036854775808 ≤ n ∧ n ≤ 9223372036854775807) : wrap64 n = n := by unfold wrap64; omega
theorem wrap_succ (i n : Nat) (hi : i < n) (hn : (n : Int) ≤ 9223372036854775807) : wrap64 ((i : Int) + 1) = ((i + 1 : Nat) : Int) := by
  rw [w64_in _ (by omega)]; omega
theorem getD_drop {α : Type} (l : List α) (i : Nat) (z : α) (hi : i < l.length) : l.drop i = l.getD i z :: l.drop (i + 1) := by
  rw [List.drop_eq_getElem_cons hi]
  simp [List.getD, List.getElem?_eq_getElem hi]
theorem ev_pos {α : Type} {c : Prop} [Decidable c] {g f : Nat → Option α} {r : α} (h : c) (e : Ev g r) : Ev (fun k => if c then g k else f k) r := Ev.congr (fun k => if_pos h) e
theorem ev_neg {α : Type} {c : Prop} [Decidable c] {g f : Nat → Option α} {r : α} (h : ¬ c) (e : Ev f r) : Ev (fun k => if c then g k else f k) r := Ev.congr (fun k => if_neg h) e
theorem ev_eq {α : Type} {g : Nat → Option α} {r s : α} (e : Ev g r) (h : r = s) : Ev g s := h ▸ e
theorem ev_ite {α : Type} {c : Prop} [Decidable c] {g f : Nat → Option α} {r s : α} (h1 : c → Ev g r) (h2 : ¬ c → Ev f s) : Ev (fun k => if c then g k else f k) (if c then r else s) := by
  by_cases h : c
  · rw [if_pos h]; exact ev_pos h (h1 h)
  · rw [if_neg h]; exact ev_neg h (h2 h)
theorem ev_rounds {α : Type} {g : Nat → Option α} {r : α} (h : Ev g r) : ∃ k, g k = some r := h.elim fun K h => ⟨K, h K (Nat.le_refl _)⟩

def chk (hi : Int) : Option Int → List Int → Int
  | _, [] => 0
  | none, x :: xs => if x < 0 ∨ hi ≤ x then 6 else chk hi (some x) xs
  | some q, x :: xs => if x < 0 ∨ hi ≤ x then 6 else if x ≤ q then 18 else chk hi (some x) xs
def Chn (hi : Int) : Option Int → List Int → Prop
  | _, [] => True
  | p, x :: xs => 0 ≤ x ∧ x < hi ∧ (∀ q, p = some q → q < x) ∧ Chn hi (some x) xs
theorem chk_Chn (hi : Int) : ∀ (xs : List Int) (p : Option Int), chk hi p xs = 0 ↔ Chn hi p xs
  | [], p => by cases p <;> simp [chk, Chn]
  | x :: xs, p => by
    have ih := chk_Chn hi xs (some x)
    cases p with
    | none =>
      simp only [chk, Chn]
      by_cases h : x < 0 ∨ hi ≤ x
      · rw [if_pos h]; exact ⟨fun h => by omega, fun h2 => by omega⟩
      · rw [if_neg h, ih]; exact ⟨fun h2 => ⟨by omega, by omega, (fun q hq => by cases hq), h2⟩, fun h2 => h2.2.2.2⟩
    | some q =>
      simp only [chk, Chn]
      by_cases h : x < 0 ∨ hi ≤ x
      · rw [if_pos h]; exact ⟨fun h => by omega, fun h2 => by omega⟩
      · rw [if_neg h]
        by_cases h1 : x ≤ q
        · rw [if_pos h1]; exact ⟨fun h => by omega, fun h2 => by have := h2.2.2.1 q rfl; omega⟩
        · rw [if_neg h1, ih]; exact ⟨fun h2 => ⟨by omega, by omega, fun q' hq => by injection hq; omega, h2⟩, fun h2 => h2.2.2.2⟩
def prv (xs : List Int) (i : Nat) : Option Int := if i = 0 then none else some (rd xs ((i : Int) - 1))
theorem prv_succ (xs : List Int) (i : Nat) : prv xs (i + 1) = some (rd xs i) := by
  unfold prv; rw [if_neg (by omega)]; congr 2; omega
theorem rd_at (l : List Int) (i : Nat) (hi : i < l.length) : l.drop i = rd l i :: l.drop (i + 1) := getD_drop l i 0 hi
theorem rd_mem (ps : List Int) (i : Nat) (hi : i < ps.length) : rd ps i ∈ ps := by
  unfold rd
  simp only [Int.toNat_natCast, List.getD, List.getElem?_eq_getElem hi, Option.getD_some]
  exact List.getElem_mem hi
theorem shl1 (n : Nat) (h : n ≤ 60) : shl .i64 1 (n : Int) = ((2 ^ n : Nat) : Int) := by
  have h2 : (2 : Nat) ^ n ≤ 2 ^ 60 := Nat.pow_le_pow_right (by decide) h
  unfold shl
  have e : min ((n : Int)).toNat IntKind.i64.bits = n := by
    have : IntKind.i64.bits = 64 := rfl
    rw [this]; omega
  rw [e, Int.one_mul, show ((2 : Int) ^ n) = ((2 ^ n : Nat) : Int) by simp]
  have h3 : (2 : Nat) ^ 60 = 1152921504606846976 := by decide
  rw [h3] at h2
  generalize (2 : Nat) ^ n = z at h2 ⊢
  rw [IntKind.wrap_i64]
  omega
def asc (vs : List Int) : Int := if (vs.length : Int) > 10 then 3 else chk 24 none vs
def valid (vs rs : List Int) : Int := if asc vs = 0 then chk ((2 ^ vs.length : Nat) : Int) none rs else asc vs
theorem asc_loop (vs : List Int) (hl : (vs.length : Int) ≤ 9223372036854775807) : ∀ (d i : Nat), i + d = vs.length → Ev (fun k => table_ascending.l0 k vs vs vs.length i) (chk 24 (prv vs i) (vs.drop i))
  | 0, i, h => by
    rw [List.drop_eq_nil_of_le (by omega)]
    refine Ev.step (f := fun _ => some 0) (fun k => by rw [table_ascending.l0, if_neg (by omega)]) ?_
    cases prv vs i <;> exact Ev.now _
  | d + 1, i, h => by
    have hi : i < vs.length := by omega
    have hw := wrap_succ i vs.length hi hl
    have ih := asc_loop vs hl d (i + 1) (by omega)
    rw [prv_succ] at ih
    rw [rd_at vs i hi]
    have hno : Ev (fun k => table_ascending.j1 k vs i (rd vs i) vs vs.length i true) 6 := Ev.step (f := fun _ => some 6) (fun k => by rw [table_ascending.j1, if_pos rfl]) (Ev.now _)
    have hj : rd vs i < 0 ∨ 24 ≤ rd vs i → ∀ p, chk 24 p (rd vs i :: vs.drop (i + 1)) = 6 := fun h p => by cases p <;> simp only [chk] <;> rw [if_pos h]
    by_cases h0 : rd vs i < 0
    · rw [hj (.inl h0)]
      exact Ev.step (fun k => by rw [table_ascending.l0, if_pos (by omega), if_pos (by omega), if_pos (by omega), if_pos h0]) hno
    · by_cases h1 : rd vs i ≥ 24
      · rw [hj (.inr h1)]
        exact Ev.step (fun k => by rw [table_ascending.l0, if_pos (by omega), if_pos (by omega), if_pos (by omega), if_neg h0, decide_eq_true h1]) hno
      · refine Ev.step (fun k => by rw [table_ascending.l0, if_pos (by omega), if_pos (by omega), if_pos (by omega), if_neg h0, decide_eq_false h1]) ?_
        by_cases e : i = 0
        · have ep : prv vs i = none := by unfold prv; rw [if_pos e]
          rw [ep]
          simp only [chk]
          rw [if_neg (by omega)]
          refine Ev.step (fun k => by rw [table_ascending.j1, if_neg (by simp), if_neg (by omega), hw]) ih
        · have ep : prv vs i = some (rd vs ((i : Int) - 1)) := by unfold prv; rw [if_neg e]
          rw [ep]
          simp only [chk]
          rw [if_neg (by omega)]
          by_cases h2 : rd vs i ≤ rd vs ((i : Int) - 1)
          · rw [if_pos h2]
            exact Ev.step (f := fun _ => some 18) (fun k => by rw [table_ascending.j1, if_neg (by simp), if_pos (by omega), w64_in ((i : Int) - 1) (by omega), if_pos (by omega), if_pos (by omega), if_pos (by omega)]) (Ev.now _)
          · rw [if_neg h2]
            refine Ev.step (fun k => by rw [table_ascending.j1, if_neg (by simp), if_pos (by omega), w64_in ((i : Int) - 1) (by omega), if_pos (by omega), if_pos (by omega), if_neg (by omega), hw]) ih
theorem asc_ev (vs : List Int) (hl : (vs.length : Int) ≤ 9223372036854775807) : Ev (fun k => table_ascending.f k vs) (asc vs) := by
  unfold asc table_ascending.f
  refine ev_ite (fun _ => Ev.now _) (fun _ => ?_)
  simpa [prv] using asc_loop vs hl vs.length 0 (by omega)
theorem valid_loop (vs rs : List Int) (hv : vs.length ≤ 10) (hl : (rs.length : Int) ≤ 9223372036854775807) : ∀ (d i : Nat), i + d = rs.length → Ev (fun k => table_Valid.l0 k rs rs.length i vs rs) (chk ((2 ^ vs.length : Nat) : Int) (prv rs i) (rs.drop i))
  | 0, i, h => by
    rw [List.drop_eq_nil_of_le (by omega)]
    refine Ev.step (f := fun _ => some 0) (fun k => by rw [table_Valid.l0, if_neg (by omega)]) ?_
    cases prv rs i <;> exact Ev.now _
  | d + 1, i, h => by
    have hi : i < rs.length := by omega
    have hw := wrap_succ i rs.length hi hl
    have ih := valid_loop vs rs hv hl d (i + 1) (by omega)
    have hs := shl1 vs.length (by omega)
    rw [prv_succ] at ih
    rw [rd_at rs i hi]
    have hno : Ev (fun k => table_Valid.j1 k i (rd rs i) rs rs.length i true vs rs) 6 := Ev.step (f := fun _ => some 6) (fun k => by rw [table_Valid.j1, if_pos rfl]) (Ev.now _)
    have hj : rd rs i < 0 ∨ ((2 ^ vs.length : Nat) : Int) ≤ rd rs i → ∀ p, chk ((2 ^ vs.length : Nat) : Int) p (rd rs i :: rs.drop (i + 1)) = 6 := fun h p => by cases p <;> simp only [chk] <;> rw [if_pos h]
    by_cases h0 : rd rs i < 0
    · rw [hj (.inl h0)]
      exact Ev.step (fun k => by rw [table_Valid.l0, if_pos (by omega), if_pos (by omega), if_pos (by omega), if_pos h0]) hno
    · by_cases h1 : rd rs i ≥ ((2 ^ vs.length : Nat) : Int)
      · rw [hj (.inr h1)]
        exact Ev.step (fun k => by rw [table_Valid.l0, if_pos (by omega), if_pos (by omega), if_pos (by omega), if_neg h0, hs, decide_eq_true h1]) hno
      · refine Ev.step (fun k => by rw [table_Valid.l0, if_pos (by omega), if_pos (by omega), if_pos (by omega), if_neg h0, hs, decide_eq_false h1]) ?_
        by_cases e : i = 0
        · have ep : prv rs i = none := by unfold prv; rw [if_pos e]
          rw [ep]
          simp only [chk]
          rw [if_neg (by omega)]
          refine Ev.step (fun k => by rw [table_Valid.j1, if_neg (by simp), if_neg (by omega), hw]) ih
        · have ep : prv rs i = some (rd rs ((i : Int) - 1)) := by unfold prv; rw [if_neg e]
          rw [ep]
          simp only [chk]
          rw [if_neg (by omega)]
          by_cases h2 : rd rs i ≤ rd rs ((i : Int) - 1)
          · rw [if_pos h2]
            exact Ev.step (f := fun _ => some 18) (fun k => by rw [table_Valid.j1, if_neg (by simp), if_pos (by omega), w64_in ((i : Int) - 1) (by omega), if_pos (by omega), if_pos (by omega), if_pos (by omega)]) (Ev.now _)
          · rw [if_neg h2]
            refine Ev.step (fun k => by rw [table_Valid.j1, if_neg (by simp), if_pos (by omega), w64_in ((i : Int) - 1) (by omega), if_pos (by omega), if_pos (by omega), if_neg (by omega), hw]) ih
theorem asc_len {vs : List Int} (h : asc vs = 0) : vs.length ≤ 10 := by
  unfold asc at h
  by_cases h1 : (vs.length : Int) > 10
  · rw [if_pos h1] at h; omega
  · omega
theorem valid_ev (vs rs : List Int) (hl : (vs.length : Int) ≤ 9223372036854775807) (hr : (rs.length : Int) ≤ 9223372036854775807) : Ev (fun k => table_Valid.f k vs rs) (valid vs rs) := by
  unfold valid
  refine Ev.bind (asc_ev vs hl) ?_
  refine ev_ite (fun h => ?_) (fun _ => Ev.now _)
  simpa [prv] using valid_loop vs rs (asc_len h) hr rs.length 0 (by omega)
structure VT (vs rs : List Int) : Prop where
  len : vs.length ≤ 10
  vars : Chn 24 none vs
  rows : Chn ((2 ^ vs.length : Nat) : Int) none rs
theorem asc_iff (vs : List Int) : asc vs = 0 ↔ vs.length ≤ 10 ∧ Chn 24 none vs := by
  unfold asc
  by_cases h1 : (vs.length : Int) > 10
  · rw [if_pos h1]; exact ⟨fun h => by omega, fun h => by omega⟩
  · rw [if_neg h1, chk_Chn]; exact ⟨fun h => ⟨by omega, h⟩, fun h => h.2⟩
theorem valid_VT (vs rs : List Int) : valid vs rs = 0 ↔ VT vs rs := by
  unfold valid
  by_cases h : asc vs = 0
  · rw [if_pos h, chk_Chn]
    have := (asc_iff vs).1 h
    exact ⟨fun h => ⟨this.1, this.2, h⟩, fun h => h.rows⟩
  · rw [if_neg h]
    exact ⟨fun h2 => absurd h2 h, fun h2 => absurd ((asc_iff vs).2 ⟨h2.len, h2.vars⟩) h⟩
theorem Chn.mem {hi : Int} : ∀ {ns : List Int} {p : Option Int}, Chn hi p ns → ∀ n, n ∈ ns → 0 ≤ n ∧ n < hi ∧ ∀ q, p = some q → q < n
  | [], _, _, n, h => by simp at h
  | m :: ns, p, ⟨h0, h1, h2, h3⟩, n, h => by
    rcases List.mem_cons.1 h with rfl | h
    · exact ⟨h0, h1, h2⟩
    · have := Chn.mem h3 n h
      exact ⟨this.1, this.2.1, fun q hq => by have := this.2.2 m rfl; have := h2 q hq; omega⟩
theorem Chn.same {hi hi' : Int} : ∀ {xs ys : List Int} {p q : Option Int}, Chn hi p xs → Chn hi' q ys → (∀ n, n ∈ xs ↔ n ∈ ys) → xs = ys
  | [], [], _, _, _, _, _ => rfl
  | [], y :: ys, _, _, _, _, h => by have := (h y).2 List.mem_cons_self; simp at this
  | x :: xs, [], _, _, _, _, h => by have := (h x).1 List.mem_cons_self; simp at this
  | x :: xs, y :: ys, p, q, ⟨a0, a1, a2, a3⟩, ⟨b0, b1, b2, b3⟩, h => by
    have e : x = y := by
      rcases List.mem_cons.1 ((h x).1 List.mem_cons_self) with h1 | h1
      · exact h1
      · rcases List.mem_cons.1 ((h y).2 List.mem_cons_self) with h2 | h2
        · exact h2.symm
        · have := (b3.mem x h1).2.2 y rfl
          have := (a3.mem y h2).2.2 x rfl
          omega
    subst e
    refine congrArg (x :: ·) (Chn.same a3 b3 (fun n => ⟨fun hn => ?_, fun hn => ?_⟩))
    · rcases List.mem_cons.1 ((h n).1 (List.mem_cons_of_mem _ hn)) with h1 | h1
      · have := (a3.mem n hn).2.2 x rfl; omega
      · exact h1
    · rcases List.mem_cons.1 ((h n).2 (List.mem_cons_of_mem _ hn)) with h1 | h1
      · have := (b3.mem n hn).2.2 x rfl; omega
      · exact h1
theorem Chn.filter {hi : Int} (f : Int → Bool) : ∀ {xs : List Int} {p : Option Int}, Chn hi p xs → Chn hi p (xs.filter f)
  | [], _, h => h
  | x :: xs, p, ⟨h0, h1, h2, h3⟩ => by
    have ih := h3.filter f
    rw [List.filter_cons]
    split
    · exact ⟨h0, h1, h2, ih⟩
    · revert ih
      generalize xs.filter f = zs
      intro ih
      cases zs with
      | nil => trivial
      | cons z zs => exact ⟨ih.1, ih.2.1, fun q hq => by have := h2 q hq; have := ih.2.2.1 x rfl; omega, ih.2.2.2⟩
theorem bit_add (b : Bool) (out i : Nat) (h : out < 2 ^ i) (j : Nat) : (out + b.toNat * 2 ^ i).testBit j = (out.testBit j || (b && decide (j = i))) := by
  rw [show out + b.toNat * 2 ^ i = 2 ^ i * b.toNat + out by rw [Nat.mul_comm, Nat.add_comm], Nat.testBit_two_pow_mul_add _ h]
  by_cases hj : j < i
  · rw [if_pos hj]
    have : decide (j = i) = false := decide_eq_false (by omega)
    rw [this, Bool.and_false, Bool.or_false]
  · rw [if_neg hj]
    have h1 : out.testBit j = false := Nat.testBit_lt_two_pow (Nat.lt_of_lt_of_le h (Nat.pow_le_pow_right (by decide) (by omega)))
    rw [h1, Bool.false_or]
    by_cases e : j = i
    · subst e; rw [Nat.sub_self]; cases b <;> simp
    · have : decide (j = i) = false := decide_eq_false e
      rw [this, Bool.and_false]
      refine Nat.testBit_lt_two_pow ?_
      have h2 : b.toNat < 2 := by cases b <;> simp
      have h3 : 2 ^ 1 ≤ 2 ^ (j - i) := Nat.pow_le_pow_right (by decide) (by omega)
      omega
theorem add_lt (b : Bool) (out i : Nat) (h : out < 2 ^ i) : out + b.toNat * 2 ^ i < 2 ^ (i + 1) := by
  rw [Nat.pow_succ]
  cases b
  · simp; omega
  · simp; omega
theorem or_bit (x n i : Nat) (out : Nat) (hx : x < 2 ^ 60) (hn : n ≤ 60) (hi : i ≤ 60) (ho : out < 2 ^ i) :
    Go.bits .or .i64 (out : Int) (shl .i64 (Go.bits .and .i64 (shr .i64 (x : Int) (n : Int)) 1) (i : Int)) = ((out + (x.testBit n).toNat * 2 ^ i : Nat) : Int) := by
  have hw : ∀ z : Int, 0 ≤ z → z < 2 ^ 62 → IntKind.i64.wrap z = z := fun z h0 h1 => by
    rw [IntKind.wrap_i64]
    have : (2 : Int) ^ 62 = 4611686018427387904 := by decide
    omega
  have hb : IntKind.i64.bits = 64 := rfl
  have h1 : shr .i64 (x : Int) (n : Int) = ((x / 2 ^ n : Nat) : Int) := by
    unfold shr
    rw [hb, show min ((n : Int)).toNat 64 = n by omega]
    simp
  have hxd : x / 2 ^ n < 2 ^ 62 := Nat.lt_of_le_of_lt (Nat.div_le_self _ _) (Nat.lt_of_lt_of_le hx (by decide))
  have h2 : Go.bits .and .i64 ((x / 2 ^ n : Nat) : Int) 1 = (((x.testBit n).toNat : Nat) : Int) := by
    have := (bits_nat .i64 62 (by decide) hw (x / 2 ^ n) 1 hxd (by decide)).1
    rw [Nat.and_one_is_mod, ← Nat.toNat_testBit] at this
    exact this
  have hip : (2 : Nat) ^ i ≤ 2 ^ 60 := Nat.pow_le_pow_right (by decide) hi
  have h60 : (2 : Nat) ^ 60 = 1152921504606846976 := by decide
  have hbl : (x.testBit n).toNat * 2 ^ i ≤ 2 ^ i := by cases x.testBit n <;> simp
  have h3 : shl .i64 (((x.testBit n).toNat : Nat) : Int) (i : Int) = (((x.testBit n).toNat * 2 ^ i : Nat) : Int) := by
    unfold shl
    rw [hb, show min ((i : Int)).toNat 64 = i by omega]
    have e : (((x.testBit n).toNat : Nat) : Int) * 2 ^ i = (((x.testBit n).toNat * 2 ^ i : Nat) : Int) := by simp
    rw [e]
    exact hw _ (by omega) (by have : (2 : Int) ^ 62 = 4611686018427387904 := by decide
                              omega)
  rw [h1, h2, h3]
  have h62 : (2 : Nat) ^ 62 = 4611686018427387904 := by decide
  rw [(bits_nat .i64 62 (by decide) hw out _ (by omega) (by omega)).2]
  congr 1
  rw [Nat.or_comm, Nat.mul_comm, ← Nat.two_pow_add_eq_or_of_lt ho, Nat.add_comm]
def rowF (a : Nat) : List Int → Nat → Nat → Nat
  | [], _, out => out
  | v :: vs, i, out => rowF a vs (i + 1) (out + (a.testBit v.toNat).toNat * 2 ^ i)
def asgF (r : Nat) : List Int → Nat → Nat → Nat
  | [], _, out => out
  | v :: vs, i, out => asgF r vs (i + 1) (out + (r.testBit i).toNat * 2 ^ v.toNat)
theorem rowF_lt (a : Nat) : ∀ (vs : List Int) (i out : Nat), out < 2 ^ i → rowF a vs i out < 2 ^ (i + vs.length)
  | [], _, _, h => h
  | v :: vs, i, out, h => by
    have := rowF_lt a vs (i + 1) _ (add_lt (a.testBit v.toNat) out i h)
    rw [rowF, List.length_cons, show i + (vs.length + 1) = i + 1 + vs.length by omega]
    exact this
theorem rowF_bit (a : Nat) : ∀ (vs : List Int) (i out : Nat), out < 2 ^ i → ∀ j, ((rowF a vs i out).testBit j = true ↔ out.testBit j = true ∨ ∃ m v, vs[m]? = some v ∧ j = i + m ∧ a.testBit v.toNat = true)
  | [], _, _, _, j => by simp [rowF]
  | v :: vs, i, out, h, j => by
    rw [rowF, rowF_bit a vs (i + 1) _ (add_lt (a.testBit v.toNat) out i h) j, bit_add _ _ _ h]
    constructor
    · rintro (h1 | ⟨m, u, h1, h2, h3⟩)
      · rcases Bool.or_eq_true_iff.1 h1 with h1 | h1
        · exact .inl h1
        · rw [Bool.and_eq_true, decide_eq_true_eq] at h1
          exact .inr ⟨0, v, rfl, by omega, h1.1⟩
      · exact .inr ⟨m + 1, u, by simpa using h1, by omega, h3⟩
    · rintro (h1 | ⟨m, u, h1, h2, h3⟩)
      · exact .inl (by rw [h1]; rfl)
      · cases m with
        | zero =>
          obtain rfl : v = u := by simpa using h1
          exact .inl (by rw [h3, decide_eq_true (show j = i by omega)]; simp)
        | succ m => exact .inr ⟨m, u, by simpa using h1, by omega, h3⟩
def Under (out : Nat) : List Int → Prop
  | [] => True
  | v :: _ => out < 2 ^ v.toNat
theorem under_next {hi : Int} {v : Int} {vs : List Int} (h : Chn hi (some v) vs) (h0 : 0 ≤ v) {out : Nat} (ho : out < 2 ^ (v.toNat + 1)) : Under out vs := by
  cases vs with
  | nil => trivial
  | cons u us =>
    have := h.2.2.1 v rfl
    exact Nat.lt_of_lt_of_le ho (Nat.pow_le_pow_right (by decide) (by omega))
theorem asgF_bit (r : Nat) {hi : Int} : ∀ (vs : List Int) (p : Option Int) (i out : Nat), Chn hi p vs → Under out vs → ∀ j, ((asgF r vs i out).testBit j = true ↔ out.testBit j = true ∨ ∃ m v, vs[m]? = some v ∧ j = v.toNat ∧ r.testBit (i + m) = true)
  | [], _, _, _, _, _, j => by simp [asgF]
  | v :: vs, p, i, out, ⟨h0, h1, h2, h3⟩, hu, j => by
    have hl := add_lt (r.testBit i) out v.toNat hu
    rw [asgF, asgF_bit r vs (some v) (i + 1) _ h3 (under_next h3 h0 hl) j, bit_add _ _ _ hu]
    constructor
    · rintro (h1 | ⟨m, u, h1, h2, h3⟩)
      · rcases Bool.or_eq_true_iff.1 h1 with h1 | h1
        · exact .inl h1
        · rw [Bool.and_eq_true, decide_eq_true_eq] at h1
          exact .inr ⟨0, v, rfl, h1.2, h1.1⟩
      · exact .inr ⟨m + 1, u, by simpa using h1, h2, by rw [show i + (m + 1) = i + 1 + m by omega]; exact h3⟩
    · rintro (h1 | ⟨m, u, h1, h2, h3⟩)
      · exact .inl (by rw [h1]; rfl)
      · cases m with
        | zero =>
          obtain rfl : v = u := by simpa using h1
          rw [Nat.add_zero] at h3
          exact .inl (by rw [h3, decide_eq_true h2]; simp)
        | succ m => exact .inr ⟨m, u, by simpa using h1, h2, by rw [show i + 1 + m = i + (m + 1) by omega]; exact h3⟩
def row (vs : List Int) (a : Nat) : Nat := rowF a vs 0 0
def asg (vs : List Int) (r : Nat) : Nat := asgF r vs 0 0
theorem row_lt (vs : List Int) (a : Nat) : row vs a < 2 ^ vs.length := by
  have := rowF_lt a vs 0 0 (by decide)
  rw [Nat.zero_add] at this
  exact this
theorem row_bit (vs : List Int) (a j : Nat) : (row vs a).testBit j = true ↔ ∃ v, vs[j]? = some v ∧ a.testBit v.toNat = true := by
  unfold row
  rw [rowF_bit a vs 0 0 (by decide)]
  constructor
  · rintro (h | ⟨m, v, h1, h2, h3⟩)
    · simp at h
    · obtain rfl : j = m := by omega
      exact ⟨v, h1, h3⟩
  · rintro ⟨v, h1, h2⟩
    exact .inr ⟨j, v, h1, by omega, h2⟩
theorem under_zero (vs : List Int) : Under 0 vs := by cases vs <;> simp [Under, Nat.two_pow_pos]
theorem asg_bit {hi : Int} {vs : List Int} (h : Chn hi none vs) (r j : Nat) : (asg vs r).testBit j = true ↔ ∃ m v, vs[m]? = some v ∧ j = v.toNat ∧ r.testBit m = true := by
  unfold asg
  rw [asgF_bit r vs none 0 0 h (under_zero vs)]
  simp
theorem Chn.inj {hi : Int} : ∀ {vs : List Int} {p : Option Int}, Chn hi p vs → ∀ (i j : Nat) (u v : Int), vs[i]? = some u → vs[j]? = some v → u.toNat = v.toNat → i = j
  | [], _, _, i, j, u, v, h, _, _ => by simp at h
  | x :: xs, p, ⟨h0, h1, h2, h3⟩, i, j, u, v, hi, hj, e => by
    cases i with
    | zero =>
      obtain rfl : x = u := by simpa using hi
      cases j with
      | zero => rfl
      | succ j =>
        have hj' : xs[j]? = some v := by simpa using hj
        have := h3.mem v (List.mem_of_getElem? hj')
        have := this.2.2 x rfl
        omega
    | succ i =>
      have hi' : xs[i]? = some u := by simpa using hi
      cases j with
      | zero =>
        obtain rfl : x = v := by simpa using hj
        have := h3.mem u (List.mem_of_getElem? hi')
        have := this.2.2 x rfl
        omega
      | succ j => rw [Chn.inj h3 i j u v hi' (by simpa using hj) e]
theorem row_asg {hi : Int} {vs : List Int} (h : Chn hi none vs) {r : Nat} (hr : r < 2 ^ vs.length) : row vs (asg vs r) = r := by
  apply Nat.eq_of_testBit_eq
  intro j
  rw [Bool.eq_iff_iff, row_bit]
  constructor
  · rintro ⟨v, hv, hb⟩
    obtain ⟨m, u, hm, e, hr⟩ := (asg_bit h r _).1 hb
    rw [h.inj j m v u hv hm e]; exact hr
  · intro hb
    have hj : j < vs.length := by
      rcases Nat.lt_or_ge j vs.length with h1 | h1
      · exact h1
      · rw [Nat.testBit_lt_two_pow (Nat.lt_of_lt_of_le hr (Nat.pow_le_pow_right (by decide) h1))] at hb; exact absurd hb (by simp)
    exact ⟨vs[j], List.getElem?_eq_getElem hj, (asg_bit h r _).2 ⟨j, vs[j], List.getElem?_eq_getElem hj, rfl, hb⟩⟩

theorem nat_of {v : Int} (h : 0 ≤ v) : v = ((v.toNat : Nat) : Int) := by omega
theorem Chn.below {hi : Int} : ∀ {xs : List Int} {p : Option Int}, Chn hi p xs → ∀ (i j : Nat) (x y : Int), i < j → xs[i]? = some x → xs[j]? = some y → x < y
  | [], _, _, i, j, x, y, _, h, _ => by simp at h
  | z :: zs, p, ⟨_, _, _, h3⟩, i, j, x, y, hij, hx, hy => by
    cases j with
    | zero => omega
    | succ j =>
      have hy' : zs[j]? = some y := by simpa using hy
      cases i with
      | zero =>
        obtain rfl : z = x := by simpa using hx
        exact (h3.mem y (List.mem_of_getElem? hy')).2.2 z rfl
      | succ i => exact Chn.below h3 i j x y (by omega) (by simpa using hx) hy'
def hs (vs rs : List Int) (a : Nat) : Bool := decide (((row vs a : Nat) : Int) ∈ rs)
theorem VT.vars' {vs rs : List Int} (h : VT vs rs) : ∀ v, v ∈ vs → 0 ≤ v ∧ v < 24 := fun v hv => by have := h.vars.mem v hv; omega
theorem Chn.len1 {hi : Int} : ∀ {xs : List Int} {q : Int}, Chn hi (some q) xs → 0 ≤ q → q < hi → (xs.length : Int) ≤ hi - 1 - q
  | [], _, _, _, _ => by simp; omega
  | x :: xs, q, ⟨h0, h1, h2, h3⟩, _, _ => by
    have := Chn.len1 h3 h0 h1
    have := h2 q rfl
    simp only [List.length_cons]
    omega
theorem Chn.len {hi : Int} {xs : List Int} (h : Chn hi none xs) (h0 : 0 ≤ hi) : (xs.length : Int) ≤ hi := by
  cases xs with
  | nil => simpa using h0
  | cons x xs =>
    have := Chn.len1 h.2.2.2 h.1 h.2.1
    have := h.1
    simp only [List.length_cons]
    omega
theorem pow10 {n : Nat} (h : n ≤ 10) : 2 ^ n ≤ 1024 := by
  have : (2 : Nat) ^ n ≤ 2 ^ 10 := Nat.pow_le_pow_right (by decide) h
  omega
theorem VT.rows_len {vs rs : List Int} (h : VT vs rs) : (rs.length : Int) ≤ 1024 := by
  have h1 := h.rows.len (Int.natCast_nonneg _)
  have h2 := pow10 h.len
  generalize (2 : Nat) ^ vs.length = z at h1 h2
  omega
def flt (t : Nat → Bool) : Nat → Nat → List Int
  | 0, _ => []
  | d + 1, r => if t r = true then (r : Int) :: flt t d (r + 1) else flt t d (r + 1)
theorem flt_chn (t : Nat → Bool) : ∀ (d r : Nat) (p : Option Int), (∀ q, p = some q → q < r) → Chn ((r + d : Nat) : Int) p (flt t d r)
  | 0, _, _, _ => trivial
  | d + 1, r, p, hp => by
    have e : ((r + (d + 1) : Nat) : Int) = ((r + 1 + d : Nat) : Int) := by omega
    rw [flt, e]
    by_cases h : t r = true
    · rw [if_pos h]
      exact ⟨by omega, by omega, hp, flt_chn t d (r + 1) _ (fun q hq => by injection hq; omega)⟩
    · rw [if_neg h]
      exact flt_chn t d (r + 1) p (fun q hq => by have := hp q hq; omega)
def ovr (vs : List Int) (t : Nat → Bool) : List Int := flt (fun r => t (asg vs r)) (2 ^ vs.length) 0
theorem ovr_chn (vs : List Int) (t : Nat → Bool) : Chn ((2 ^ vs.length : Nat) : Int) none (ovr vs t) := by
  have := flt_chn (fun r => t (asg vs r)) (2 ^ vs.length) 0 none (fun q hq => by cases hq)
  rw [Nat.zero_add] at this
  exact this
theorem chn_snoc {hi : Int} {x : Int} (h0 : 0 ≤ x) (h1 : x < hi) : ∀ {l : List Int} {p : Option Int}, Chn hi p l → (∀ y, y ∈ l → y < x) → (∀ q, p = some q → q < x) → Chn hi p (l ++ [x])
  | [], _, _, _, hp => ⟨h0, h1, hp, trivial⟩
  | y :: l, p, ⟨a0, a1, a2, a3⟩, hl, hp => ⟨a0, a1, a2, chn_snoc h0 h1 a3 (fun z hz => hl z (List.mem_cons_of_mem _ hz)) (fun q hq => by injection hq with hq; rw [← hq]; exact hl y List.mem_cons_self)⟩
theorem compact_spec {hi : Int} (d : Array Int) (hd : ∀ i j, i ≤ j → j < d.size → d[i]! ≤ d[j]!) (hr : ∀ i, i < d.size → 0 ≤ d[i]! ∧ d[i]! < hi) : ∀ m, m ≤ d.size → Chn hi none (Lib.compactUpTo d m) ∧ ∀ n, n ∈ Lib.compactUpTo d m ↔ ∃ j, j < m ∧ d[j]! = n
  | 0, _ => ⟨by simp [Lib.compactUpTo, Chn], fun n => by simp [Lib.compactUpTo]⟩
  | m + 1, hm => by
    obtain ⟨h1, h2⟩ := compact_spec d hd hr m (by omega)
    have hrm := hr m (by omega)
    rw [Lib.compactUpTo_succ]
    by_cases hk : Lib.keeps d m = true
    · rw [if_pos hk]
      have hk2 : m = 0 ∨ d[m]! ≠ d[m - 1]! := by simpa [Lib.keeps] using hk
      refine ⟨chn_snoc hrm.1 hrm.2 h1 (fun y hy => ?_) (fun q hq => by cases hq), fun n => ?_⟩
      · obtain ⟨j, hj, rfl⟩ := (h2 y).1 hy
        have a1 := hd j (m - 1) (by omega) (by omega)
        have a2 := hd (m - 1) m (by omega) (by omega)
        rcases hk2 with h | h
        · omega
        · omega
      · rw [List.mem_append, h2]
        constructor
        · rintro (⟨j, hj, e⟩ | h)
          · exact ⟨j, by omega, e⟩
          · exact ⟨m, by omega, by simpa using Eq.symm (List.mem_singleton.1 h)⟩
        · rintro ⟨j, hj, e⟩
          by_cases ej : j = m
          · subst ej; exact .inr (by simp [e])
          · exact .inl ⟨j, by omega, e⟩
    · rw [if_neg hk, List.append_nil]
      have hk2 : ¬ (m = 0 ∨ d[m]! ≠ d[m - 1]!) := by simpa [Lib.keeps] using hk
      refine ⟨h1, fun n => ?_⟩
      rw [h2]
      constructor
      · rintro ⟨j, hj, e⟩; exact ⟨j, by omega, e⟩
      · rintro ⟨j, hj, e⟩
        by_cases ej : j = m
        · subst ej
          exact ⟨j - 1, by omega, by rw [← e]; exact (Classical.byContradiction fun hne => hk2 (.inr (fun h => hne h.symm)))⟩
        · exact ⟨j, by omega, e⟩
theorem sorted_compact {hi : Int} (l : List Int) (hr : ∀ x, x ∈ l → 0 ≤ x ∧ x < hi) : Chn hi none (Lib.compact (l.mergeSort fun x y => decide (x ≤ y))) ∧ ∀ n, n ∈ Lib.compact (l.mergeSort fun x y => decide (x ≤ y)) ↔ n ∈ l := by
  have hp := List.pairwise_mergeSort (le := fun x y : Int => decide (x ≤ y)) (fun a b c h1 h2 => by simp at *; omega) (fun a b => by simp; omega) l
  have hperm := List.mergeSort_perm l (fun x y : Int => decide (x ≤ y))
  generalize hs : l.mergeSort (fun x y => decide (x ≤ y)) = s at hp hperm
  have hget : ∀ i, i < s.length → s.toArray[i]! = s[i]! := fun i hi => by simp
  have key := compact_spec (hi := hi) s.toArray (fun i j hij hj => by
    have hj' : j < s.length := by simpa using hj
    rw [hget i (by omega), hget j hj', List.getElem!_eq_getElem?_getD, List.getElem!_eq_getElem?_getD, List.getElem?_eq_getElem hj', List.getElem?_eq_getElem (show i < s.length by omega)]
    by_cases e : i = j
    · subst e; exact Int.le_refl _
    · have := List.pairwise_iff_getElem.1 hp i j (by omega) hj' (by omega)
      simpa using this) (fun i hi2 => by
    have hi' : i < s.length := by simpa using hi2
    rw [hget i hi', List.getElem!_eq_getElem?_getD, List.getElem?_eq_getElem hi']
    exact hr _ (hperm.mem_iff.1 (List.getElem_mem hi'))) s.length (by simp)
  refine ⟨key.1, fun n => ?_⟩
  have h2 := key.2 n
  unfold Lib.compact
  rw [h2, ← hperm.mem_iff]
  constructor
  · rintro ⟨j, hj, e⟩
    rw [hget j hj, List.getElem!_eq_getElem?_getD, List.getElem?_eq_getElem hj] at e
    exact e ▸ List.getElem_mem hj
  · intro hn
    obtain ⟨j, hj, e⟩ := List.getElem_of_mem hn
    exact ⟨j, hj, by rw [hget j hj, List.getElem!_eq_getElem?_getD, List.getElem?_eq_getElem hj]; exact e⟩
def wo (vs : List Int) (v : Int) : List Int := vs.filter fun x => !(x == v)
theorem wo_chn {hi : Int} {vs : List Int} (h : Chn hi none vs) (v : Int) : Chn hi none (wo vs v) := h.filter _
theorem wo_le (vs : List Int) (v : Int) : (wo vs v).length ≤ vs.length := List.length_filter_le _ _
theorem VT.row_of {vs rs : List Int} (h : VT vs rs) {r : Int} (hr : r ∈ rs) : 0 ≤ r ∧ r.toNat < 2 ^ vs.length ∧ row vs (asg vs r.toNat) = r.toNat := by
  have h1 := h.rows.mem r hr
  have h2 : r.toNat < 2 ^ vs.length := by
    have := h1.2.1
    generalize 2 ^ vs.length = z at *
    omega
  exact ⟨h1.1, h2, row_asg h.vars h2⟩
theorem VT.zero {vs rs : List Int} (h : VT vs rs) (v : Int) (t : Nat → Bool) : VT (wo vs v) (ovr (wo vs v) t) :=
  ⟨Nat.le_trans (wo_le vs v) h.len, wo_chn h.vars v, ovr_chn _ _⟩
theorem srow_loop (vs rs : List Int) (hv : ∀ v, v ∈ vs → 0 ≤ v ∧ v < 24) (hl : vs.length ≤ 24) (a : Nat) (ha : a < 2 ^ 60) : ∀ (d i out : Nat), i + d = vs.length → out < 2 ^ i →
    Ev (fun k => solve_row.l0 k (a : Int) (out : Int) vs vs.length i) ((rowF a (vs.drop i) i out : Nat) : Int)
  | 0, i, out, h, ho => by
    rw [List.drop_eq_nil_of_le (by omega)]
    exact Ev.step (f := fun _ => some (out : Int)) (fun k => by rw [solve_row.l0, if_neg (by omega)]) (Ev.now _)
  | d + 1, i, out, h, ho => by
    have hi : i < vs.length := by omega
    have hw := wrap_succ i vs.length hi (by omega)
    have hm := hv _ (rd_mem vs i hi)
    have ih := srow_loop vs rs hv hl a ha d (i + 1) _ (by omega) (add_lt (a.testBit (rd vs i).toNat) out i ho)
    rw [rd_at vs i hi, rowF]
    refine Ev.step (fun k => ?_) ih
    rw [solve_row.l0, if_pos (by omega), if_pos (by omega), if_pos (by omega), if_pos (by omega), hw]
    have hb := or_bit a (rd vs i).toNat i out ha (by omega) (by omega) ho
    rw [← nat_of hm.1] at hb
    rw [hb]
theorem srow_ev (vs rs : List Int) (hv : ∀ v, v ∈ vs → 0 ≤ v ∧ v < 24) (hl : vs.length ≤ 24) (a : Nat) (ha : a < 2 ^ 60) : Ev (fun k => solve_row.f k vs rs (a : Int)) ((row vs a : Nat) : Int) := by
  have := srow_loop vs rs hv hl a ha vs.length 0 0 (by omega) (by decide)
  exact this
theorem rdT_at (l : List S61) (i : Nat) (hi : i < l.length) : l.drop i = rd_T61 l i :: l.drop (i + 1) := getD_drop l i z61 hi
theorem rdT_mem (l : List S61) (i : Nat) (hi : i < l.length) : rd_T61 l i ∈ l := by
  unfold rd_T61
  simp only [Int.toNat_natCast, List.getD, List.getElem?_eq_getElem hi, Option.getD_some]
  exact List.getElem_mem hi
def fstErr : List S61 → Int
  | [] => 0
  | t :: ts => if valid t.f0 t.f1 = 0 then fstErr ts else valid t.f0 t.f1
def sysv (l : List S61) : Int := if (l.length : Int) > 16 then 3 else fstErr l
def Sm (l : List S61) : Prop := ∀ t, t ∈ l → t.f0.length ≤ 1030 ∧ t.f1.length ≤ 1030
structure VS (l : List S61) : Prop where
  len : l.length ≤ 16
  tab : ∀ t, t ∈ l → VT t.f0 t.f1
theorem fstErr_VT : ∀ l : List S61, fstErr l = 0 ↔ ∀ t, t ∈ l → VT t.f0 t.f1
  | [] => by simp [fstErr]
  | t :: ts => by
    have ih := fstErr_VT ts
    unfold fstErr
    by_cases h : valid t.f0 t.f1 = 0
    · rw [if_pos h, ih]
      exact ⟨fun h2 x hx => by rcases List.mem_cons.1 hx with rfl | hx; exact (valid_VT _ _).1 h; exact h2 x hx, fun h2 x hx => h2 x (List.mem_cons_of_mem _ hx)⟩
    · rw [if_neg h]
      exact ⟨fun h2 => absurd h2 h, fun h2 => absurd ((valid_VT _ _).2 (h2 t List.mem_cons_self)) h⟩
theorem sysv_VS (l : List S61) : sysv l = 0 ↔ VS l := by
  unfold sysv
  by_cases h : (l.length : Int) > 16
  · rw [if_pos h]; exact ⟨fun h2 => by omega, fun h2 => by have := h2.len; omega⟩
  · rw [if_neg h, fstErr_VT]; exact ⟨fun h2 => ⟨by omega, h2⟩, fun h2 => h2.tab⟩
theorem svalid_loop (l : List S61) (hs : Sm l) (hl : l.length ≤ 1000) : ∀ (d i : Nat), i + d = l.length → Ev (fun k => solve_valid.l0 k l l.length i) (fstErr (l.drop i))
  | 0, i, h => by
    rw [List.drop_eq_nil_of_le (by omega)]
    exact Ev.step (f := fun _ => some 0) (fun k => by rw [solve_valid.l0, if_neg (by omega)]) (Ev.now _)
  | d + 1, i, h => by
    have hi : i < l.length := by omega
    have hw := wrap_succ i l.length hi (by omega)
    have hm := hs _ (rdT_mem l i hi)
    rw [rdT_at l i hi, fstErr]
    refine Ev.step (fun k => by rw [solve_valid.l0, if_pos (by omega), if_pos (by omega), if_pos (by omega), hw]) (Ev.bind (valid_ev _ _ (by omega) (by omega)) ?_)
    exact ev_ite (fun _ => svalid_loop l hs hl d (i + 1) (by omega)) (fun _ => Ev.now _)
theorem svalid_ev (l : List S61) (hs : Sm l) (hl : l.length ≤ 1000) : Ev (fun k => solve_valid.f k l) (sysv l) := by
  unfold sysv solve_valid.f
  exact ev_ite (fun _ => Ev.now _) (fun _ => by simpa using svalid_loop l hs hl l.length 0 (by omega))
def flat (l : List S61) : List Int := l.flatMap (·.f0)
def occ (l : List S61) : List Int := Lib.compact ((flat l).mergeSort fun x y => decide (x ≤ y))
theorem VS.flat {l : List S61} (h : VS l) : ∀ v, v ∈ flat l → 0 ≤ v ∧ v < 24 := fun v hv => by
  obtain ⟨t, ht, hv⟩ := List.mem_flatMap.1 hv
  exact (h.tab t ht).vars' v hv
theorem VS.occ {l : List S61} (h : VS l) : Chn 24 none (occ l) ∧ ∀ v, v ∈ occ l ↔ v ∈ Pure.flat l := sorted_compact (Pure.flat l) h.flat
theorem flat_cons (t : S61) (l : List S61) : flat (t :: l) = t.f0 ++ flat l := by simp [flat]
theorem occ_loop (l : List S61) (hs : Sm l) (hl : l.length ≤ 1000) : ∀ (d i : Nat) (acc : List Int), i + d = l.length → acc.length ≤ 1030 * i → Ev (fun k => solve_occurring.l0 k acc l l.length i) (Lib.compact ((acc ++ flat (l.drop i)).mergeSort fun x y => decide (x ≤ y)))
  | 0, i, acc, h, ha => by
    rw [List.drop_eq_nil_of_le (by omega), show flat [] = [] from rfl, List.append_nil]
    refine Ev.step (fun k => by rw [solve_occurring.l0, if_neg (by omega)]) ?_
    have hs : slices_Sort_int_int.f acc = some (acc.mergeSort fun x y => decide (x ≤ y)) := by
      unfold slices_Sort_int_int.f
      rw [if_pos (by omega)]
    simp only [hs, Option.bind_some]
    exact Ev.now _
  | d + 1, i, acc, h, ha => by
    have hi : i < l.length := by omega
    have hw := wrap_succ i l.length hi (by omega)
    have hm := hs _ (rdT_mem l i hi)
    have ih := occ_loop l hs hl d (i + 1) (acc ++ (rd_T61 l i).f0) (by omega) (by rw [List.length_append]; omega)
    rw [rdT_at l i hi, flat_cons, ← List.append_assoc]
    exact Ev.step (fun k => by rw [solve_occurring.l0, if_pos (by omega), if_pos (by omega), if_pos (by omega), if_pos (by omega), hw]) ih
theorem occ_ev (l : List S61) (hs : Sm l) (hl : l.length ≤ 1000) : Ev (fun k => solve_occurring.f k l) (occ l) := by
  have := occ_loop l hs hl l.length 0 [] (by omega) (by simp)
  rw [List.nil_append, List.drop_zero] at this
  exact this
def L3 : List S61 := [⟨[0, 1], [1, 2]⟩, ⟨[1, 2], [0, 3]⟩, ⟨[0, 2], [0, 3]⟩]
def L2 : List S61 := [⟨[0, 1], [1, 2]⟩, ⟨[1, 2], [0, 3]⟩]
theorem L3_vs : VS L3 := (sysv_VS _).1 (by decide)
theorem L2_vs : VS L2 := (sysv_VS _).1 (by decide)
theorem L3_sm : Sm L3 := by
  intro t ht
  simp only [L3, List.mem_cons, List.not_mem_nil, or_false] at ht
  rcases ht with rfl | rfl | rfl <;> exact ⟨by decide, by decide⟩
theorem L2_sm : Sm L2 := by
  intro t ht
  simp only [L2, List.mem_cons, List.not_mem_nil, or_false] at ht
  rcases ht with rfl | rfl <;> exact ⟨by decide, by decide⟩
theorem occ_of {l : List S61} (h : VS l) {vs : List Int} (hc : Chn 24 none vs) (hm : ∀ v, v ∈ vs ↔ v ∈ flat l) : occ l = vs := Chn.same h.occ.1 hc (fun n => by rw [h.occ.2, hm])
theorem v012 : Chn 24 none [0, 1, 2] := by simp [Chn]
theorem L3_occ : occ L3 = [0, 1, 2] := occ_of L3_vs v012 (fun v => by simp [flat, L3] <;> omega)
theorem L2_occ : occ L2 = [0, 1, 2] := occ_of L2_vs v012 (fun v => by simp [flat, L2] <;> omega)
def R3 : List S35 := ((solve_split.f 60 L3 [0, 1, 2] 0 0 []).getD ([], false)).1
theorem awake_ev : Ev (fun k => ancepslaw40_awake.f k) true := by
  have v3 : Ev (fun k => solve_valid.f k L3) 0 := ev_eq (svalid_ev L3 L3_sm (by decide)) ((sysv_VS _).2 L3_vs)
  have v2 : Ev (fun k => solve_valid.f k L2) 0 := ev_eq (svalid_ev L2 L2_sm (by decide)) ((sysv_VS _).2 L2_vs)
  have o3 : Ev (fun k => solve_occurring.f k L3) [0, 1, 2] := ev_eq (occ_ev L3 L3_sm (by decide)) L3_occ
  have o2 : Ev (fun k => solve_occurring.f k L2) [0, 1, 2] := ev_eq (occ_ev L2 L2_sm (by decide)) L2_occ
  have s3 : Ev (fun k => solve_search.f k L3 [0, 1, 2] 0 0) [] := Ev.of (fun k => solve_search.mono _ _ _ _ k) (k := 60) (by kernel_rfl)
  have s2 : Ev (fun k => solve_search.f k L2 [0, 1, 2] 0 0) [1, 6] := Ev.of (fun k => solve_search.mono _ _ _ _ k) (k := 60) (by kernel_rfl)
  have p3 : Ev (fun k => solve_split.f k L3 [0, 1, 2] 0 0 []) (R3, true) := Ev.of (fun k => solve_split.mono _ _ _ _ _ k) (k := 60) (by kernel_rfl)
  have h3 : Ev (fun k => solve_shape.f k L3 R3) true := Ev.of (fun k => solve_shape.mono _ _ k) (k := 200) (by kernel_rfl)
  have r3 : Ev (fun k => solve_right.f k L3 R3 0 0 0) true := Ev.of (fun k => solve_right.mono _ _ _ _ _ k) (k := 200) (by kernel_rfl)
  have hR : Ev (fun k => solve_Refute.f k L3) (R3, 0) := by
    refine Ev.bind v3 (ev_pos rfl (Ev.bind o3 (Ev.bind s3 (ev_pos rfl (Ev.bind p3 ?_)))))
    exact Ev.now _
  have hF : Ev (fun k => solve_First.f k L3) (0, 10) := Ev.bind v3 (ev_pos rfl (Ev.bind o3 (Ev.bind s3 (Ev.now _))))
  have hA : Ev (fun k => solve_All.f k L2) ([1, 6], 0) := Ev.bind v2 (ev_pos rfl (Ev.bind o2 (Ev.bind s2 (Ev.now _))))
  have hC : Ev (fun k => solve_Check.f k L3 R3) true := Ev.bind v3 (ev_pos rfl (Ev.bind h3 (ev_pos rfl (Ev.bind r3 (Ev.now _)))))
  have hE : Ev (fun k => slices_Equal_int_int.f k [1, 6] [1, 6]) true := Ev.of (fun k => slices_Equal_int_int.mono _ _ k) (k := 60) (by kernel_rfl)
  unfold ancepslaw40_awake.f
  refine Ev.bind (Ev.now L3) (Ev.bind hR (Ev.bind hF (ev_pos (by decide) ?_)))
  exact Ev.bind (show Ev (fun k => solve_All.f k (L3.take 2)) ([1, 6], 0) from hA) (ev_pos rfl (ev_pos (by kernel_rfl) (Ev.bind hC (ev_pos rfl (ev_pos rfl (ev_pos rfl (Ev.bind hE (Ev.now _))))))))
theorem bits_andNot (a b : Nat) (ha : a < 2 ^ 62) (hb : b < 2 ^ 62) : Go.bits .andNot .i64 (a : Int) (b : Int) = ((a &&& (a ^^^ b) : Nat) : Int) := by
  have h62 : (2 : Nat) ^ 62 = 4611686018427387904 := by decide
  have h64 : (2 : Nat) ^ IntKind.i64.bits = 18446744073709551616 := by decide
  have hx : a &&& (a ^^^ b) ≤ a := Nat.and_le_left
  have ha' : a % 2 ^ IntKind.i64.bits = a := Nat.mod_eq_of_lt (by omega)
  have hb' : b % 2 ^ IntKind.i64.bits = b := Nat.mod_eq_of_lt (by omega)
  have e : ∀ x y : BitVec IntKind.i64.bits, x &&& ~~~y = x &&& (x ^^^ y) := by
    intro x y
    ext i hi
    simp only [BitVec.getElem_and, BitVec.getElem_not, BitVec.getElem_xor]
    cases x[i] <;> cases y[i] <;> rfl
  simp only [Go.bits, BitVec.ofInt_natCast, e, BitVec.toNat_and, BitVec.toNat_xor, BitVec.toNat_ofNat, ha', hb']
  rw [IntKind.wrap_i64]
  omega
def mask : List Int → Nat → Nat
  | [], m => m
  | v :: vs, m => mask vs (m ||| 2 ^ v.toNat)
theorem mask_bit : ∀ (vs : List Int) (m j : Nat), (mask vs m).testBit j = (m.testBit j || vs.any fun v => v.toNat == j)
  | [], m, j => by simp [mask]
  | v :: vs, m, j => by
    rw [mask, mask_bit vs, Nat.testBit_or, Nat.testBit_two_pow, List.any_cons, Bool.or_assoc]
    congr 1
theorem VS.occ' {l : List S61} (h : VS l) : ∀ v, v ∈ Pure.occ l → 0 ≤ v ∧ v < 24 := fun v hv => by have := h.occ.1.mem v hv; omega
theorem VS.occ_len {l : List S61} (h : VS l) : (Pure.occ l).length ≤ 24 := by have := h.occ.1.len (by decide); omega
def fl (t : S61) (C V : Nat) : Bool := !(t.f1.any fun r => r.toNat &&& row t.f0 C == row t.f0 V)
theorem w62 : ∀ z : Int, 0 ≤ z → z < 2 ^ 62 → IntKind.i64.wrap z = z := fun z h0 h1 => by
  rw [IntKind.wrap_i64]
  have : (2 : Int) ^ 62 = 4611686018427387904 := by decide
  omega
theorem ifun_loop (rs : List Int) (hl : (rs.length : Int) ≤ 9223372036854775807) (hr : ∀ r, r ∈ rs → 0 ≤ r ∧ r.toNat < 2 ^ 62) (m w : Nat) (hm : m < 2 ^ 62) : ∀ (d i : Nat), i + d = rs.length →
    ∃ q : Int, Ev (fun k => slices_IndexFunc_int_int_solve_choices_fails_1.l0 k rs rs.length i (m : Int) (w : Int)) q ∧ decide (q ≥ 0) = (rs.drop i).any fun r => r.toNat &&& m == w
  | 0, i, h => by
    rw [List.drop_eq_nil_of_le (by omega)]
    exact ⟨-1, Ev.step (f := fun _ => some (-1)) (fun k => by rw [slices_IndexFunc_int_int_solve_choices_fails_1.l0, if_neg (by omega)]) (Ev.now _), rfl⟩
  | d + 1, i, h => by
    have hi : i < rs.length := by omega
    have hw := wrap_succ i rs.length hi hl
    obtain ⟨q, hq, hq2⟩ := ifun_loop rs hl hr m w hm d (i + 1) (by omega)
    have h1 := hr _ (rd_mem rs i hi)
    have hb := (bits_nat .i64 62 (by decide) w62 (rd rs i).toNat m h1.2 hm).1
    rw [← nat_of h1.1] at hb
    have hf : solve_choices_fails_1_v1.f (rd rs i) (m : Int) (w : Int) = some ((rd rs i).toNat &&& m == w) := by
      unfold solve_choices_fails_1_v1.f
      rw [hb]
      congr 1
      rw [Bool.eq_iff_iff, beq_iff_eq, beq_iff_eq]
      omega
    rw [rd_at rs i hi, List.any_cons]
    by_cases e : ((rd rs i).toNat &&& m == w) = true
    · rw [e] at hf ⊢
      exact ⟨i, Ev.step (fun k => by rw [slices_IndexFunc_int_int_solve_choices_fails_1.l0, if_pos (by omega), if_pos (by omega), if_pos (by omega), hf]; rfl) (Ev.now (i : Int)), by rw [Bool.true_or]; exact decide_eq_true (by omega)⟩
    · rw [Bool.not_eq_true] at e
      rw [e] at hf ⊢
      exact ⟨q, Ev.step (fun k => by rw [slices_IndexFunc_int_int_solve_choices_fails_1.l0, if_pos (by omega), if_pos (by omega), if_pos (by omega), hf, hw]; rfl) hq, by rw [Bool.false_or]; exact hq2⟩
theorem p62 {a n : Nat} (h : a < 2 ^ n) (hn : n ≤ 62) : a < 2 ^ 62 := Nat.lt_of_lt_of_le h (Nat.pow_le_pow_right (by decide) hn)
theorem fails_ev {t : S61} (h : VT t.f0 t.f1) (C V : Nat) (hC : C < 2 ^ 24) (hV : V < 2 ^ 24) : Ev (fun k => solve_choices_fails.f k (C : Int) (V : Int) t.f0 t.f1) (fl t C V) := by
  have hl := h.len
  have hr := h.rows_len
  refine Ev.bind (srow_ev _ _ h.vars' (by omega) C (p62 hC (by decide) |> fun _ => Nat.lt_of_lt_of_le hC (by decide))) (Ev.bind (srow_ev _ _ h.vars' (by omega) V (Nat.lt_of_lt_of_le hV (by decide))) ?_)
  obtain ⟨q, hq, hq2⟩ := ifun_loop t.f1 (by omega) (fun r hr => ⟨(h.row_of hr).1, p62 (h.row_of hr).2.1 (by omega)⟩) (row t.f0 C) (row t.f0 V) (p62 (row_lt _ _) (by omega)) t.f1.length 0 (by omega)
  rw [List.drop_zero] at hq2
  refine Ev.bind (show Ev (fun k => slices_ContainsFunc_int_int_solve_choices_fails_1.f k t.f1 ((row t.f0 C : Nat) : Int) ((row t.f0 V : Nat) : Int)) (decide (q ≥ 0)) from Ev.bind hq (Ev.now _)) ?_
  rw [hq2]
  exact Ev.now _
def ffl (C V : Nat) : List S61 → Nat → Int
  | [], _ => -1
  | t :: ts, i => if fl t C V = true then (i : Int) else ffl C V ts (i + 1)
theorem ffl_neg (C V : Nat) : ∀ (l : List S61) (i : Nat), 0 ≤ ffl C V l i ↔ (l.any fun t => fl t C V) = true
  | [], i => by simp [ffl]
  | t :: ts, i => by
    have ih := ffl_neg C V ts (i + 1)
    rw [ffl, List.any_cons]
    by_cases h : fl t C V = true
    · rw [if_pos h, h]; simp
    · rw [if_neg h, ih]; rw [Bool.not_eq_true] at h; rw [h, Bool.false_or]
theorem failing_loop {l : List S61} (h : VS l) (C V : Nat) (hC : C < 2 ^ 24) (hV : V < 2 ^ 24) : ∀ (d i : Nat), i + d = l.length → Ev (fun k => api_Table_solve_choices_fails.l0 k l l.length i (C : Int) (V : Int)) (ffl C V (l.drop i) i)
  | 0, i, hd => by
    rw [List.drop_eq_nil_of_le (by omega)]
    exact Ev.step (f := fun _ => some (-1)) (fun k => by rw [api_Table_solve_choices_fails.l0, if_neg (by omega)]) (Ev.now _)
  | d + 1, i, hd => by
    have hi : i < l.length := by omega
    have hl := h.len
    have hw := wrap_succ i l.length hi (by omega)
    have ih := failing_loop h C V hC hV d (i + 1) (by omega)
    rw [rdT_at l i hi, ffl]
    refine Ev.step (fun k => by rw [api_Table_solve_choices_fails.l0, if_pos (by omega), if_pos (by omega), if_pos (by omega), hw]) (Ev.bind (fails_ev (h.tab _ (rdT_mem l i hi)) C V hC hV) ?_)
    exact ev_ite (fun _ => Ev.now _) (fun _ => ih)
theorem failing_ev {l : List S61} (h : VS l) (C V : Nat) (hC : C < 2 ^ 24) (hV : V < 2 ^ 24) : Ev (fun k => solve_choices_failing.f k (C : Int) (V : Int) l) (ffl C V l 0) := by
  have := failing_loop h C V hC hV l.length 0 (by omega)
  rw [List.drop_zero] at this
  exact Ev.bind this (Ev.now _)
def wC (C : Nat) (v : Int) : Nat := C ||| 2 ^ v.toNat
def wV (V : Nat) (v : Int) (b : Bool) : Nat := (V &&& (V ^^^ 2 ^ v.toNat)) ||| b.toNat * 2 ^ v.toNat
theorem wC_lt {C : Nat} {v : Int} (h : C < 2 ^ 24) (h0 : 0 ≤ v) (h1 : v < 24) : wC C v < 2 ^ 24 := Nat.or_lt_two_pow h (Nat.pow_lt_pow_right (by decide) (by omega))
theorem wV_lt {V : Nat} {v : Int} (b : Bool) (h : V < 2 ^ 24) (h0 : 0 ≤ v) (h1 : v < 24) : wV V v b < 2 ^ 24 := by
  have hp : 2 ^ v.toNat < 2 ^ 24 := Nat.pow_lt_pow_right (by decide) (by omega)
  refine Nat.or_lt_two_pow (Nat.lt_of_le_of_lt Nat.and_le_left h) ?_
  cases b
  · simp
  · simpa using hp
theorem wC_bit (C : Nat) (v : Int) (j : Nat) : (wC C v).testBit j = (C.testBit j || v.toNat == j) := by
  unfold wC
  rw [Nat.testBit_or, Nat.testBit_two_pow]
  congr 1
theorem wV_bit (V : Nat) (v : Int) (b : Bool) (j : Nat) : (wV V v b).testBit j = ((V.testBit j && !(v.toNat == j)) || (b && v.toNat == j)) := by
  unfold wV
  rw [Nat.testBit_or, Nat.testBit_and, Nat.testBit_xor, Nat.testBit_two_pow]
  have h1 : (b.toNat * 2 ^ v.toNat).testBit j = (b && v.toNat == j) := by
    cases b
    · simp
    · simp only [Bool.toNat_true, Nat.one_mul, Nat.testBit_two_pow, Bool.true_and]
      rfl
  rw [h1]
  congr 1
  have e : decide (v.toNat = j) = (v.toNat == j) := rfl
  rw [e]
  cases V.testBit j <;> cases (v.toNat == j) <;> rfl
theorem with_eq {C V : Nat} {v : Int} (b : Bool) (hC : C < 2 ^ 24) (hV : V < 2 ^ 24) (h0 : 0 ≤ v) (h1 : v < 24) : solve_choices_with.f (C : Int) (V : Int) v ((b.toNat : Nat) : Int) = some (((wC C v : Nat) : Int), ((wV V v b : Nat) : Int)) := by
  unfold solve_choices_with.f
  rw [if_pos h0]
  have hp : 2 ^ v.toNat < 2 ^ 24 := Nat.pow_lt_pow_right (by decide) (by omega)
  have e1 := shl1 v.toNat (by omega)
  rw [← nat_of h0] at e1
  have e2 : shl .i64 ((b.toNat : Nat) : Int) v = ((b.toNat * 2 ^ v.toNat : Nat) : Int) := by
    cases b
    · simp only [Bool.toNat_false, Nat.zero_mul]
      unfold shl
      rw [show ((0 : Nat) : Int) = 0 from rfl, Int.zero_mul]
      rfl
    · simp only [Bool.toNat_true, Nat.one_mul]
      exact e1
  have hbp : b.toNat * 2 ^ v.toNat < 2 ^ 24 := by
    cases b
    · simp
    · simpa using hp
  have k1 := (bits_nat .i64 62 (by decide) w62 C (2 ^ v.toNat) (p62 hC (by decide)) (p62 hp (by decide))).2
  have k2 := bits_andNot V (2 ^ v.toNat) (p62 hV (by decide)) (p62 hp (by decide))
  have k3 := (bits_nat .i64 62 (by decide) w62 (V &&& (V ^^^ 2 ^ v.toNat)) (b.toNat * 2 ^ v.toNat) (p62 (Nat.lt_of_le_of_lt Nat.and_le_left hV) (by decide)) (p62 hbp (by decide))).2
  rw [e1, e2, k1, k2, k3]
  rfl
def sols (l : List S61) : List Int → Nat → Nat → List Int
  | [], C, V => if (l.any fun t => fl t C V) = true then [] else [(V : Int)]
  | v :: us, C, V => if (l.any fun t => fl t C V) = true then [] else sols l us (wC C v) (wV V v false) ++ sols l us (wC C v) (wV V v true)
theorem search_ev {l : List S61} (h : VS l) : ∀ (us : List Int) (C V : Nat), C < 2 ^ 24 → V < 2 ^ 24 → us.length ≤ 24 → (∀ v, v ∈ us → 0 ≤ v ∧ v < 24) → Ev (fun k => solve_search.f k l us.reverse (C : Int) (V : Int)) (sols l us C V)
  | [], C, V, hC, hV, hl, hv => by
    refine Ev.step (fun k => by rw [solve_search.f]) (Ev.bind (failing_ev h C V hC hV) ?_)
    have hn := ffl_neg C V l 0
    rw [sols]
    by_cases e : (l.any fun t => fl t C V) = true
    · rw [if_pos e]; exact ev_pos (hn.2 e) (Ev.now _)
    · rw [if_neg e]; exact ev_neg (fun h2 => e (hn.1 h2)) (ev_pos rfl (Ev.now _))
  | v :: us, C, V, hC, hV, hl, hv => by
    refine Ev.step (fun k => by rw [solve_search.f]) (Ev.bind (failing_ev h C V hC hV) ?_)
    have hn := ffl_neg C V l 0
    have h1 := hv v List.mem_cons_self
    rw [List.length_cons] at hl
    rw [sols]
    by_cases e : (l.any fun t => fl t C V) = true
    · rw [if_pos e]; exact ev_pos (hn.2 e) (Ev.now _)
    · rw [if_neg e]
      have hlen : ((v :: us).reverse.length : Int) = (us.length : Int) + 1 := by simp
      have hwr : wrap64 (((v :: us).reverse.length : Int) - 1) = (us.length : Int) := by rw [hlen, w64_in _ (by omega)]; omega
      have hrd : rd (v :: us).reverse (us.length : Int) = v := by
        unfold rd
        simp [List.getD]
      have htk : (v :: us).reverse.take ((us.length : Int)).toNat = us.reverse := by
        rw [List.reverse_cons, Int.toNat_natCast, List.take_append_of_le_length (by simp), List.take_of_length_le (by simp)]
      have ih0 := search_ev h us (wC C v) (wV V v false) (wC_lt hC h1.1 h1.2) (wV_lt false hV h1.1 h1.2) (by omega) (fun x hx => hv x (List.mem_cons_of_mem _ hx))
      have ih1 := search_ev h us (wC C v) (wV V v true) (wC_lt hC h1.1 h1.2) (wV_lt true hV h1.1 h1.2) (by omega) (fun x hx => hv x (List.mem_cons_of_mem _ hx))
      have w0 := with_eq (v := v) false hC hV h1.1 h1.2
      have w1 := with_eq (v := v) true hC hV h1.1 h1.2
      refine ev_neg (fun h2 => e (hn.1 h2)) (ev_neg (by omega) ?_)
      rw [hwr, hrd, htk]
      refine ev_pos (by omega) (ev_pos (by omega) (ev_pos (by omega) ?_))
      rw [show (0 : Int) = ((false.toNat : Nat) : Int) from rfl, w0]
      refine Ev.bind (Ev.now _) (Ev.bind ih0 ?_)
      rw [show (1 : Int) = ((true.toNat : Nat) : Int) from rfl, w1]
      exact Ev.bind (Ev.now _) (Ev.bind ih1 (Ev.now _))
theorem fl_full {t : S61} (h : VT t.f0 t.f1) {C V : Nat} (hc : ∀ w, w ∈ t.f0 → C.testBit w.toNat = true) : fl t C V = !hs t.f0 t.f1 V := by
  unfold fl hs
  congr 1
  rw [Bool.eq_iff_iff, List.any_eq_true, decide_eq_true_eq]
  have key : ∀ r : Nat, r < 2 ^ t.f0.length → r &&& row t.f0 C = r := by
    intro r hr
    apply Nat.eq_of_testBit_eq
    intro j
    rw [Nat.testBit_and]
    by_cases hj : j < t.f0.length
    · have : (row t.f0 C).testBit j = true := (row_bit _ _ _).2 ⟨_, List.getElem?_eq_getElem hj, hc _ (List.getElem_mem hj)⟩
      rw [this, Bool.and_true]
    · rw [Nat.testBit_lt_two_pow (Nat.lt_of_lt_of_le hr (Nat.pow_le_pow_right (by decide) (by omega))), Bool.false_and]
  constructor
  · rintro ⟨r, hr, e⟩
    have hro := h.row_of hr
    rw [key _ hro.2.1, beq_iff_eq] at e
    rw [← e, ← nat_of hro.1]; exact hr
  · intro hm
    exact ⟨_, hm, by rw [Int.toNat_natCast, key _ (row_lt _ _)]; simp⟩
theorem fl_sound {t : S61} {C V a : Nat} (hf : fl t C V = true) (ha : ∀ w, w ∈ t.f0 → V.testBit w.toNat = (a.testBit w.toNat && C.testBit w.toNat)) : hs t.f0 t.f1 a = false := by
  rw [Bool.eq_false_iff]
  intro hh
  unfold fl at hf
  rw [Bool.not_eq_true', List.any_eq_false] at hf
  have hm : ((row t.f0 a : Nat) : Int) ∈ t.f1 := by simpa [hs] using hh
  refine hf _ hm ?_
  rw [Int.toNat_natCast, beq_iff_eq]
  apply Nat.eq_of_testBit_eq
  intro j
  rw [Nat.testBit_and, Bool.eq_iff_iff, Bool.and_eq_true, row_bit, row_bit, row_bit]
  constructor
  · rintro ⟨⟨v, hv, h1⟩, u, hu, h2⟩
    rw [hv] at hu
    injection hu with hu
    subst hu
    exact ⟨v, hv, by rw [ha v (List.mem_of_getElem? hv), h1, h2]; rfl⟩
  · rintro ⟨v, hv, h1⟩
    rw [ha v (List.mem_of_getElem? hv), Bool.and_eq_true] at h1
    exact ⟨⟨v, hv, h1.1⟩, v, hv, h1.2⟩
def sat (l : List S61) (a : Nat) : Bool := l.all fun t => hs t.f0 t.f1 a
def sl (l : List S61) (us : List Int) (V : Nat) : List Nat := ((List.range (2 ^ us.length)).map fun i => asg us i ||| V).filter (sat l)
theorem chn_left {hi : Int} : ∀ {us ws : List Int} {p : Option Int}, Chn hi p (us ++ ws) → Chn hi p us
  | [], _, _, _ => trivial
  | _ :: us, ws, _, ⟨h0, h1, h2, h3⟩ => ⟨h0, h1, h2, chn_left h3⟩
theorem asg_snoc {hi : Int} {us : List Int} {v : Int} (h : Chn hi none (us ++ [v])) (i : Nat) (V : Nat) :
    (i < 2 ^ us.length → asg (us ++ [v]) i ||| V = asg us i ||| V) ∧ (i < 2 ^ us.length → asg (us ++ [v]) (2 ^ us.length + i) ||| V = asg us i ||| (V ||| 2 ^ v.toNat)) := by
  have hu := chn_left h
  have gl : ∀ (m : Nat) (w : Int), (us ++ [v])[m]? = some w ↔ us[m]? = some w ∨ (m = us.length ∧ w = v) := by
    intro m w
    by_cases hm : m < us.length
    · rw [List.getElem?_append_left hm]
      exact ⟨.inl, fun hh => hh.elim id (fun ⟨e, _⟩ => by omega)⟩
    · rw [List.getElem?_append_right (by omega), List.getElem?_eq_none (by omega : us.length ≤ m)]
      by_cases e : m = us.length
      · subst e; simp [eq_comm]
      · rw [List.getElem?_eq_none (by simp; omega)]; simp [e]
  have gb : ∀ m, us[m]? ≠ none → m < us.length := fun m hm => by
    rcases Nat.lt_or_ge m us.length with h | h
    · exact h
    · exact absurd (List.getElem?_eq_none h) hm
  constructor
  · intro hi2
    apply Nat.eq_of_testBit_eq
    intro j
    rw [Nat.testBit_or, Nat.testBit_or]
    congr 1
    rw [Bool.eq_iff_iff, asg_bit h, asg_bit hu]
    constructor
    · rintro ⟨m, w, hm, rfl, hb⟩
      rcases (gl m w).1 hm with h1 | ⟨rfl, rfl⟩
      · exact ⟨m, w, h1, rfl, hb⟩
      · rw [Nat.testBit_lt_two_pow hi2] at hb; exact absurd hb (by simp)
    · rintro ⟨m, w, hm, rfl, hb⟩
      exact ⟨m, w, (gl m w).2 (.inl hm), rfl, hb⟩
  · intro hi2
    have hbit : ∀ m, (2 ^ us.length + i).testBit m = (i.testBit m || m == us.length) := by
      intro m
      have := bit_add true i us.length hi2 m
      simp only [Bool.toNat_true, Nat.one_mul, Bool.true_and] at this
      rw [Nat.add_comm]
      exact this
    apply Nat.eq_of_testBit_eq
    intro j
    rw [Nat.testBit_or, Nat.testBit_or, Nat.testBit_or, Nat.testBit_two_pow]
    have e : (asg (us ++ [v]) (2 ^ us.length + i)).testBit j = ((asg us i).testBit j || decide (v.toNat = j)) := by
      rw [Bool.eq_iff_iff, asg_bit h, Bool.or_eq_true, asg_bit hu, decide_eq_true_eq]
      constructor
      · rintro ⟨m, w, hm, rfl, hb⟩
        rcases (gl m w).1 hm with h1 | ⟨rfl, rfl⟩
        · rw [hbit] at hb
          have := gb m (by rw [h1]; simp)
          rw [show (m == us.length) = false from by simp; omega, Bool.or_false] at hb
          exact .inl ⟨m, w, h1, rfl, hb⟩
        · exact .inr rfl
      · rintro (⟨m, w, hm, rfl, hb⟩ | rfl)
        · exact ⟨m, w, (gl m w).2 (.inl hm), rfl, by rw [hbit, hb, Bool.true_or]⟩
        · exact ⟨us.length, v, (gl _ _).2 (.inr ⟨rfl, rfl⟩), rfl, by rw [hbit]; simp⟩
    rw [e]
    cases (asg us i).testBit j <;> cases V.testBit j <;> cases decide (v.toNat = j) <;> rfl
theorem sl_snoc (l : List S61) {hi : Int} {us : List Int} {v : Int} (h : Chn hi none (us ++ [v])) (V : Nat) : sl l (us ++ [v]) V = sl l us V ++ sl l us (V ||| 2 ^ v.toNat) := by
  unfold sl
  rw [List.length_append, List.length_singleton, Nat.pow_succ, Nat.mul_two, List.range_add, List.map_append, List.filter_append, List.map_map]
  congr 1
  · congr 1
    exact List.map_congr_left (fun i hi2 => (asg_snoc h i V).1 (List.mem_range.1 hi2))
  · congr 1
    exact List.map_congr_left (fun i hi2 => (asg_snoc h i V).2 (List.mem_range.1 hi2))
theorem mask_cons_bit (v : Int) (ws : List Int) (j : Nat) : (mask (v :: ws) 0).testBit j = ((mask ws 0).testBit j || v.toNat == j) := by
  rw [mask_bit, mask_bit, List.any_cons, Nat.zero_testBit, Bool.false_or, Bool.false_or, Bool.or_comm]
theorem sols_sl {l : List S61} (h : VS l) : ∀ (us ws : List Int) (V : Nat), occ l = us.reverse ++ ws → (∀ j, V.testBit j = true → (mask ws 0).testBit j = true) → sols l us (mask ws 0) V = (sl l us.reverse V).map fun a : Nat => (a : Int)
  | [], ws, V, ho, hv => by
    have hw : ws = occ l := by simpa using ho.symm
    have e : (l.any fun t => fl t (mask ws 0) V) = !sat l V := by
      unfold sat
      rw [List.not_all_eq_any_not, Bool.eq_iff_iff, List.any_eq_true, List.any_eq_true]
      have hx : ∀ t, t ∈ l → fl t (mask ws 0) V = !hs t.f0 t.f1 V := fun t ht => fl_full (h.tab t ht) (fun w hw2 => by
        rw [mask_bit, Nat.zero_testBit, Bool.false_or, List.any_eq_true]
        exact ⟨w, by rw [hw, h.occ.2]; exact List.mem_flatMap.2 ⟨t, ht, hw2⟩, by simp⟩)
      exact ⟨fun ⟨t, ht, h2⟩ => ⟨t, ht, by rw [← hx t ht]; exact h2⟩, fun ⟨t, ht, h2⟩ => ⟨t, ht, by rw [hx t ht]; exact h2⟩⟩
    rw [sols, e]
    have hz : sl l [] V = if sat l V = true then [V] else [] := by
      unfold sl
      have : asg [] 0 = 0 := rfl
      simp only [List.length_nil, Nat.pow_zero, List.range_one, List.map_cons, List.map_nil, this, Nat.zero_or, List.filter_cons, List.filter_nil]
    rw [List.reverse_nil, hz]
    cases sat l V <;> simp
  | v :: us, ws, V, ho, hv => by
    have ho2 : occ l = us.reverse ++ (v :: ws) := by rw [ho]; simp
    have hc := h.occ.1
    rw [ho] at hc
    have hch := chn_left hc
    rw [List.reverse_cons] at hch
    rw [sols]
    have hvb : V.testBit v.toNat = false := by
      rw [Bool.eq_false_iff]
      intro hb
      have hm := hv _ hb
      rw [mask_bit, Nat.zero_testBit, Bool.false_or, List.any_eq_true] at hm
      obtain ⟨w, hw, e⟩ := hm
      have hw2 : w.toNat = v.toNat := by simpa using e
      have hall := h.occ.1
      rw [ho2] at hall
      obtain ⟨m, hm⟩ := List.getElem?_of_mem hw
      have i1 : (us.reverse ++ (v :: ws))[us.reverse.length]? = some v := by rw [List.getElem?_append_right (by omega)]; simp
      have i2 : (us.reverse ++ (v :: ws))[us.reverse.length + (m + 1)]? = some w := by rw [List.getElem?_append_right (by omega)]; simpa using hm
      have := hall.inj _ _ _ _ i1 i2 hw2.symm
      omega
    have eC : wC (mask ws 0) v = mask (v :: ws) 0 := by
      apply Nat.eq_of_testBit_eq
      intro j
      rw [wC_bit, mask_cons_bit]
    have e0 : wV V v false = V := by
      apply Nat.eq_of_testBit_eq
      intro j
      rw [wV_bit, Bool.false_and, Bool.or_false]
      by_cases e : v.toNat = j
      · subst e; rw [hvb, Bool.false_and]
      · have : (v.toNat == j) = false := by simpa using e
        rw [this]; simp
    have e1 : wV V v true = V ||| 2 ^ v.toNat := by
      apply Nat.eq_of_testBit_eq
      intro j
      rw [wV_bit, Bool.true_and, Nat.testBit_or, Nat.testBit_two_pow]
      have e : decide (v.toNat = j) = (v.toNat == j) := rfl
      rw [e]
      cases V.testBit j <;> cases (v.toNat == j) <;> rfl
    have ih0 := sols_sl h us (v :: ws) V ho2 (fun j hj => by rw [mask_cons_bit, hv j hj, Bool.true_or])
    have ih1 := sols_sl h us (v :: ws) (V ||| 2 ^ v.toNat) ho2 (fun j hj => by
      rw [mask_cons_bit]
      rw [Nat.testBit_or, Nat.testBit_two_pow, Bool.or_eq_true] at hj
      rcases hj with hj | hj
      · rw [hv j hj, Bool.true_or]
      · have e : (v.toNat == j) = true := hj
        rw [e, Bool.or_true])
    rw [List.reverse_cons, sl_snoc l hch, List.map_append, eC, e0, e1, ih0, ih1]
    by_cases e : (l.any fun t => fl t (mask ws 0) V) = true
    · rw [if_pos e, ← List.map_append, ← sl_snoc l hch]
      obtain ⟨t, ht, hf⟩ := List.any_eq_true.1 e
      have hnil : sl l (us.reverse ++ [v]) V = [] := by
        unfold sl
        rw [List.filter_eq_nil_iff]
        intro a ha
        obtain ⟨i, hi2, rfl⟩ := List.mem_map.1 ha
        have : hs t.f0 t.f1 (asg (us.reverse ++ [v]) i ||| V) = false := by
          refine fl_sound hf (fun w hw => ?_)
          rw [Nat.testBit_or]
          by_cases hm : (mask ws 0).testBit w.toNat = true
          · rw [hm, Bool.and_true]
            have : (asg (us.reverse ++ [v]) i).testBit w.toNat = false := by
              rw [Bool.eq_false_iff]
              intro hb
              obtain ⟨m, u, hu, eu, _⟩ := (asg_bit hch i _).1 hb
              rw [mask_bit, Nat.zero_testBit, Bool.false_or, List.any_eq_true] at hm
              obtain ⟨x, hx, ex⟩ := hm
              have ex2 : x.toNat = w.toNat := by simpa using ex
              obtain ⟨n, hn⟩ := List.getElem?_of_mem hx
              have hml : m < (us.reverse ++ [v]).length := (List.getElem?_eq_some_iff.1 hu).1
              have hall := h.occ.1
              rw [ho, List.reverse_cons] at hall
              have i1 : ((us.reverse ++ [v]) ++ ws)[m]? = some u := by rw [List.getElem?_append_left hml]; exact hu
              have i2 : ((us.reverse ++ [v]) ++ ws)[(us.reverse ++ [v]).length + n]? = some x := by rw [List.getElem?_append_right (by omega)]; simpa using hn
              have := hall.inj _ _ _ _ i1 i2 (by omega)
              omega
            rw [this, Bool.false_or]
          · rw [Bool.not_eq_true] at hm
            have hvf : V.testBit w.toNat = false := by
              rw [Bool.eq_false_iff]
              intro hb
              rw [hv _ hb] at hm
              exact absurd hm (by simp)
            rw [hm, Bool.and_false, hvf]
        unfold sat
        rw [Bool.not_eq_true, List.all_eq_false]
        exact ⟨t, ht, by rw [this]; simp⟩
      rw [hnil]; rfl
    · rw [if_neg e]
def SS (l : List S61) : List Int := (sl l (occ l) 0).map fun a : Nat => (a : Int)
theorem allsearch_ev {l : List S61} (h : VS l) : Ev (fun k => solve_search.f k l (occ l) 0 0) (SS l) := by
  have h1 := search_ev h (occ l).reverse 0 0 (by decide) (by decide) (by rw [List.length_reverse]; exact h.occ_len) (fun v hv => h.occ' v (List.mem_reverse.1 hv))
  rw [List.reverse_reverse] at h1
  refine ev_eq h1 ?_
  have := sols_sl h (occ l).reverse [] 0 (by simp) (fun j hj => by simp at hj)
  rw [List.reverse_reverse] at this
  exact this

def all1 (l : List S61) : List Int × Int := if sysv l = 0 then solve_All.of (SS l) else ([], sysv l)
theorem dall_ev (l : List S61) (hs : Sm l) (hl : l.length ≤ 1000) : Ev (fun k => solve_All.f k l) (all1 l) :=
  Ev.bind (svalid_ev l hs hl) (ev_ite (fun h => Ev.bind (occ_ev l hs hl) (Ev.bind (allsearch_ev ((sysv_VS l).1 h)) (Ev.now _))) (fun _ => Ev.now _))
theorem sequal_loop (l : List Int) (hl : (l.length : Int) ≤ 9223372036854775807) : ∀ (d i : Nat), i + d = l.length → Ev (fun k => slices_Equal_int_int.l0 k l l l.length i) true
  | 0, i, h => Ev.step (f := fun _ => some true) (fun k => by rw [slices_Equal_int_int.l0, if_neg (by omega)]) (Ev.now _)
  | d + 1, i, h => by
    have hw := wrap_succ i l.length (by omega) hl
    exact Ev.step (fun k => by rw [slices_Equal_int_int.l0, if_pos (by omega), if_pos (by omega), if_pos (by omega), if_pos (by omega), if_pos rfl, hw]) (sequal_loop l hl d (i + 1) (by omega))
theorem sequal_ev (l : List Int) (hl : (l.length : Int) ≤ 9223372036854775807) : Ev (fun k => slices_Equal_int_int.f k l l) true := ev_pos rfl (sequal_loop l hl l.length 0 (by omega))

theorem clone_eq (l : List Int) (h : l.length < 17592186044416) : slices_Clone_int_int.f l = some l := by
  unfold slices_Clone_int_int.f
  simp only [Option.bind_some, List.length_nil, List.nil_append, if_pos (show 0 + l.length < 17592186044416 by omega)]

def giv (l : List S61) (v x : Int) : List S61 × Int := if sysv l = 0 then (if v < 0 then ([], 6) else if v ≥ 24 then ([], 6) else if x < 0 then ([], 6) else if x > 1 then ([], 6) else if (l.length : Int) = 16 then ([], 3) else (l ++ [⟨[v], [x]⟩], 0)) else ([], sysv l)
theorem given_loop (l : List S61) (hs : Sm l) (hl : l.length ≤ 1000) (v x : Int) : ∀ (d i : Nat) (acc : List S61), i + d = l.length → acc.length ≤ i → Ev (fun k => solve_Given.l0 k v x acc l l.length i) ((acc ++ l.drop i) ++ [⟨[v], [x]⟩], 0)
  | 0, i, acc, h, ha => by
    rw [List.drop_eq_nil_of_le (by omega), List.append_nil]
    exact Ev.step (fun k => by rw [solve_Given.l0, if_neg (by omega), if_pos (by omega)]) (Ev.now _)
  | d + 1, i, acc, h, ha => by
    have hi : i < l.length := by omega
    have hw := wrap_succ i l.length hi (by omega)
    have hm := hs _ (rdT_mem l i hi)
    have ih := given_loop l hs hl v x d (i + 1) (acc ++ [rd_T61 l i]) (by omega) (by simp; omega)
    rw [List.append_assoc acc, List.singleton_append, ← rdT_at l i hi] at ih
    refine Ev.step (fun k => ?_) ih
    rw [solve_Given.l0, if_pos (by omega), if_pos (by omega), if_pos (by omega), clone_eq _ (by omega), clone_eq _ (by omega), hw]
    simp only [Option.bind_some]
    rw [if_pos (by omega)]
theorem dgiv_ev (l : List S61) (hs : Sm l) (hl : l.length ≤ 1000) (v x : Int) : Ev (fun k => solve_Given.f k l v x) (giv l v x) := by
  have hno : Ev (fun k => solve_Given.j0 k l v x true) ([], 6) := Ev.step (f := fun _ => some ([], 6)) (fun k => by rw [solve_Given.j0, if_pos rfl]) (Ev.now _)
  refine Ev.bind (svalid_ev l hs hl) (ev_ite (fun _ => ev_ite (fun _ => hno) (fun _ => ev_ite (fun _ => hno) (fun _ => ev_ite (fun _ => hno) (fun _ => ?_)))) (fun _ => Ev.now _))
  by_cases h1 : x > 1
  · rw [if_pos h1, decide_eq_true h1]; exact hno
  · rw [if_neg h1, decide_eq_false h1]
    refine Ev.step (fun k => by rw [solve_Given.j0, if_neg Bool.false_ne_true]) (ev_ite (fun _ => Ev.now _) (fun _ => ?_))
    have := given_loop l hs hl v x l.length 0 [] (by omega) (by simp)
    rw [List.drop_zero, List.nil_append] at this
    exact this
theorem u32_in {n : Int} (h : (Lit.int .u32 n).wf = true) : 0 ≤ n ∧ n < 4294967296 := by
  simp only [Lit.wf, Bool.and_eq_true, decide_eq_true_eq] at h
  have h1 := h.1
  have h2 := h.2
  rw [show IntKind.u32.min = 0 from rfl] at h1
  rw [show IntKind.u32.max = 4294967295 from rfl] at h2
  omega
theorem chn_up {hi hi' : Int} (h : hi ≤ hi') : ∀ {xs : List Int} {p : Option Int}, Chn hi p xs → Chn hi' p xs
  | [], _, _ => trivial
  | _ :: _, _, hc => ⟨hc.1, Int.lt_of_lt_of_le hc.2.1 h, hc.2.2.1, chn_up h hc.2.2.2⟩
theorem made8_rows (vs : List Int) (hc : Chn 24 none vs) (hl : vs.length ≤ 6) (p q : Int) : ∀ (d r : Nat) (acc : List Int), r + d = 2 ^ vs.length → acc.length ≤ r → Chn ((2 ^ vs.length : Nat) : Int) none acc → (∀ y, y ∈ acc → y < r) →
    ∃ rs, Ev (fun k => ancepsref38_Made.l1 k r p q vs acc) (vs, rs) ∧ VT vs rs
  | 0, r, acc, h, ha, hch, hlt => by
    have hs1 := shl1 vs.length (by omega)
    refine ⟨acc, ?_, by omega, hc, hch⟩
    refine Ev.step (fun k => by rw [ancepsref38_Made.l1, hs1, if_neg (by omega)]) ?_
    exact Ev.now _
  | d + 1, r, acc, h, ha, hch, hlt => by
    have hs1 := shl1 vs.length (by omega)
    have hp := pow10 (n := vs.length) (by omega)
    have hw : wrap64 ((r : Int) + 1) = ((r + 1 : Nat) : Int) := by rw [w64_in _ (by omega)]; omega
    by_cases e : Int.tmod (shr .u64 q r) 2 = 1
    · obtain ⟨rs, h1, h2⟩ := made8_rows vs hc hl p q d (r + 1) (acc ++ [(r : Int)]) (by omega) (by simp; omega) (chn_snoc (by omega) (by omega) hch hlt (fun q hq => by cases hq)) (fun y hy => by
        rcases List.mem_append.1 hy with hy | hy
        · have := hlt y hy; omega
        · rw [List.mem_singleton.1 hy]; omega)
      refine ⟨rs, ?_, h2⟩
      refine Ev.step (fun k => by rw [ancepsref38_Made.l1, hs1, if_pos (by omega), if_pos (by omega), if_pos e, if_pos (by omega), hw]) ?_
      exact h1
    · obtain ⟨rs, h1, h2⟩ := made8_rows vs hc hl p q d (r + 1) acc (by omega) (by omega) hch (fun y hy => by have := hlt y hy; omega)
      refine ⟨rs, ?_, h2⟩
      refine Ev.step (fun k => by rw [ancepsref38_Made.l1, hs1, if_pos (by omega), if_pos (by omega), if_neg e, hw]) ?_
      exact h1
theorem bit8 (p : Int) (h : 0 ≤ p ∧ p < 256) (i : Nat) (h8 : 8 ≤ i) (h24 : i ≤ 24) : ¬ Int.tmod (shr .u32 p i) 2 = 1 := by
  have e : shr .u32 p i = 0 := by
    unfold shr
    rw [show IntKind.u32.bits = 32 from rfl, show min ((i : Int)).toNat 32 = i by omega]
    have hp : (2 : Nat) ^ 8 ≤ 2 ^ i := Nat.pow_le_pow_right (by decide) h8
    have hq : ((2 : Int) ^ i) = ((2 ^ i : Nat) : Int) := by simp
    rw [hq]
    exact Int.ediv_eq_zero_of_lt h.1 (by have : (2 : Nat) ^ 8 = 256 := by decide
                                         omega)
  rw [e]
  decide
theorem made8_vars (p q : Int) (hp : 0 ≤ p ∧ p < 256) : ∀ (d i : Nat) (acc : List Int), i + d = 24 → acc.length ≤ 6 → Chn 8 none acc → (∀ y, y ∈ acc → y < i) →
    ∃ vs rs, Ev (fun k => ancepsref38_Made.l0 k i p q acc) (vs, rs) ∧ VT vs rs ∧ Chn 8 none vs
  | d, i, acc, h, ha, hch, hlt => by
    obtain ⟨rs, h1, h2⟩ := made8_rows acc (chn_up (by decide) hch) ha p q (2 ^ acc.length) 0 [] (by omega) (by simp) trivial (fun y hy => by simp at hy)
    have hend : Ev (fun k => ancepsref38_Made.j1 k i false p q acc) (acc, rs) := by
      refine Ev.step (fun k => by rw [ancepsref38_Made.j1]) ?_
      refine ev_neg (by decide) ?_
      exact h1
    cases d with
    | zero =>
      refine ⟨acc, rs, ?_, h2, hch⟩
      refine Ev.step (fun k => by rw [ancepsref38_Made.l0, if_neg (by omega)]) ?_
      exact hend
    | succ d =>
      have hw : wrap64 ((i : Int) + 1) = ((i + 1 : Nat) : Int) := by rw [w64_in _ (by omega)]; omega
      by_cases h6 : (acc.length : Int) < 6
      · have hgo : ∀ vs rs, Ev (fun k => ancepsref38_Made.j1 k i true p q acc) (vs, rs) → Ev (fun k => ancepsref38_Made.l0 k i p q acc) (vs, rs) := fun vs rs hh => by
          refine Ev.step (fun k => by rw [ancepsref38_Made.l0, if_pos (by omega), decide_eq_true h6]) ?_
          exact hh
        by_cases e : Int.tmod (shr .u32 p i) 2 = 1
        · have hi8 : i < 8 := Classical.byContradiction fun hn => bit8 p hp i (by omega) (by omega) e
          obtain ⟨vs, rs, h3, h4⟩ := made8_vars p q hp d (i + 1) (acc ++ [(i : Int)]) (by omega) (by simp; omega) (chn_snoc (by omega) (by omega) hch hlt (fun q hq => by cases hq)) (fun y hy => by
            rcases List.mem_append.1 hy with hy | hy
            · have := hlt y hy; omega
            · rw [List.mem_singleton.1 hy]; omega)
          refine ⟨vs, rs, hgo vs rs ?_, h4⟩
          refine Ev.step (fun k => by rw [ancepsref38_Made.j1, if_pos rfl, if_pos (by omega), if_pos e, if_pos (by omega), hw]) ?_
          exact h3
        · obtain ⟨vs, rs, h3, h4⟩ := made8_vars p q hp d (i + 1) acc (by omega) ha hch (fun y hy => by have := hlt y hy; omega)
          refine ⟨vs, rs, hgo vs rs ?_, h4⟩
          refine Ev.step (fun k => by rw [ancepsref38_Made.j1, if_pos rfl, if_pos (by omega), if_neg e, hw]) ?_
          exact h3
      · refine ⟨acc, rs, ?_, h2, hch⟩
        refine Ev.step (fun k => by rw [ancepsref38_Made.l0, if_pos (by omega), decide_eq_false h6]) ?_
        exact hend
theorem smade_loop (d0 : List S85) (hw0 : ∀ x, x ∈ d0 → 0 ≤ x.f0) : ∀ (d i : Nat) (acc : List S61), i + d = 6 → acc.length = i → (∀ t, t ∈ acc → VT t.f0 t.f1 ∧ Chn 8 none t.f0) →
    ∃ l, Ev (fun k => ancepsref40_Made.l0 k d0 acc i) l ∧ l.length ≤ 6 ∧ ∀ t, t ∈ l → VT t.f0 t.f1 ∧ Chn 8 none t.f0
  | d, i, acc, h, ha, ht => by
    by_cases c1 : (i : Int) < (d0.length : Int)
    · cases d with
      | zero =>
        refine ⟨acc, ?_, by omega, ht⟩
        refine Ev.step (fun k => by rw [ancepsref40_Made.l0, if_pos c1, if_neg (by omega)]) ?_
        exact Ev.now _
      | succ d =>
        have hm : rd_T85 d0 (i : Int) ∈ d0 := by
          have : rd_T85 d0 (i : Int) = d0[i] := by
            show d0.getD i z85 = _
            simp [List.getD, List.getElem?_eq_getElem (show i < d0.length by omega)]
          rw [this]
          exact List.getElem_mem _
        have hp : 0 ≤ Int.tmod (rd_T85 d0 (i : Int)).f0 256 ∧ Int.tmod (rd_T85 d0 (i : Int)).f0 256 < 256 := ⟨Int.tmod_nonneg _ (hw0 _ hm), Int.tmod_lt_of_pos _ (by decide)⟩
        obtain ⟨vs, rs, e1, e2, e3⟩ := made8_vars _ (rd_T85 d0 (i : Int)).f1 hp 24 0 [] (by omega) (by simp) trivial (fun y hy => by simp at hy)
        obtain ⟨l, e4, e5, e6⟩ := smade_loop d0 hw0 d (i + 1) (acc ++ [⟨vs, rs⟩]) (by omega) (by simp; omega) (fun t hm => by
          rcases List.mem_append.1 hm with hm | hm
          · exact ht t hm
          · rw [List.mem_singleton.1 hm]; exact ⟨e2, e3⟩)
        refine ⟨l, ?_, e5, e6⟩
        have hw : wrap64 ((i : Int) + 1) = ((i + 1 : Nat) : Int) := by rw [w64_in _ (by omega)]; omega
        refine Ev.step (fun k => by rw [ancepsref40_Made.l0, if_pos c1, if_pos (by omega), if_pos (by omega)]) ?_
        refine Ev.bind (show Ev (fun k => ancepsref38_Made.f k _ _) (vs, rs) from e1) ?_
        refine ev_pos (by omega) ?_
        rw [hw]
        exact e4
    · refine ⟨acc, ?_, by omega, ht⟩
      refine Ev.step (fun k => by rw [ancepsref40_Made.l0, if_neg c1]) ?_
      exact Ev.now _
structure Md (l : List S61) : Prop where
  len : l.length ≤ 6
  tab : ∀ t, t ∈ l → VT t.f0 t.f1 ∧ Chn 8 none t.f0
theorem Md.vs {l : List S61} (h : Md l) : VS l := ⟨by have := h.len; omega, fun t ht => (h.tab t ht).1⟩
theorem vs_sm {l : List S61} (h : VS l) : Sm l := fun t ht => by
  have h1 := (h.tab t ht).len
  have h2 := (h.tab t ht).rows_len
  omega
theorem Md.sm {l : List S61} (h : Md l) : Sm l := vs_sm h.vs
theorem Md.occ_len {l : List S61} (h : Md l) : (occ l).length ≤ 8 := by
  have hc : Chn 8 none (occ l) := (sorted_compact (flat l) (fun v hv => by
    obtain ⟨t, ht, hv⟩ := List.mem_flatMap.1 hv
    have := (h.tab t ht).2.mem v hv
    omega)).1
  have := hc.len (by decide)
  omega
theorem smade_ev (d0 : List S85) (hw0 : ∀ x, x ∈ d0 → 0 ≤ x.f0) : ∃ l, Ev (fun k => ancepsref40_Made.f k d0) l ∧ Md l := by
  obtain ⟨l, h1, h2, h3⟩ := smade_loop d0 hw0 6 0 [] (by omega) rfl (fun t ht => by cases ht)
  exact ⟨l, h1, h2, h3⟩

theorem lt_of_bit : ∀ (k x y : Nat), x.testBit k = false → y.testBit k = true → (∀ m, k < m → x.testBit m = y.testBit m) → x < y
  | 0, x, y, h1, h2, h3 => by
    have e : x / 2 = y / 2 := Nat.eq_of_testBit_eq (fun i => by rw [← Nat.testBit_succ, ← Nat.testBit_succ]; exact h3 _ (by omega))
    rw [Nat.testBit_zero] at h1 h2
    simp at h1 h2
    omega
  | k + 1, x, y, h1, h2, h3 => by
    rw [Nat.testBit_succ] at h1 h2
    have := lt_of_bit k (x / 2) (y / 2) h1 h2 (fun m hm => by rw [← Nat.testBit_succ, ← Nat.testBit_succ]; exact h3 _ (by omega))
    omega
theorem bit_of_lt : ∀ (n x y : Nat), y < n → x < y → ∃ k, x.testBit k = false ∧ y.testBit k = true ∧ ∀ m, k < m → x.testBit m = y.testBit m
  | 0, x, y, hn, h => by omega
  | n + 1, x, y, hn, h => by
    by_cases e : x / 2 = y / 2
    · refine ⟨0, ?_, ?_, fun m hm => ?_⟩
      · rw [Nat.testBit_zero]; simp; omega
      · rw [Nat.testBit_zero]; simp; omega
      · obtain ⟨m, rfl⟩ : ∃ m', m = m' + 1 := ⟨m - 1, by omega⟩
        rw [Nat.testBit_succ, Nat.testBit_succ, e]
    · obtain ⟨k, h1, h2, h3⟩ := bit_of_lt n (x / 2) (y / 2) (by omega) (by omega)
      refine ⟨k + 1, by rw [Nat.testBit_succ]; exact h1, by rw [Nat.testBit_succ]; exact h2, fun m hm => ?_⟩
      obtain ⟨m, rfl⟩ : ∃ m', m = m' + 1 := ⟨m - 1, by omega⟩
      rw [Nat.testBit_succ, Nat.testBit_succ]
      exact h3 m (by omega)
theorem asg_mono {hi : Int} {us : List Int} (h : Chn hi none us) {i j : Nat} (hj : j < 2 ^ us.length) (hij : i < j) : asg us i < asg us j := by
  obtain ⟨k, h1, h2, h3⟩ := bit_of_lt (j + 1) i j (by omega) hij
  have hk : k < us.length := Classical.byContradiction fun hn => by
    rw [Nat.testBit_lt_two_pow (Nat.lt_of_lt_of_le hj (Nat.pow_le_pow_right (by decide) (by omega)))] at h2
    cases h2
  have hv := List.getElem?_eq_getElem hk
  have at1 : ∀ r : Nat, ∀ m w, us[m]? = some w → (asg us r).testBit w.toNat = r.testBit m := fun r m w hm => by
    rw [Bool.eq_iff_iff, asg_bit h]
    constructor
    · rintro ⟨m', w', hm', e, hb⟩
      have := h.inj m m' w w' hm hm' e
      subst this; exact hb
    · exact fun hb => ⟨m, w, hm, rfl, hb⟩
  refine lt_of_bit us[k].toNat _ _ (by rw [at1 i k _ hv]; exact h1) (by rw [at1 j k _ hv]; exact h2) (fun m hm => ?_)
  rw [Bool.eq_iff_iff, asg_bit h, asg_bit h]
  have key : ∀ a b : Nat, (∀ m, k < m → a.testBit m = b.testBit m) → (∃ q w, us[q]? = some w ∧ m = w.toNat ∧ a.testBit q = true) → ∃ q w, us[q]? = some w ∧ m = w.toNat ∧ b.testBit q = true := fun a b hab ⟨q, w, hq, e, hb⟩ => by
    refine ⟨q, w, hq, e, ?_⟩
    have hkq : k < q := Classical.byContradiction fun hn => by
      rcases Nat.lt_or_ge q k with h4 | h4
      · have h5 := h.below q k w us[k] h4 hq hv
        have h6 := (h.mem w (List.mem_of_getElem? hq)).1
        omega
      · have : q = k := by omega
        subst this
        rw [hv] at hq
        cases hq
        omega
    rw [← hab q hkq]; exact hb
  exact ⟨key i j h3, key j i (fun m hm => (h3 m hm).symm)⟩
theorem sl_asc (l : List S61) {hi : Int} {us : List Int} (h : Chn hi none us) : (sl l us 0).Pairwise (· < ·) := by
  unfold sl
  refine List.Pairwise.filter _ ?_
  rw [List.pairwise_map]
  refine List.Pairwise.imp_of_mem (fun {a b} ha hb hab => ?_) List.pairwise_lt_range
  rw [Nat.or_zero, Nat.or_zero]
  exact asg_mono h (List.mem_range.1 hb) hab
theorem SS_asc {l : List S61} (h : VS l) : (SS l).Pairwise (fun a b => decide (a ≤ b) = true) := by
  unfold SS
  rw [List.pairwise_map]
  exact (sl_asc l h.occ.1).imp (fun hab => by rw [decide_eq_true_iff]; omega)
theorem given_vs {l : List S61} (h : VS l) (h15 : l.length ≤ 15) {v : Int} (hv : v ∈ occ l) (b : Bool) : VS (l ++ [⟨[v], [((b.toNat : Nat) : Int)]⟩]) := by
  have h1 := h.occ' v hv
  refine ⟨by rw [List.length_append, List.length_singleton]; omega, fun t ht => ?_⟩
  rcases List.mem_append.1 ht with ht | ht
  · exact h.tab t ht
  · rw [List.mem_singleton.1 ht]
    refine ⟨by simp, ⟨h1.1, h1.2, (fun q hq => by cases hq), trivial⟩, ?_⟩
    have e : (2 ^ [v].length : Nat) = 2 := rfl
    rw [e]
    refine ⟨by cases b <;> decide, by cases b <;> decide, (fun q hq => by cases hq), trivial⟩
theorem given_occ {l : List S61} (h : VS l) (h15 : l.length ≤ 15) {v : Int} (hv : v ∈ occ l) (b : Bool) : occ (l ++ [⟨[v], [((b.toNat : Nat) : Int)]⟩]) = occ l := by
  refine Chn.same (given_vs h h15 hv b).occ.1 h.occ.1 (fun n => ?_)
  rw [(given_vs h h15 hv b).occ.2, h.occ.2]
  have hv' := (h.occ.2 v).1 hv
  unfold flat at hv' ⊢
  rw [List.flatMap_append, List.mem_append]
  constructor
  · rintro (hn | hn)
    · exact hn
    · simp at hn
      rw [hn]; exact hv'
  · exact fun hn => .inl hn
theorem hs_one {v : Int} (b : Bool) (a : Nat) : hs [v] [((b.toNat : Nat) : Int)] a = (a.testBit v.toNat == b) := by
  have hr : row [v] a = (a.testBit v.toNat).toNat := by
    have hlt := row_lt [v] a
    have hb : (row [v] a).testBit 0 = a.testBit v.toNat := by
      rw [Bool.eq_iff_iff, row_bit]
      constructor
      · rintro ⟨w, hw, hb⟩
        simp at hw
        rw [hw]; exact hb
      · exact fun hb => ⟨v, rfl, hb⟩
    rw [Nat.testBit_zero] at hb
    have h2 : (2 : Nat) ^ [v].length = 2 := rfl
    rw [h2] at hlt
    cases e : a.testBit v.toNat <;> rw [e] at hb <;> simp at hb ⊢ <;> omega
  unfold hs
  rw [hr]
  cases a.testBit v.toNat <;> cases b <;> decide
theorem given_SS {l : List S61} (h : VS l) (h15 : l.length ≤ 15) {v : Int} (hv : v ∈ occ l) (b : Bool) : SS (l ++ [⟨[v], [((b.toNat : Nat) : Int)]⟩]) = ((sl l (occ l) 0).filter fun a => a.testBit v.toNat == b).map fun a : Nat => (a : Int) := by
  unfold SS
  rw [given_occ h h15 hv b]
  unfold sl
  rw [List.filter_filter]
  congr 1
  apply List.filter_congr
  intro a _
  unfold sat
  rw [List.all_append, ← hs_one b a, Bool.and_comm]
  simp
theorem parts_eq {l : List S61} (h : VS l) (h15 : l.length ≤ 15) {v : Int} (hv : v ∈ occ l) :
    (SS (l ++ [⟨[v], [((false.toNat : Nat) : Int)]⟩]) ++ SS (l ++ [⟨[v], [((true.toNat : Nat) : Int)]⟩])).mergeSort (fun x y => decide (x ≤ y)) = SS l := by
  have hp : (SS (l ++ [⟨[v], [((false.toNat : Nat) : Int)]⟩]) ++ SS (l ++ [⟨[v], [((true.toNat : Nat) : Int)]⟩])).Perm (SS l) := by
    rw [given_SS h h15 hv, given_SS h h15 hv, ← List.map_append]
    unfold SS
    refine List.Perm.map _ ?_
    have := List.filter_append_perm (fun a : Nat => a.testBit v.toNat == false) (sl l (occ l) 0)
    have e : (fun a : Nat => !(a.testBit v.toNat == false)) = fun a => a.testBit v.toNat == true := funext fun a => by cases a.testBit v.toNat <;> rfl
    rw [e] at this
    exact this
  refine List.Perm.eq_of_pairwise (le := fun a b => decide (a ≤ b) = true) (fun a b _ _ h1 h2 => ?_) ?_ (SS_asc h) ((List.mergeSort_perm _ _).trans hp)
  · rw [decide_eq_true_iff] at h1 h2; omega
  · exact List.pairwise_mergeSort (fun a b c h1 h2 => by rw [decide_eq_true_iff] at h1 h2 ⊢; omega) (fun a b => by simp; omega) _
theorem concat_ev (a b : List Int) (ha : a.length ≤ 1000) (hb : b.length ≤ 1000) : Ev (fun k => slices_Concat_int_int.f k [a, b]) (a ++ b) := by
  have w1 : ∀ z : Int, 0 ≤ z → z ≤ 2000 → wrap64 z = z := fun z h0 h1 => w64_in _ (by omega)
  have r0 : rd_L1 [a, b] 0 = a := rfl
  have r1 : rd_L1 [a, b] 1 = b := rfl
  have w01 : wrap64 (0 + 1) = 1 := w1 1 (by omega) (by omega)
  have w12 : wrap64 (1 + 1) = 2 := w1 2 (by omega) (by omega)
  have hn : ([a, b].length : Int) = 2 := rfl
  unfold slices_Concat_int_int.f
  refine Ev.step (fun k => by rw [slices_Concat_int_int.l0]) ?_
  rw [hn, r0, w01]
  refine ev_pos (by omega) (ev_pos (by omega) (ev_pos (by omega) ?_))
  rw [Int.zero_add, w1 _ (by omega) (by omega)]
  refine ev_neg (by omega) ?_
  refine Ev.step (fun k => by rw [slices_Concat_int_int.l0]) ?_
  rw [hn, r1, w12]
  refine ev_pos (by omega) (ev_pos (by omega) (ev_pos (by omega) ?_))
  rw [w1 _ (by omega) (by omega)]
  refine ev_neg (by omega) ?_
  refine Ev.step (fun k => by rw [slices_Concat_int_int.l0]) ?_
  rw [hn]
  refine ev_neg (by omega) ?_
  have hg : Ev (fun _ => slices_Grow_int_int.f ([] : List Int) ((a.length : Int) + (b.length : Int))) [] := by
    unfold slices_Grow_int_int.f
    refine ev_pos (by omega) (ev_pos (by rw [List.length_nil]; omega) ?_)
    exact Ev.now _
  refine Ev.bind hg ?_
  refine Ev.step (fun k => by rw [slices_Concat_int_int.l1]) ?_
  rw [hn, r0, w01]
  refine ev_pos (by omega) (ev_pos (by omega) (ev_pos (by omega) ?_))
  refine ev_pos (by rw [List.length_nil]; omega) ?_
  rw [List.nil_append]
  refine Ev.step (fun k => by rw [slices_Concat_int_int.l1]) ?_
  rw [hn, r1, w12]
  refine ev_pos (by omega) (ev_pos (by omega) (ev_pos (by omega) ?_))
  refine ev_pos (by omega) ?_
  refine Ev.step (fun k => by rw [slices_Concat_int_int.l1]) ?_
  rw [hn]
  refine ev_neg (by omega) ?_
  exact Ev.now _
theorem SS_few {l : List S61} (h : (occ l).length ≤ 8) : (SS l).length ≤ 256 := by
  unfold SS sl
  rw [List.length_map]
  refine Nat.le_trans (List.length_filter_le _ _) ?_
  rw [List.length_map, List.length_range]
  exact Nat.le_trans (Nat.pow_le_pow_right (by decide) h) (by decide)
theorem all_few {l : List S61} (h : VS l) (h8 : (occ l).length ≤ 8) : all1 l = (SS l, 0) := by
  have := SS_few h8
  unfold all1 solve_All.of
  rw [if_pos ((sysv_VS l).2 h), if_pos (by omega)]
theorem dvars_ev {l : List S61} (h : VS l) (hl : l.length ≤ 1000) : Ev (fun k => solve_Vars.f k l) (occ l) := by
  refine Ev.bind (svalid_ev l (vs_sm h) hl) ?_
  rw [(sysv_VS l).2 h]
  refine ev_pos rfl ?_
  refine Ev.bind (occ_ev l (vs_sm h) hl) ?_
  exact Ev.now _
theorem solveParts_ev (d0 : List S85) (hw0 : ∀ x, x ∈ d0 → 0 ≤ x.f0) (a1 : Int) (ha : 0 ≤ a1 ∧ a1 < 256) : Ev (fun k => ancepslaw40_SolveParts.f k d0 a1) true := by
  unfold ancepslaw40_SolveParts.f
  refine Ev.bind awake_ev (ev_pos rfl ?_)
  obtain ⟨l, e1, hm⟩ := smade_ev d0 hw0
  have h6 := hm.len
  have hV := hm.vs
  have h8 := hm.occ_len
  refine Ev.bind e1 ?_
  refine Ev.bind (dvars_ev hV (by omega)) ?_
  by_cases h0 : ((occ l).length : Int) = 0
  · refine ev_pos h0 ?_
    exact Ev.now _
  refine ev_neg h0 ?_
  rw [w64_in a1 (by omega)]
  have hp : 0 ≤ Int.tmod a1 ((occ l).length : Int) ∧ Int.tmod a1 ((occ l).length : Int) < ((occ l).length : Int) := ⟨Int.tmod_nonneg _ ha.1, Int.tmod_lt_of_pos _ (by omega)⟩
  refine ev_pos hp.1 (ev_pos hp.2 ?_)
  have hv : rd (occ l) (Int.tmod a1 ((occ l).length : Int)) ∈ occ l := by
    have := rd_mem (occ l) (Int.tmod a1 ((occ l).length : Int)).toNat (by omega)
    rw [← nat_of hp.1] at this
    exact this
  generalize rd (occ l) (Int.tmod a1 ((occ l).length : Int)) = v at hv
  have hv0 := hV.occ' v hv
  have hg : ∀ b : Bool, Ev (fun k => solve_Given.f k l v ((b.toNat : Nat) : Int)) (l ++ [⟨[v], [((b.toNat : Nat) : Int)]⟩], 0) := fun b => by
    refine ev_eq (dgiv_ev l hm.sm (by omega) v _) ?_
    unfold giv
    rw [if_pos ((sysv_VS l).2 hV), if_neg (by omega), if_neg (by omega), if_neg (by omega), if_neg (by cases b <;> decide), if_neg (by omega)]
  have hall : ∀ b : Bool, Ev (fun k => solve_All.f k (l ++ [⟨[v], [((b.toNat : Nat) : Int)]⟩])) (SS (l ++ [⟨[v], [((b.toNat : Nat) : Int)]⟩]), 0) := fun b => by
    refine ev_eq (dall_ev _ (vs_sm (given_vs hV (by omega) hv b)) (by rw [List.length_append, List.length_singleton]; omega)) ?_
    exact all_few (given_vs hV (by omega) hv b) (by rw [given_occ hV (by omega) hv]; exact h8)
  have hall0 : Ev (fun k => solve_All.f k l) (SS l, 0) := ev_eq (dall_ev l hm.sm (by omega)) (all_few hV h8)
  refine Ev.bind (hg false) (Ev.bind (hg true) (Ev.bind hall0 (Ev.bind (hall false) (Ev.bind (hall true) ?_))))
  refine ev_pos rfl (ev_pos rfl (ev_pos rfl (ev_pos rfl ?_)))
  have hlen : ∀ b : Bool, (SS (l ++ [⟨[v], [((b.toNat : Nat) : Int)]⟩])).length ≤ 256 := fun b => SS_few (by rw [given_occ hV (by omega) hv]; exact h8)
  have l0 := hlen false
  have l1 := hlen true
  refine Ev.step (fun k => by rw [ancepslaw40_SolveParts.j0]) ?_
  refine ev_neg (show ¬ ((0 : Int) != 0) = true by decide) ?_
  refine Ev.bind (concat_ev (SS (l ++ [⟨[v], [((false.toNat : Nat) : Int)]⟩])) (SS (l ++ [⟨[v], [((true.toNat : Nat) : Int)]⟩])) (by omega) (by omega)) ?_
  have hs : Ev (fun _ => slices_Sort_int_int.f (SS (l ++ [⟨[v], [((false.toNat : Nat) : Int)]⟩]) ++ SS (l ++ [⟨[v], [((true.toNat : Nat) : Int)]⟩]))) (SS l) := by
    unfold slices_Sort_int_int.f
    rw [parts_eq hV (by omega) hv]
    refine ev_pos (by rw [List.length_append]; omega) ?_
    exact Ev.now _
  refine Ev.bind hs ?_
  refine Ev.bind (sequal_ev _ (by have := SS_few h8; omega)) ?_
  exact Ev.now _
theorem u8_in {n : Int} (h : (Lit.int .u8 n).wf = true) : 0 ≤ n ∧ n < 256 := by
  have h2 : IntKind.u8.min ≤ n ∧ n ≤ IntKind.u8.max := by simpa [Lit.wf] using h
  have e1 : IntKind.u8.min = 0 := by decide
  have e2 : IntKind.u8.max = 255 := by decide
  omega

theorem SolveParts (l0 : List (S85)) (a1 : Int) (w_l0 : ∀ x, x ∈ l0 → (Lit.int .u32 x.f0).wf = true ∧ (Lit.int .u64 x.f1).wf = true) (w_a1 : (Lit.int .u8 a1).wf = true) : ∃ k, S.ancepslaw40_SolveParts.f k l0 a1 = some true := ev_rounds (solveParts_ev l0 (fun x hx => (u32_in (w_l0 x hx).1).1) a1 (u8_in w_a1))

end Go.Proofs.Ytbagnalcabdlhaa.Pure
