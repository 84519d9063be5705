/- The plain law behind B: about the printed functions alone, no memory and no Go in it. -/
import Derived.Test.YthcfmdkhkikbcaaPureA
import Derived.Test.YthcfmdkhkikbcaaT1
namespace Go.Proofs.Ythcfmdkhkikbcaa.Pure
open Go.RowKit Go.Proofs.YthcfmdkhkikbcaaW.PrintWords Go.Proofs.Ythcfmdkhkikbcaa.T
set_option linter.unusedVariables false
set_option linter.unusedSimpArgs false
/-! ### Rows and assignments; has -/
theorem nat_of {v : Int} (h : 0 ≤ v) : v = ((v.toNat : Nat) : Int) := by omega
theorem row_loop (vs : List Int) (hv : ∀ v, v ∈ vs → 0 ≤ v ∧ v < 24) (hl : vs.length ≤ 24) (a : Nat) (ha : a < 2 ^ 60) : ∀ (d i out : Nat), i + d = vs.length → out < 2 ^ i →
    Ev (fun k => table_row.l0 k (a : Int) (out : Int) vs vs.length i) ((rowF a (vs.drop i) i out : Nat) : Int)
  | 0, i, out, h, ho => by
    rw [List.drop_eq_nil_of_le (by omega)]
    exact Ev.step (f := fun _ => some (out : Int)) (fun k => by rw [table_row.l0, if_neg (by omega)]) (Ev.now _)
  | d + 1, i, out, h, ho => by
    have hi : i < vs.length := by omega
    have hw := wrap_succ i vs.length hi (by omega)
    have hm := hv _ (rd_mem vs i hi)
    have ih := row_loop vs hv hl a ha d (i + 1) _ (by omega) (add_lt (a.testBit (rd vs i).toNat) out i ho)
    rw [rd_at vs i hi, rowF]
    refine Ev.step (fun k => ?_) ih
    rw [table_row.l0, if_pos (by omega), if_pos (by omega), if_pos (by omega), if_pos (by omega), hw]
    have hb := or_bit a (rd vs i).toNat i out ha (by omega) (by omega) ho
    rw [← nat_of hm.1] at hb
    rw [hb]
theorem row_ev (vs : List Int) (hv : ∀ v, v ∈ vs → 0 ≤ v ∧ v < 24) (hl : vs.length ≤ 24) (a : Nat) (ha : a < 2 ^ 60) : Ev (fun k => table_row.f k vs (a : Int)) ((row vs a : Nat) : Int) := by
  have := row_loop vs hv hl a ha vs.length 0 0 (by omega) (by decide)
  exact this
theorem asg_loop {vs : List Int} (r : Nat) (hr : r < 2 ^ 60) (hl : vs.length ≤ 24) : ∀ (d i out : Nat) (p : Option Int), i + d = vs.length → Chn 24 p (vs.drop i) → Under out (vs.drop i) →
    Ev (fun k => table_assignment.l0 k (r : Int) (out : Int) vs vs.length i) ((asgF r (vs.drop i) i out : Nat) : Int)
  | 0, i, out, p, h, hc, ho => by
    rw [List.drop_eq_nil_of_le (by omega)]
    exact Ev.step (f := fun _ => some (out : Int)) (fun k => by rw [table_assignment.l0, if_neg (by omega)]) (Ev.now _)
  | d + 1, i, out, p, h, hc, ho => by
    have hi : i < vs.length := by omega
    have hw := wrap_succ i vs.length hi (by omega)
    rw [rd_at vs i hi] at hc ho ⊢
    have hx := add_lt (r.testBit i) out (rd vs i).toNat ho
    have ih := asg_loop r hr hl d (i + 1) _ (some (rd vs i)) (by omega) hc.2.2.2 (under_next hc.2.2.2 hc.1 hx)
    rw [asgF]
    refine Ev.step (fun k => ?_) ih
    have h0 := hc.1
    have h1 := hc.2.1
    rw [table_assignment.l0, if_pos (by omega), if_pos (by omega), if_pos (by omega), if_pos (by omega), hw]
    have hb := or_bit r i (rd vs i).toNat out hr (by omega) (by omega) ho
    rw [← nat_of h0] at hb
    rw [hb]
theorem asg_ev {vs : List Int} (hc : Chn 24 none vs) (hl : vs.length ≤ 24) (r : Nat) (hr : r < 2 ^ 60) : Ev (fun k => table_assignment.f k vs (r : Int)) ((asg vs r : Nat) : Int) := by
  have := asg_loop r hr hl vs.length 0 0 none (by omega) hc (under_zero _)
  exact this
theorem Chn.below {hi : Int} : ∀ {xs : List Int} {p : Option Int}, Chn hi p xs → ∀ (i j : Nat) (x y : Int), i < j → xs[i]? = some x → xs[j]? = some y → x < y
  | [], _, _, i, j, x, y, _, h, _ => by simp at h
  | z :: zs, p, ⟨_, _, _, h3⟩, i, j, x, y, hij, hx, hy => by
    cases j with
    | zero => omega
    | succ j =>
      have hy' : zs[j]? = some y := by simpa using hy
      cases i with
      | zero =>
        obtain rfl : z = x := by simpa using hx
        exact (h3.mem y (List.mem_of_getElem? hy')).2.2 z rfl
      | succ i => exact Chn.below h3 i j x y (by omega) (by simpa using hx) hy'
theorem rd_get (xs : List Int) (i : Nat) (h : i < xs.length) : xs[i]? = some (rd xs i) := by
  simp [rd, List.getD, List.getElem?_eq_getElem h]
theorem u64_wrap (n : Int) (h0 : 0 ≤ n) (h1 : n ≤ 9223372036854775807) : IntKind.u64.wrap n = n := by
  simp [IntKind.wrap, IntKind.bits, IntKind.signed]; omega
theorem search_loop {hi : Int} {rs : List Int} (hc : Chn hi none rs) (hl : (rs.length : Int) ≤ 1000000) (x : Int) : ∀ (d i j : Nat), j - i ≤ d → i ≤ j → j ≤ rs.length → (∀ m y, m < i → rs[m]? = some y → y < x) → (∀ m y, j ≤ m → rs[m]? = some y → x ≤ y) →
    ∃ q : Int × Bool, Ev (fun k => slices_BinarySearch_int_int.l0 k rs x rs.length i j) q ∧ (q.2 = true ↔ x ∈ rs)
  | d, i, j, hd, hij, hj, hlo, hhi => by
    by_cases h : i < j
    · cases d with
      | zero => omega
      | succ d =>
        have hh : (wrap64 ((IntKind.u64.wrap (wrap64 ((i : Int) + (j : Int)))) / 2)) = (((i + j) / 2 : Nat) : Int) := by
          rw [w64_in ((i : Int) + j) (by omega), u64_wrap _ (by omega) (by omega), w64_in _ (by omega)]; omega
        have hm : (i + j) / 2 < rs.length := by omega
        have hg := rd_get rs ((i + j) / 2) hm
        have hless : cmp_Less_int.f (rd rs (((i + j) / 2 : Nat) : Int)) x = some (decide (rd rs (((i + j) / 2 : Nat) : Int) < x)) := by
          simp [cmp_Less_int.f, cmp_isNaN_int.f]
        by_cases hx : rd rs (((i + j) / 2 : Nat) : Int) < x
        · obtain ⟨q, hq, hqi⟩ := search_loop hc hl x d ((i + j) / 2 + 1) j (by omega) (by omega) hj (fun m y hm2 hy => by
            by_cases e : m = (i + j) / 2
            · subst e; rw [hg] at hy; injection hy with hy; omega
            · have := hc.below m ((i + j) / 2) y _ (by omega) hy hg; omega) hhi
          refine ⟨q, Ev.step (fun k => ?_) hq, hqi⟩
          rw [slices_BinarySearch_int_int.l0, if_pos (by omega), hh, if_pos (by omega), if_pos (by omega), hless, Option.bind_some, if_pos (decide_eq_true hx), w64_in _ (by omega)]
          rfl
        · obtain ⟨q, hq, hqi⟩ := search_loop hc hl x d i ((i + j) / 2) (by omega) (by omega) (by omega) hlo (fun m y hm2 hy => by
            by_cases e : m = (i + j) / 2
            · subst e; rw [hg] at hy; injection hy with hy; omega
            · have := hc.below ((i + j) / 2) m _ y (by omega) hg hy; omega)
          refine ⟨q, Ev.step (fun k => ?_) hq, hqi⟩
          rw [slices_BinarySearch_int_int.l0, if_pos (by omega), hh, if_pos (by omega), if_pos (by omega), hless, Option.bind_some, if_neg (by simpa using hx)]
    · have e : i = j := by omega
      subst e
      by_cases hn : i < rs.length
      · have hg := rd_get rs i hn
        by_cases hx : rd rs i = x
        · refine ⟨((i : Int), true), Ev.step (f := fun _ => some ((i : Int), true)) (fun k => ?_) (Ev.now _), ⟨fun _ => hx ▸ rd_mem rs i hn, fun _ => rfl⟩⟩
          rw [slices_BinarySearch_int_int.l0, if_neg (by omega), if_pos (by omega), if_pos (by omega), if_pos (by omega), if_pos hx]
        · refine ⟨((i : Int), false), Ev.step (f := fun _ => some ((i : Int), false)) (fun k => ?_) (Ev.now _), ⟨fun h => by simp at h, fun hm => ?_⟩⟩
          · rw [slices_BinarySearch_int_int.l0, if_neg (by omega), if_pos (by omega), if_pos (by omega), if_pos (by omega), if_neg hx]
            simp [slices_isNaN_int.f]
          · obtain ⟨m, hm2⟩ := List.getElem?_of_mem hm
            rcases Nat.lt_trichotomy m i with h2 | h2 | h2
            · have := hlo m x h2 hm2; omega
            · subst h2; rw [hg] at hm2; injection hm2 with hm2; exact absurd hm2 hx
            · have h3 := hc.below i m _ x h2 hg hm2
              have h4 := hhi i _ (Nat.le_refl _) hg
              omega
      · refine ⟨((i : Int), false), Ev.step (f := fun _ => some ((i : Int), false)) (fun k => ?_) (Ev.now _), ⟨fun h => by simp at h, fun hm => ?_⟩⟩
        · rw [slices_BinarySearch_int_int.l0, if_neg (by omega), if_neg (by omega)]
        · obtain ⟨m, hm2⟩ := List.getElem?_of_mem hm
          have hml : m < rs.length := (List.getElem?_eq_some_iff.1 hm2).1
          have := hlo m x (by omega) hm2; omega
theorem search_ev {hi : Int} {rs : List Int} (hc : Chn hi none rs) (hl : (rs.length : Int) ≤ 1000000) (x : Int) : ∃ q : Int × Bool, Ev (fun k => slices_BinarySearch_int_int.f k rs x) q ∧ q.2 = decide (x ∈ rs) := by
  obtain ⟨q, hq, hqi⟩ := search_loop hc hl x rs.length 0 rs.length (by omega) (by omega) (Nat.le_refl _) (fun m y h => by omega) (fun m y h hy => by
    have := (List.getElem?_eq_some_iff.1 hy).1; omega)
  exact ⟨q, hq, by rw [Bool.eq_iff_iff, hqi]; simp⟩
/-- Whether an assignment belongs to a table. -/
def hs (vs rs : List Int) (a : Nat) : Bool := decide (((row vs a : Nat) : Int) ∈ rs)
theorem VT.vars' {vs rs : List Int} (h : VT vs rs) : ∀ v, v ∈ vs → 0 ≤ v ∧ v < 24 := fun v hv => by have := h.vars.mem v hv; omega
theorem Chn.len1 {hi : Int} : ∀ {xs : List Int} {q : Int}, Chn hi (some q) xs → 0 ≤ q → q < hi → (xs.length : Int) ≤ hi - 1 - q
  | [], _, _, _, _ => by simp; omega
  | x :: xs, q, ⟨h0, h1, h2, h3⟩, _, _ => by
    have := Chn.len1 h3 h0 h1
    have := h2 q rfl
    simp only [List.length_cons]
    omega
theorem Chn.len {hi : Int} {xs : List Int} (h : Chn hi none xs) (h0 : 0 ≤ hi) : (xs.length : Int) ≤ hi := by
  cases xs with
  | nil => simpa using h0
  | cons x xs =>
    have := Chn.len1 h.2.2.2 h.1 h.2.1
    have := h.1
    simp only [List.length_cons]
    omega
theorem pow10 {n : Nat} (h : n ≤ 10) : 2 ^ n ≤ 1024 := by
  have : (2 : Nat) ^ n ≤ 2 ^ 10 := Nat.pow_le_pow_right (by decide) h
  omega
theorem VT.rows_len {vs rs : List Int} (h : VT vs rs) : (rs.length : Int) ≤ 1024 := by
  have h1 := h.rows.len (Int.natCast_nonneg _)
  have h2 := pow10 h.len
  generalize (2 : Nat) ^ vs.length = z at h1 h2
  omega
theorem has_ev {vs rs : List Int} (h : VT vs rs) (a : Nat) (ha : a < 2 ^ 60) : Ev (fun k => table_has.f k vs rs (a : Int)) (hs vs rs a) := by
  have h1 := h.rows_len
  have h2 := h.len
  refine Ev.bind (row_ev vs h.vars' (by omega) a ha) ?_
  obtain ⟨q, hq, hq2⟩ := search_ev h.rows (by omega) ((row vs a : Nat) : Int)
  refine Ev.bind hq ?_
  rw [show hs vs rs a = q.2 from hq2.symm]
  exact Ev.now _
theorem clone_eq (l : List Int) (h : l.length < 17592186044416) : slices_Clone_int_int.f l = some l := by
  unfold slices_Clone_int_int.f
  simp only [Option.bind_some, List.length_nil, List.nil_append, if_pos (show 0 + l.length < 17592186044416 by omega)]
/-- The rows that a test accepts. -/
def flt (t : Nat → Bool) : Nat → Nat → List Int
  | 0, _ => []
  | d + 1, r => if t r = true then (r : Int) :: flt t d (r + 1) else flt t d (r + 1)
theorem flt_mem (t : Nat → Bool) : ∀ (d r : Nat) (x : Int), x ∈ flt t d r ↔ ∃ m : Nat, r ≤ m ∧ m < r + d ∧ t m = true ∧ x = m
  | 0, r, x => by simp [flt]; omega
  | d + 1, r, x => by
    have ih := flt_mem t d (r + 1) x
    rw [flt]
    by_cases h : t r = true
    · rw [if_pos h, List.mem_cons, ih]
      constructor
      · rintro (rfl | ⟨m, h1, h2, h3⟩)
        · exact ⟨r, by omega, by omega, h, rfl⟩
        · exact ⟨m, by omega, by omega, h3⟩
      · rintro ⟨m, h1, h2, h3, h4⟩
        by_cases e : m = r
        · exact .inl (by rw [h4, e])
        · exact .inr ⟨m, by omega, by omega, h3, h4⟩
    · rw [if_neg h, ih]
      constructor
      · rintro ⟨m, h1, h2, h3⟩; exact ⟨m, by omega, by omega, h3⟩
      · rintro ⟨m, h1, h2, h3, h4⟩
        by_cases e : m = r
        · subst e; exact absurd h3 h
        · exact ⟨m, by omega, by omega, h3, h4⟩
theorem flt_chn (t : Nat → Bool) : ∀ (d r : Nat) (p : Option Int), (∀ q, p = some q → q < r) → Chn ((r + d : Nat) : Int) p (flt t d r)
  | 0, _, _, _ => trivial
  | d + 1, r, p, hp => by
    have e : ((r + (d + 1) : Nat) : Int) = ((r + 1 + d : Nat) : Int) := by omega
    rw [flt, e]
    by_cases h : t r = true
    · rw [if_pos h]
      exact ⟨by omega, by omega, hp, flt_chn t d (r + 1) _ (fun q hq => by injection hq; omega)⟩
    · rw [if_neg h]
      exact flt_chn t d (r + 1) p (fun q hq => by have := hp q hq; omega)
theorem flt_len (t : Nat → Bool) : ∀ (d r : Nat), (flt t d r).length ≤ d
  | 0, _ => by simp [flt]
  | d + 1, r => by have := flt_len t d (r + 1); rw [flt]; split <;> simp <;> omega
theorem flt_congr (t u : Nat → Bool) : ∀ (d r : Nat), (∀ m, r ≤ m → m < r + d → t m = u m) → flt t d r = flt u d r
  | 0, _, _ => rfl
  | d + 1, r, h => by rw [flt, flt, h r (by omega) (by omega), flt_congr t u d (r + 1) (fun m h1 h2 => h m (by omega) (by omega))]
def ovr (vs : List Int) (t : Nat → Bool) : List Int := flt (fun r => t (asg vs r)) (2 ^ vs.length) 0
theorem ovr_chn (vs : List Int) (t : Nat → Bool) : Chn ((2 ^ vs.length : Nat) : Int) none (ovr vs t) := by
  have := flt_chn (fun r => t (asg vs r)) (2 ^ vs.length) 0 none (fun q hq => by cases hq)
  rw [Nat.zero_add] at this
  exact this
theorem ovr_mem (vs : List Int) (t : Nat → Bool) (x : Int) : x ∈ ovr vs t ↔ ∃ m : Nat, m < 2 ^ vs.length ∧ t (asg vs m) = true ∧ x = m := by
  unfold ovr
  rw [flt_mem]
  constructor
  · rintro ⟨m, _, h1, h2, h3⟩; exact ⟨m, by omega, h2, h3⟩
  · rintro ⟨m, h1, h2, h3⟩; exact ⟨m, by omega, by omega, h2, h3⟩
/-! all -/
theorem chn_snoc {hi : Int} {x : Int} (h0 : 0 ≤ x) (h1 : x < hi) : ∀ {l : List Int} {p : Option Int}, Chn hi p l → (∀ y, y ∈ l → y < x) → (∀ q, p = some q → q < x) → Chn hi p (l ++ [x])
  | [], _, _, _, hp => ⟨h0, h1, hp, trivial⟩
  | y :: l, p, ⟨a0, a1, a2, a3⟩, hl, hp => ⟨a0, a1, a2, chn_snoc h0 h1 a3 (fun z hz => hl z (List.mem_cons_of_mem _ hz)) (fun q hq => by injection hq with hq; rw [← hq]; exact hl y List.mem_cons_self)⟩
theorem compact_spec {hi : Int} (d : Array Int) (hd : ∀ i j, i ≤ j → j < d.size → d[i]! ≤ d[j]!) (hr : ∀ i, i < d.size → 0 ≤ d[i]! ∧ d[i]! < hi) : ∀ m, m ≤ d.size → Chn hi none (Lib.compactUpTo d m) ∧ ∀ n, n ∈ Lib.compactUpTo d m ↔ ∃ j, j < m ∧ d[j]! = n
  | 0, _ => ⟨by simp [Lib.compactUpTo, Chn], fun n => by simp [Lib.compactUpTo]⟩
  | m + 1, hm => by
    obtain ⟨h1, h2⟩ := compact_spec d hd hr m (by omega)
    have hrm := hr m (by omega)
    rw [Lib.compactUpTo_succ]
    by_cases hk : Lib.keeps d m = true
    · rw [if_pos hk]
      have hk2 : m = 0 ∨ d[m]! ≠ d[m - 1]! := by simpa [Lib.keeps] using hk
      refine ⟨chn_snoc hrm.1 hrm.2 h1 (fun y hy => ?_) (fun q hq => by cases hq), fun n => ?_⟩
      · obtain ⟨j, hj, rfl⟩ := (h2 y).1 hy
        have a1 := hd j (m - 1) (by omega) (by omega)
        have a2 := hd (m - 1) m (by omega) (by omega)
        rcases hk2 with h | h
        · omega
        · omega
      · rw [List.mem_append, h2]
        constructor
        · rintro (⟨j, hj, e⟩ | h)
          · exact ⟨j, by omega, e⟩
          · exact ⟨m, by omega, by simpa using Eq.symm (List.mem_singleton.1 h)⟩
        · rintro ⟨j, hj, e⟩
          by_cases ej : j = m
          · subst ej; exact .inr (by simp [e])
          · exact .inl ⟨j, by omega, e⟩
    · rw [if_neg hk, List.append_nil]
      have hk2 : ¬ (m = 0 ∨ d[m]! ≠ d[m - 1]!) := by simpa [Lib.keeps] using hk
      refine ⟨h1, fun n => ?_⟩
      rw [h2]
      constructor
      · rintro ⟨j, hj, e⟩; exact ⟨j, by omega, e⟩
      · rintro ⟨j, hj, e⟩
        by_cases ej : j = m
        · subst ej
          exact ⟨j - 1, by omega, by rw [← e]; exact (Classical.byContradiction fun hne => hk2 (.inr (fun h => hne h.symm)))⟩
        · exact ⟨j, by omega, e⟩
/-- The members of a list, ascending, each once. -/
theorem sorted_compact {hi : Int} (l : List Int) (hr : ∀ x, x ∈ l → 0 ≤ x ∧ x < hi) : Chn hi none (Lib.compact (l.mergeSort fun x y => decide (x ≤ y))) ∧ ∀ n, n ∈ Lib.compact (l.mergeSort fun x y => decide (x ≤ y)) ↔ n ∈ l := by
  have hp := List.pairwise_mergeSort (le := fun x y : Int => decide (x ≤ y)) (fun a b c h1 h2 => by simp at *; omega) (fun a b => by simp; omega) l
  have hperm := List.mergeSort_perm l (fun x y : Int => decide (x ≤ y))
  generalize hs : l.mergeSort (fun x y => decide (x ≤ y)) = s at hp hperm
  have hget : ∀ i, i < s.length → s.toArray[i]! = s[i]! := fun i hi => by simp
  have key := compact_spec (hi := hi) s.toArray (fun i j hij hj => by
    have hj' : j < s.length := by simpa using hj
    rw [hget i (by omega), hget j hj', List.getElem!_eq_getElem?_getD, List.getElem!_eq_getElem?_getD, List.getElem?_eq_getElem hj', List.getElem?_eq_getElem (show i < s.length by omega)]
    by_cases e : i = j
    · subst e; exact Int.le_refl _
    · have := List.pairwise_iff_getElem.1 hp i j (by omega) hj' (by omega)
      simpa using this) (fun i hi2 => by
    have hi' : i < s.length := by simpa using hi2
    rw [hget i hi', List.getElem!_eq_getElem?_getD, List.getElem?_eq_getElem hi']
    exact hr _ (hperm.mem_iff.1 (List.getElem_mem hi'))) s.length (by simp)
  refine ⟨key.1, fun n => ?_⟩
  have h2 := key.2 n
  unfold Lib.compact
  rw [h2, ← hperm.mem_iff]
  constructor
  · rintro ⟨j, hj, e⟩
    rw [hget j hj, List.getElem!_eq_getElem?_getD, List.getElem?_eq_getElem hj] at e
    exact e ▸ List.getElem_mem hj
  · intro hn
    obtain ⟨j, hj, e⟩ := List.getElem_of_mem hn
    exact ⟨j, hj, by rw [hget j hj, List.getElem!_eq_getElem?_getD, List.getElem?_eq_getElem hj]; exact e⟩
def all2 (a b : List Int) : List Int := Lib.compact ((a ++ b).mergeSort fun x y => decide (x ≤ y))
theorem all2_chn {a b : List Int} (ha : Chn 24 none a) (hb : Chn 24 none b) : Chn 24 none (all2 a b) ∧ ∀ n, n ∈ all2 a b ↔ n ∈ a ∨ n ∈ b := by
  have := sorted_compact (hi := 24) (a ++ b) (fun x hx => by
    rcases List.mem_append.1 hx with h | h
    · have := ha.mem x h; omega
    · have := hb.mem x h; omega)
  exact ⟨this.1, fun n => (this.2 n).trans List.mem_append⟩
theorem concat_ev (a b : List Int) (ha : a.length ≤ 1000000) (hb : b.length ≤ 1000000) : Ev (fun k => slices_Concat_int_int.f k [a, b]) (a ++ b) := by
  have e0 : rd_L1 [a, b] 0 = a := rfl
  have e1 : rd_L1 [a, b] 1 = b := rfl
  unfold slices_Concat_int_int.f
  refine Ev.step (fun k => by rw [slices_Concat_int_int.l0, if_pos (by simp), if_pos (by omega), if_pos (by simp), e0, w64_in (0 + (a.length : Int)) (by omega), if_neg (by omega)]) ?_
  refine Ev.step (fun k => by rw [show wrap64 (0 + 1) = 1 from w64_in _ (by omega), slices_Concat_int_int.l0, if_pos (by simp), if_pos (by omega), if_pos (by simp), e1, w64_in (0 + (a.length : Int) + (b.length : Int)) (by omega), if_neg (by omega)]) ?_
  refine Ev.step (fun k => by rw [show wrap64 (1 + 1) = 2 from w64_in _ (by omega), slices_Concat_int_int.l0, if_neg (by simp)]) ?_
  have hg : slices_Grow_int_int.f [] (0 + (a.length : Int) + (b.length : Int)) = some [] := by
    unfold slices_Grow_int_int.f
    rw [if_pos (by omega), if_pos (by simp; omega)]
  simp only [hg, Option.bind_some]
  refine Ev.step (fun k => by rw [slices_Concat_int_int.l1, if_pos (by simp), if_pos (by omega), if_pos (by simp), e0, if_pos (by simp; omega), List.nil_append]) ?_
  refine Ev.step (fun k => by rw [show wrap64 (0 + 1) = 1 from w64_in _ (by omega), slices_Concat_int_int.l1, if_pos (by simp), if_pos (by omega), if_pos (by simp), e1, if_pos (by omega)]) ?_
  refine Ev.step (f := fun _ => some (a ++ b)) (fun k => by rw [show wrap64 (1 + 1) = 2 from w64_in _ (by omega), slices_Concat_int_int.l1, if_neg (by simp)]) (Ev.now _)
theorem all_ev (a b : List Int) (ha : a.length ≤ 1000000) (hb : b.length ≤ 1000000) : Ev (fun k => table_all.f k a b) (all2 a b) := by
  refine Ev.bind (concat_ev a b ha hb) ?_
  have hs : slices_Sort_int_int.f (a ++ b) = some ((a ++ b).mergeSort fun x y => decide (x ≤ y)) := by
    unfold slices_Sort_int_int.f
    rw [if_pos (by rw [List.length_append]; omega)]
  simp only [hs, Option.bind_some]
  exact Ev.now _
end Go.Proofs.Ythcfmdkhkikbcaa.Pure
