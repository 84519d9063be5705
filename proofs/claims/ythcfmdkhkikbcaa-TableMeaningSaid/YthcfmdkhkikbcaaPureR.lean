/- The plain law behind R: about the printed functions alone, no memory and no Go in it. -/
import Derived.Test.YthcfmdkhkikbcaaPureC
import Derived.Test.YthcfmdkhkikbcaaT2
import Derived.Test.YthcfmdkhkikbcaaT5
import Derived.Test.YthcfmdkhkikbcaaT6
import Derived.Test.YthcfmdkhkikbcaaT7
import Derived.Test.YthcfmdkhkikbcaaT9
namespace Go.Proofs.Ythcfmdkhkikbcaa.Pure
open Go.RowKit Go.Proofs.YthcfmdkhkikbcaaW.PrintWords Go.Proofs.Ythcfmdkhkikbcaa.T
set_option linter.unusedVariables false
set_option linter.unusedSimpArgs false
/-! ### The reference's loops -/
theorem rasc_loop (vs : List Int) (hl : (vs.length : Int) ≤ 9223372036854775807) : ∀ (d i : Nat), i + d = vs.length → Ev (fun k => ancepsref38_Variables.l0 k vs i) (chk 24 (prv vs i) (vs.drop i))
  | 0, i, h => by
    rw [List.drop_eq_nil_of_le (by omega)]
    refine Ev.step (f := fun _ => some 0) (fun k => by rw [ancepsref38_Variables.l0, if_neg (by omega)]) ?_
    cases prv vs i <;> exact Ev.now _
  | d + 1, i, h => by
    have hi : i < vs.length := by omega
    have hw := wrap_succ i vs.length hi hl
    have ih := rasc_loop vs hl d (i + 1) (by omega)
    rw [prv_succ] at ih
    rw [rd_at vs i hi]
    have hno : Ev (fun k => ancepsref38_Variables.j1 k vs i true) 6 := Ev.step (f := fun _ => some 6) (fun k => by rw [ancepsref38_Variables.j1, if_pos rfl]) (Ev.now _)
    have hj : rd vs i < 0 ∨ 24 ≤ rd vs i → ∀ p, chk 24 p (rd vs i :: vs.drop (i + 1)) = 6 := fun h p => by cases p <;> simp only [chk] <;> rw [if_pos h]
    by_cases h0 : rd vs i < 0
    · rw [hj (.inl h0)]
      exact Ev.step (fun k => by rw [ancepsref38_Variables.l0, if_pos (by omega), if_pos (by omega), if_pos h0]) hno
    · by_cases h1 : rd vs i > 23
      · rw [hj (.inr (by omega))]
        exact Ev.step (fun k => by rw [ancepsref38_Variables.l0, if_pos (by omega), if_pos (by omega), if_neg h0, decide_eq_true h1]) hno
      · refine Ev.step (fun k => by rw [ancepsref38_Variables.l0, if_pos (by omega), if_pos (by omega), if_neg h0, decide_eq_false h1]) ?_
        by_cases e : i = 0
        · have ep : prv vs i = none := by unfold prv; rw [if_pos e]
          rw [ep]
          simp only [chk]
          rw [if_neg (by omega)]
          refine Ev.step (fun k => by rw [ancepsref38_Variables.j1, if_neg (by simp), if_neg (by omega), hw]) ih
        · have ep : prv vs i = some (rd vs ((i : Int) - 1)) := by unfold prv; rw [if_neg e]
          rw [ep]
          simp only [chk]
          rw [if_neg (by omega)]
          by_cases h2 : rd vs i ≤ rd vs ((i : Int) - 1)
          · rw [if_pos h2]
            exact Ev.step (f := fun _ => some 18) (fun k => by rw [ancepsref38_Variables.j1, if_neg (by simp), if_pos (by omega), if_pos (by omega), if_pos (by omega), w64_in ((i : Int) - 1) (by omega), if_pos (by omega), if_pos (by omega), if_pos h2]) (Ev.now _)
          · rw [if_neg h2]
            refine Ev.step (fun k => by rw [ancepsref38_Variables.j1, if_neg (by simp), if_pos (by omega), if_pos (by omega), if_pos (by omega), w64_in ((i : Int) - 1) (by omega), if_pos (by omega), if_pos (by omega), if_neg h2, hw]) ih
theorem rasc_ev (vs : List Int) (hl : (vs.length : Int) ≤ 9223372036854775807) : Ev (fun k => ancepsref38_Variables.f k vs) (asc vs) := by
  unfold asc ancepsref38_Variables.f
  refine ev_ite (fun _ => Ev.now _) (fun _ => ?_)
  simpa [prv] using rasc_loop vs hl vs.length 0 (by omega)
theorem rvalid_loop (vs rs : List Int) (hv : vs.length ≤ 10) (hl : (rs.length : Int) ≤ 9223372036854775807) : ∀ (d i : Nat), i + d = rs.length → Ev (fun k => ancepsref38_Valid.l0 k i vs rs) (chk ((2 ^ vs.length : Nat) : Int) (prv rs i) (rs.drop i))
  | 0, i, h => by
    rw [List.drop_eq_nil_of_le (by omega)]
    refine Ev.step (f := fun _ => some 0) (fun k => by rw [ancepsref38_Valid.l0, if_neg (by omega)]) ?_
    cases prv rs i <;> exact Ev.now _
  | d + 1, i, h => by
    have hi : i < rs.length := by omega
    have hw := wrap_succ i rs.length hi hl
    have ih := rvalid_loop vs rs hv hl d (i + 1) (by omega)
    have hs := shl1 vs.length (by omega)
    rw [prv_succ] at ih
    rw [rd_at rs i hi]
    have hno : Ev (fun k => ancepsref38_Valid.j1 k i true vs rs) 6 := Ev.step (f := fun _ => some 6) (fun k => by rw [ancepsref38_Valid.j1, if_pos rfl]) (Ev.now _)
    have hj : rd rs i < 0 ∨ ((2 ^ vs.length : Nat) : Int) ≤ rd rs i → ∀ p, chk ((2 ^ vs.length : Nat) : Int) p (rd rs i :: rs.drop (i + 1)) = 6 := fun h p => by cases p <;> simp only [chk] <;> rw [if_pos h]
    by_cases h0 : rd rs i < 0
    · rw [hj (.inl h0)]
      exact Ev.step (fun k => by rw [ancepsref38_Valid.l0, if_pos (by omega), if_pos (by omega), if_pos h0]) hno
    · by_cases h1 : rd rs i ≥ ((2 ^ vs.length : Nat) : Int)
      · rw [hj (.inr h1)]
        exact Ev.step (fun k => by rw [ancepsref38_Valid.l0, if_pos (by omega), if_pos (by omega), if_neg h0, hs, decide_eq_true h1]) hno
      · refine Ev.step (fun k => by rw [ancepsref38_Valid.l0, if_pos (by omega), if_pos (by omega), if_neg h0, hs, decide_eq_false h1]) ?_
        by_cases e : i = 0
        · have ep : prv rs i = none := by unfold prv; rw [if_pos e]
          rw [ep]
          simp only [chk]
          rw [if_neg (by omega)]
          refine Ev.step (fun k => by rw [ancepsref38_Valid.j1, if_neg (by simp), if_neg (by omega), hw]) ih
        · have ep : prv rs i = some (rd rs ((i : Int) - 1)) := by unfold prv; rw [if_neg e]
          rw [ep]
          simp only [chk]
          rw [if_neg (by omega)]
          by_cases h2 : rd rs i ≤ rd rs ((i : Int) - 1)
          · rw [if_pos h2]
            exact Ev.step (f := fun _ => some 18) (fun k => by rw [ancepsref38_Valid.j1, if_neg (by simp), if_pos (by omega), if_pos (by omega), if_pos (by omega), w64_in ((i : Int) - 1) (by omega), if_pos (by omega), if_pos (by omega), if_pos h2]) (Ev.now _)
          · rw [if_neg h2]
            refine Ev.step (fun k => by rw [ancepsref38_Valid.j1, if_neg (by simp), if_pos (by omega), if_pos (by omega), if_pos (by omega), w64_in ((i : Int) - 1) (by omega), if_pos (by omega), if_pos (by omega), if_neg h2, hw]) ih
theorem rvalid_ev (vs rs : List Int) (hl : (vs.length : Int) ≤ 9223372036854775807) (hr : (rs.length : Int) ≤ 9223372036854775807) : Ev (fun k => ancepsref38_Valid.f k vs rs) (valid vs rs) := by
  unfold valid
  refine Ev.bind (rasc_ev vs hl) ?_
  refine ev_ite (fun h => ?_) (fun _ => Ev.now _)
  simpa [prv] using rvalid_loop vs rs (asc_len h) hr rs.length 0 (by omega)
theorem plus_bit (x n i out : Nat) (hn : n ≤ 60) (hi : i ≤ 30) (ho : out < 2 ^ i) : wrap64 ((out : Int) + shl .i64 (Int.tmod (shr .i64 (x : Int) (n : Int)) 2) (i : Int)) = ((out + (x.testBit n).toNat * 2 ^ i : Nat) : Int) := by
  have hb : IntKind.i64.bits = 64 := rfl
  have h1 : shr .i64 (x : Int) (n : Int) = ((x / 2 ^ n : Nat) : Int) := by
    unfold shr
    rw [hb, show min ((n : Int)).toNat 64 = n by omega]
    simp
  have h2 : Int.tmod ((x / 2 ^ n : Nat) : Int) 2 = (((x.testBit n).toNat : Nat) : Int) := by
    rw [Nat.toNat_testBit, Int.tmod_eq_emod_of_nonneg (Int.natCast_nonneg _)]
    simp
  have hip : (2 : Nat) ^ i ≤ 2 ^ 30 := Nat.pow_le_pow_right (by decide) hi
  have h30 : (2 : Nat) ^ 30 = 1073741824 := by decide
  have hbl : (x.testBit n).toNat * 2 ^ i ≤ 2 ^ i := by cases x.testBit n <;> simp
  have h3 : shl .i64 (((x.testBit n).toNat : Nat) : Int) (i : Int) = (((x.testBit n).toNat * 2 ^ i : Nat) : Int) := by
    unfold shl
    rw [hb, show min ((i : Int)).toNat 64 = i by omega]
    have e : (((x.testBit n).toNat : Nat) : Int) * 2 ^ i = (((x.testBit n).toNat * 2 ^ i : Nat) : Int) := by simp
    rw [e, IntKind.wrap_i64]
    omega
  rw [h1, h2, h3, w64_in _ (by omega)]
  omega
theorem rrow_loop (vs : List Int) (hv : ∀ v, v ∈ vs → 0 ≤ v ∧ v < 24) (hl : vs.length ≤ 24) (a : Nat) : ∀ (d i out : Nat), i + d = vs.length → out < 2 ^ i →
    Ev (fun k => ancepsref38_Row.l0 k vs (a : Int) (out : Int) i) ((rowF a (vs.drop i) i out : Nat) : Int)
  | 0, i, out, h, ho => by
    rw [List.drop_eq_nil_of_le (by omega)]
    exact Ev.step (f := fun _ => some (out : Int)) (fun k => by rw [ancepsref38_Row.l0, if_neg (by omega)]) (Ev.now _)
  | d + 1, i, out, h, ho => by
    have hi : i < vs.length := by omega
    have hw := wrap_succ i vs.length hi (by omega)
    have hm := hv _ (rd_mem vs i hi)
    have ih := rrow_loop vs hv hl a d (i + 1) _ (by omega) (add_lt (a.testBit (rd vs i).toNat) out i ho)
    rw [rd_at vs i hi, rowF]
    refine Ev.step (fun k => ?_) ih
    rw [ancepsref38_Row.l0, if_pos (by omega), if_pos (by omega), if_pos (by omega), hw]
    have hb := plus_bit a (rd vs i).toNat i out (by omega) (by omega) ho
    rw [← nat_of hm.1] at hb
    rw [hb]
theorem rrow_ev (vs : List Int) (hv : ∀ v, v ∈ vs → 0 ≤ v ∧ v < 24) (hl : vs.length ≤ 24) (a : Nat) : Ev (fun k => ancepsref38_Row.f k vs (a : Int)) ((row vs a : Nat) : Int) := by
  have := rrow_loop vs hv hl a vs.length 0 0 (by omega) (by decide)
  exact this
theorem rasg_loop {vs : List Int} (r : Nat) (hl : vs.length ≤ 24) : ∀ (d i out : Nat) (p : Option Int), i + d = vs.length → Chn 24 p (vs.drop i) → Under out (vs.drop i) →
    Ev (fun k => ancepsref38_Assignment.l0 k vs (r : Int) (out : Int) i) ((asgF r (vs.drop i) i out : Nat) : Int)
  | 0, i, out, p, h, hc, ho => by
    rw [List.drop_eq_nil_of_le (by omega)]
    exact Ev.step (f := fun _ => some (out : Int)) (fun k => by rw [ancepsref38_Assignment.l0, if_neg (by omega)]) (Ev.now _)
  | d + 1, i, out, p, h, hc, ho => by
    have hi : i < vs.length := by omega
    have hw := wrap_succ i vs.length hi (by omega)
    rw [rd_at vs i hi] at hc ho ⊢
    have hx := add_lt (r.testBit i) out (rd vs i).toNat ho
    have ih := rasg_loop r hl d (i + 1) _ (some (rd vs i)) (by omega) hc.2.2.2 (under_next hc.2.2.2 hc.1 hx)
    rw [asgF]
    refine Ev.step (fun k => ?_) ih
    have h0 := hc.1
    have h1 := hc.2.1
    rw [ancepsref38_Assignment.l0, if_pos (by omega), if_pos (by omega), if_pos (by omega), hw]
    have hb := plus_bit r i (rd vs i).toNat out (by omega) (by omega) ho
    rw [← nat_of h0] at hb
    rw [hb]
theorem rasg_ev {vs : List Int} (hc : Chn 24 none vs) (hl : vs.length ≤ 24) (r : Nat) : Ev (fun k => ancepsref38_Assignment.f k vs (r : Int)) ((asg vs r : Nat) : Int) := by
  have := rasg_loop r hl vs.length 0 0 none (by omega) hc (under_zero _)
  exact this
theorem in_loop (rs : List Int) (hl : (rs.length : Int) ≤ 9223372036854775807) (x : Int) : ∀ (d i : Nat), i + d = rs.length → Ev (fun k => ancepsref38_in.l0 k rs x i) (decide (x ∈ rs.drop i))
  | 0, i, h => by
    rw [List.drop_eq_nil_of_le (by omega)]
    exact Ev.step (f := fun _ => some false) (fun k => by rw [ancepsref38_in.l0, if_neg (by omega)]) (by simpa using Ev.now _)
  | d + 1, i, h => by
    have hi : i < rs.length := by omega
    have hw := wrap_succ i rs.length hi hl
    have ih := in_loop rs hl x d (i + 1) (by omega)
    rw [rd_at rs i hi]
    by_cases e : rd rs i = x
    · have : decide (x ∈ rd rs i :: rs.drop (i + 1)) = true := by simp [e]
      rw [this]
      exact Ev.step (f := fun _ => some true) (fun k => by rw [ancepsref38_in.l0, if_pos (by omega), if_pos (by omega), if_pos e]) (Ev.now _)
    · have : decide (x ∈ rd rs i :: rs.drop (i + 1)) = decide (x ∈ rs.drop (i + 1)) := by
        rw [decide_eq_decide, List.mem_cons]
        exact ⟨fun h => by rcases h with h | h; exact absurd h.symm e; exact h, .inr⟩
      rw [this]
      exact Ev.step (fun k => by rw [ancepsref38_in.l0, if_pos (by omega), if_pos (by omega), if_neg e, hw]) ih
theorem in_ev (rs : List Int) (hl : (rs.length : Int) ≤ 9223372036854775807) (x : Int) : Ev (fun k => ancepsref38_in.f k rs x) (decide (x ∈ rs)) := by
  have := in_loop rs hl x rs.length 0 (by omega)
  rw [List.drop_zero] at this
  exact this
theorem lists_loop (l : List Int) (hl : (l.length : Int) ≤ 9223372036854775807) : ∀ (d i : Nat), i + d = l.length → Ev (fun k => ancepsref38_Lists.l0 k l l i) true
  | 0, i, h => Ev.step (f := fun _ => some true) (fun k => by rw [ancepsref38_Lists.l0, if_neg (by omega)]) (Ev.now _)
  | d + 1, i, h => by
    have hw := wrap_succ i l.length (by omega) hl
    refine Ev.step (fun k => ?_) (lists_loop l hl d (i + 1) (by omega))
    rw [ancepsref38_Lists.l0, if_pos (by omega), if_pos (by omega), if_pos (by omega), if_pos rfl, hw]
theorem lists_ev (l : List Int) (hl : (l.length : Int) ≤ 9223372036854775807) : Ev (fun k => ancepsref38_Lists.f k l l) true :=
  ev_pos rfl (lists_loop l hl l.length 0 (by omega))
theorem equal_ev (vs rs : List Int) (hl : (vs.length : Int) ≤ 9223372036854775807) (hr : (rs.length : Int) ≤ 9223372036854775807) : Ev (fun k => ancepsref38_Equal.f k vs rs vs rs) true :=
  Ev.bind (lists_ev vs hl) (ev_pos rfl (Ev.bind (lists_ev rs hr) (Ev.now _)))
theorem few_some (vs rs : List Int) : ∃ b, ancepsref38_Few.f vs rs = some b ∧ (b = true → vs.length ≤ 12 ∧ rs.length ≤ 1030) := by
  unfold ancepsref38_Few.f
  by_cases h1 : (vs.length : Int) ≤ 12
  · rw [if_pos h1]; exact ⟨_, rfl, fun h => by have := of_decide_eq_true h; omega⟩
  · rw [if_neg h1]; exact ⟨_, rfl, fun h => by simp at h⟩
theorem own_eq (vs rs : List Int) (h1 : vs.length < 17592186044416) (h2 : rs.length < 17592186044416) : ancepslaw38_own.f vs rs = some (vs, rs) := by
  unfold ancepslaw38_own.f
  rw [clone_eq vs h1, clone_eq rs h2]; rfl
/-! projected -/
theorem rdb_set (o : List Bool) (m n : Nat) (v : Bool) (hl : m < o.length) : rdOf false (o.set m v) (n : Int) = if m = n then v else rdOf false o (n : Int) := by
  unfold rdOf
  rw [Int.toNat_natCast]
  by_cases h : m = n
  · subst h; rw [if_pos rfl, List.getD, List.getElem?_set_self hl]; rfl
  · rw [if_neg h]; simp [List.getD, List.getElem?_set_ne h]
def fnd (vs us : List Int) : List Int → List Bool → List Bool
  | [], F => F
  | r :: rs, F => fnd vs us rs (F.set (row us (asg vs r.toNat)) true)
theorem fnd_length (vs us : List Int) : ∀ (rs : List Int) (F : List Bool), (fnd vs us rs F).length = F.length
  | [], _ => rfl
  | r :: rs, F => by rw [fnd, fnd_length vs us rs]; simp
theorem fnd_at (vs us : List Int) : ∀ (rs : List Int) (F : List Bool), F.length = 2 ^ us.length → ∀ m : Nat, rdOf false (fnd vs us rs F) (m : Int) = (rdOf false F (m : Int) || rs.any fun r => row us (asg vs r.toNat) == m)
  | [], F, _, m => by simp [fnd]
  | r :: rs, F, hF, m => by
    rw [fnd, fnd_at vs us rs _ (by simpa using hF) m, rdb_set _ _ _ _ (by rw [hF]; exact row_lt _ _), List.any_cons]
    by_cases e : row us (asg vs r.toNat) = m
    · rw [if_pos e, beq_iff_eq.2 e]; simp
    · rw [if_neg e, beq_eq_false_iff_ne.2 e, Bool.false_or]
theorem proj_rows (F : List Bool) (us : List Int) (hl : F.length ≤ 1024) : ∀ (d i : Nat) (acc : List Int), i + d = F.length → acc.length ≤ i → Ev (fun k => ancepsref38_projected.l1 k F i us acc) (us, acc ++ flt (fun m => rdOf false F (m : Int)) d i)
  | 0, i, acc, h, ha => Ev.step (f := fun _ => some (us, acc)) (fun k => by rw [ancepsref38_projected.l1, if_neg (by omega)]) (by simpa [flt] using Ev.now _)
  | d + 1, i, acc, h, ha => by
    have hw := wrap_succ i F.length (by omega) (by omega)
    rw [flt]
    by_cases e : rdOf false F (i : Int) = true
    · have ih := proj_rows F us hl d (i + 1) (acc ++ [(i : Int)]) (by omega) (by simp; omega)
      rw [if_pos e]
      rw [List.append_assoc, List.singleton_append] at ih
      exact Ev.step (fun k => by rw [ancepsref38_projected.l1, if_pos (by omega), if_pos (by omega), if_pos e, if_pos (by omega), hw]) ih
    · have ih := proj_rows F us hl d (i + 1) acc (by omega) (by omega)
      rw [if_neg e]
      exact Ev.step (fun k => by rw [ancepsref38_projected.l1, if_pos (by omega), if_pos (by omega), if_neg e, hw]) ih
theorem proj_loop {vs rs : List Int} (hc : Chn 24 none vs) (hvl : vs.length ≤ 24) (hr0 : ∀ r, r ∈ rs → 0 ≤ r) (hrl : (rs.length : Int) ≤ 1000000) {us : List Int} (hu : ∀ v, v ∈ us → 0 ≤ v ∧ v < 24) (hul : us.length ≤ 10) (V : List Int) {q : List Int × List Int} : ∀ (d i : Nat) (F : List Bool), i + d = rs.length → F.length = 2 ^ us.length →
    Ev (fun k => ancepsref38_projected.l1 k (fnd vs us (rs.drop i) F) 0 V []) q → Ev (fun k => ancepsref38_projected.l0 k us F i vs rs V) q
  | 0, i, F, h, hF, hq => by
    rw [List.drop_eq_nil_of_le (by omega)] at hq
    exact Ev.step (fun k => by rw [ancepsref38_projected.l0, if_neg (by omega)]; rfl) hq
  | d + 1, i, F, h, hF, hq => by
    have hi : i < rs.length := by omega
    have hw := wrap_succ i rs.length hi (by omega)
    have h0 := hr0 _ (rd_mem rs i hi)
    rw [rd_at rs i hi, fnd] at hq
    have ih := proj_loop hc hvl hr0 hrl hu hul V d (i + 1) _ (by omega) (by simpa using hF) hq
    have ha := rasg_ev hc hvl (rd rs i).toNat
    rw [← nat_of h0] at ha
    have hlt := row_lt us (asg vs (rd rs i).toNat)
    have hlt2 : ((row us (asg vs (rd rs i).toNat) : Nat) : Int) < (F.length : Int) := by rw [hF]; omega
    refine Ev.step (fun k => by rw [ancepsref38_projected.l0, if_pos (by omega), if_pos (by omega), hw]) (Ev.bind ha (Ev.bind (rrow_ev us hu (by omega) _) (ev_pos (Int.natCast_nonneg _) (ev_pos hlt2 ?_))))
    rw [Int.toNat_natCast]
    exact ih
theorem proj_ev {vs rs : List Int} (hc : Chn 24 none vs) (hvl : vs.length ≤ 24) (hr0 : ∀ r, r ∈ rs → 0 ≤ r) (hrl : (rs.length : Int) ≤ 1000000) {us : List Int} (hu : ∀ v, v ∈ us → 0 ≤ v ∧ v < 24) (hul : us.length ≤ 10) : Ev (fun k => ancepsref38_projected.f k vs rs us) (us, prj vs rs us) := by
  have hp := pow10 hul
  unfold ancepsref38_projected.f
  rw [shl1 us.length (by omega)]
  refine ev_some (ev_pos (by simp; omega) (ev_pos (Int.natCast_nonneg _) (ev_pos (by rw [Int.toNat_natCast]; omega) ?_)))
  rw [Int.toNat_natCast, List.nil_append]
  refine proj_loop hc hvl hr0 hrl hu hul us rs.length 0 _ (by omega) (by simp) ?_
  rw [List.drop_zero]
  have hfl := fnd_length vs us rs (List.replicate (2 ^ us.length) false)
  rw [List.length_replicate] at hfl
  have := proj_rows (fnd vs us rs (List.replicate (2 ^ us.length) false)) us (by rw [hfl]; exact hp) (2 ^ us.length) 0 [] (by rw [hfl]; omega) (by simp)
  rw [List.nil_append] at this
  unfold prj
  rw [flt_congr _ (fun m => rdOf false (fnd vs us rs (List.replicate (2 ^ us.length) false)) (m : Int)) _ _ (fun m _ _ => by
    rw [fnd_at vs us rs _ (by simp) m]
    have : rdOf false (List.replicate (2 ^ us.length) false) (m : Int) = false := by
      unfold rdOf
      simp only [List.getD, List.getElem?_replicate]
      split <;> rfl
    rw [this, Bool.false_or])]
  exact this
end Go.Proofs.Ythcfmdkhkikbcaa.Pure
