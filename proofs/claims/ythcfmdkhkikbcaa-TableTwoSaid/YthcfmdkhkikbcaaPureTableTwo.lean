/- The plain law behind TableTwo: about the printed functions alone, no memory and no Go in it. -/
import Derived.Test.YthcfmdkhkikbcaaPureW
import Derived.Test.YthcfmdkhkikbcaaT23
import Derived.Test.YthcfmdkhkikbcaaT24
import Derived.Test.YthcfmdkhkikbcaaT25
namespace Go.Proofs.Ythcfmdkhkikbcaa.Pure
open Go.RowKit Go.Proofs.YthcfmdkhkikbcaaW.PrintWords Go.Proofs.Ythcfmdkhkikbcaa.T
set_option linter.unusedVariables false
set_option linter.unusedSimpArgs false
/-! ### TableTwo -/
def sames (a b c d : List Int) : Bool × Int := if valid a b = 0 then if valid c d = 0 then (decide (vit a b = vit c d), 0) else (false, valid c d) else (false, valid a b)
theorem pair_dec (p q : List Int × List Int) : decide (p = q) = (decide (p.1 = q.1) && decide (p.2 = q.2)) := by
  obtain ⟨a, b⟩ := p
  obtain ⟨c, d⟩ := q
  rw [Bool.eq_iff_iff]
  simp
theorem vit_small {vs rs : List Int} (h : VT vs rs) : (vit vs rs).1.length ≤ 1024 ∧ (vit vs rs).2.length ≤ 1024 := by
  have := vits_small vs rs
  unfold vits at this
  rw [if_pos ((valid_VT vs rs).2 h)] at this
  exact this
theorem dsame_ev (a b c d : List Int) (ha : a.length ≤ 1000000) (hb : b.length ≤ 1000000) (hc : c.length ≤ 1000000) (hd : d.length ≤ 1000000) : Ev (fun k => table_Same.f k a b c d) (sames a b c d) := by
  refine Ev.bind (valid_ev a b (by omega) (by omega)) (ev_ite (fun h1 => Ev.bind (valid_ev c d (by omega) (by omega)) (ev_ite (fun h2 => ?_) (fun _ => Ev.now _))) (fun _ => Ev.now _))
  have v1 := (valid_VT a b).1 h1
  have v2 := (valid_VT c d).1 h2
  have s1 := vit_small v1
  refine Ev.bind (vital_ev a.length (Nat.le_refl _) v1) (Ev.bind (vital_ev c.length (Nat.le_refl _) v2) (Ev.bind (eqs_ev _ _ (by omega)) ?_))
  rw [pair_dec]
  by_cases e : (vit a b).1 = (vit c d).1
  · rw [decide_eq_true e, Bool.true_and]
    exact ev_pos rfl (Ev.bind (eqs_ev _ _ (by omega)) (Ev.now _))
  · rw [decide_eq_false e, Bool.false_and]
    exact ev_neg (by simp) (Ev.now _)
theorem rlists_loop (a b : List Int) (hl : a.length = b.length) (hm : (a.length : Int) ≤ 9223372036854775807) : ∀ (d i : Nat), i + d = a.length → Ev (fun k => ancepsref38_Lists.l0 k a b i) (decide (a.drop i = b.drop i))
  | 0, i, h => by
    rw [List.drop_eq_nil_of_le (show a.length ≤ i by omega), List.drop_eq_nil_of_le (show b.length ≤ i by omega)]
    exact Ev.step (f := fun _ => some true) (fun k => by rw [ancepsref38_Lists.l0, if_neg (by omega)]) (Ev.now _)
  | d + 1, i, h => by
    have hi : i < a.length := by omega
    have hw := wrap_succ i a.length hi hm
    have ih := rlists_loop a b hl hm d (i + 1) (by omega)
    rw [rd_at a i hi, rd_at b i (by omega)]
    by_cases e : rd a i = rd b i
    · have : decide (rd a i :: a.drop (i + 1) = rd b i :: b.drop (i + 1)) = decide (a.drop (i + 1) = b.drop (i + 1)) := decide_eq_decide.2 ⟨fun h => by injection h, fun h => by rw [e, h]⟩
      rw [this]
      exact Ev.step (fun k => by rw [ancepsref38_Lists.l0, if_pos (by omega), if_pos (by omega), if_pos (by omega), if_pos e, hw]) ih
    · have : decide (rd a i :: a.drop (i + 1) = rd b i :: b.drop (i + 1)) = false := decide_eq_false (fun h => e (by injection h))
      rw [this]
      exact Ev.step (f := fun _ => some false) (fun k => by rw [ancepsref38_Lists.l0, if_pos (by omega), if_pos (by omega), if_pos (by omega), if_neg e]) (Ev.now _)
theorem rlists_ev (a b : List Int) (hm : (a.length : Int) ≤ 9223372036854775807) : Ev (fun k => ancepsref38_Lists.f k a b) (decide (a = b)) := by
  unfold ancepsref38_Lists.f
  by_cases hl : a.length = b.length
  · refine ev_pos (by omega) ?_
    have := rlists_loop a b hl hm a.length 0 (by omega)
    rw [List.drop_zero, List.drop_zero] at this
    exact this
  · have : decide (a = b) = false := decide_eq_false (fun h => hl (by rw [h]))
    rw [this]
    exact ev_neg (by omega) (Ev.now _)
theorem requal_ev (a b c d : List Int) (ha : (a.length : Int) ≤ 9223372036854775807) (hb : (b.length : Int) ≤ 9223372036854775807) : Ev (fun k => ancepsref38_Equal.f k a b c d) (decide ((a, b) = (c, d))) := by
  rw [pair_dec]
  refine Ev.bind (rlists_ev a c ha) ?_
  by_cases e : a = c
  · rw [decide_eq_true e]
    show Ev _ (true && decide (b = d))
    rw [Bool.true_and]
    exact ev_pos rfl (Ev.bind (rlists_ev b d hb) (Ev.now _))
  · rw [decide_eq_false e]
    exact ev_neg (by simp) (Ev.now _)
theorem rsame_ev (a b c d : List Int) (ha : a.length ≤ 1000000) (hb : b.length ≤ 1000000) (hc : c.length ≤ 1000000) (hd : d.length ≤ 1000000) : Ev (fun k => ancepsref38_Same.f k a b c d) (sames a b c d) := by
  have e1 := rvital_ev a b (by omega) (by omega)
  have e2 := rvital_ev c d (by omega) (by omega)
  unfold vits at e1 e2
  unfold sames
  by_cases h1 : valid a b = 0
  · have v1 := (valid_VT a b).1 h1
    have s1 := vit_small v1
    rw [if_pos h1] at e1 ⊢
    by_cases h2 : valid c d = 0
    · rw [if_pos h2] at e2 ⊢
      exact Ev.bind e1 (ev_pos rfl (Ev.bind e2 (ev_pos rfl (Ev.bind (requal_ev (vit a b).1 (vit a b).2 (vit c d).1 (vit c d).2 (by omega) (by omega)) (Ev.now _)))))
    · rw [if_neg h2] at e2 ⊢
      exact Ev.bind e1 (ev_pos rfl (Ev.bind e2 (ev_neg h2 (Ev.now _))))
  · rw [if_neg h1] at e1 ⊢
    exact Ev.bind e1 (ev_neg h1 (Ev.now _))
theorem tableTwo_ev (a b c d : List Int) : Ev (fun k => ancepslaw38_TableTwo.f k a b c d) true := by
  unfold ancepslaw38_TableTwo.f
  refine Ev.bind awake_ev (ev_pos rfl ?_)
  have hno : Ev (fun k => ancepslaw38_TableTwo.j0 k true a b c d) true := Ev.step (fun k => by rw [ancepslaw38_TableTwo.j0, if_pos rfl]) awake_bind
  obtain ⟨x, hx, hs⟩ := few_some a b
  obtain ⟨y, hy, ht⟩ := few_some c d
  simp only [hx, Option.bind_some]
  cases x
  · exact hno
  · refine ev_pos rfl ?_
    simp only [hy, Option.bind_some]
    cases y
    · exact hno
    · obtain ⟨h1, h2⟩ := hs rfl
      obtain ⟨h3, h4⟩ := ht rfl
      obtain ⟨s1, s2⟩ := cmb_small (fun x y => x && y) a b c d
      obtain ⟨s3, s4⟩ := cmb_small (fun x y => x || y) a b c d
      obtain ⟨s5, s6⟩ := cmb_small (fun x y => x && !y) a b c d
      have q1 := equal_ev (cmb (fun x y => x && y) a b c d).1 (cmb (fun x y => x && y) a b c d).2.1 (by omega) (by omega)
      have q2 := equal_ev (cmb (fun x y => x || y) a b c d).1 (cmb (fun x y => x || y) a b c d).2.1 (by omega) (by omega)
      have q3 := equal_ev (cmb (fun x y => x && !y) a b c d).1 (cmb (fun x y => x && !y) a b c d).2.1 (by omega) (by omega)
      have o1 : Ev (fun _ => ancepslaw38_own.f a b) (a, b) := by rw [own_eq a b (by omega) (by omega)]; exact Ev.now _
      have o2 : Ev (fun _ => ancepslaw38_own.f c d) (c, d) := by rw [own_eq c d (by omega) (by omega)]; exact Ev.now _
      have k3 : Ev (fun k => ancepslaw38_TableTwo.j3 k false a b c d) true := by
        refine Ev.step (fun k => by rw [ancepslaw38_TableTwo.j3, if_neg (by simp)]) (Ev.bind o1 (Ev.bind o2 (Ev.bind (dsame_ev a b c d (by omega) (by omega) (by omega) (by omega)) (Ev.bind (rsame_ev a b c d (by omega) (by omega) (by omega) (by omega)) (ev_pos (beq_self_eq_true _) ?_)))))
        rw [beq_self_eq_true]
        exact Ev.now _
      have k2 : Ev (fun k => ancepslaw38_TableTwo.j2 k false a b c d) true :=
        Ev.step (fun k => by rw [ancepslaw38_TableTwo.j2, if_neg (by simp)]) (Ev.bind o1 (Ev.bind o2 (Ev.bind (minus_ev a b c d (by omega) (by omega) (by omega) (by omega)) (Ev.bind (rminus_ev a b c d (by omega) (by omega) (by omega) (by omega)) (ev_pos rfl (Ev.bind q3 k3))))))
      have k1 : Ev (fun k => ancepslaw38_TableTwo.j1 k false a b c d) true :=
        Ev.step (fun k => by rw [ancepslaw38_TableTwo.j1, if_neg (by simp)]) (Ev.bind o1 (Ev.bind o2 (Ev.bind (union_ev a b c d (by omega) (by omega) (by omega) (by omega)) (Ev.bind (runion_ev a b c d (by omega) (by omega) (by omega) (by omega)) (ev_pos rfl (Ev.bind q2 k2))))))
      exact Ev.step (fun k => by rw [show (!true) = false from rfl, ancepslaw38_TableTwo.j0, if_neg (by simp)]) (Ev.bind o1 (Ev.bind o2 (Ev.bind (join_ev a b c d (by omega) (by omega) (by omega) (by omega)) (Ev.bind (rjoin_ev a b c d (by omega) (by omega) (by omega) (by omega)) (ev_pos rfl (Ev.bind q1 k1))))))
theorem TableTwo (l0_0 : List Int) (l0_1 : List Int) (l1_0 : List Int) (l1_1 : List Int) (w_l0_0 : ∀ x, x ∈ l0_0 → (Lit.int .i64 x).wf = true) (w_l0_1 : ∀ x, x ∈ l0_1 → (Lit.int .i64 x).wf = true) (w_l1_0 : ∀ x, x ∈ l1_0 → (Lit.int .i64 x).wf = true) (w_l1_1 : ∀ x, x ∈ l1_1 → (Lit.int .i64 x).wf = true) : ∃ k, T.ancepslaw38_TableTwo.f k l0_0 l0_1 l1_0 l1_1 = some true := ev_rounds (tableTwo_ev l0_0 l0_1 l1_0 l1_1)
end Go.Proofs.Ythcfmdkhkikbcaa.Pure
