/- The plain law behind T: about the printed functions alone, no memory and no Go in it. -/
import Derived.Test.YtbagnalcabdlhaaPureD
import Derived.Test.YtbagnalcabdlhaaS18
import Derived.Test.YtbagnalcabdlhaaS19
namespace Go.Proofs.Ytbagnalcabdlhaa.Pure
open Go.RowKit Go.Proofs.YtbagnalcabdlhaaW.PrintWords Go.Proofs.Ytbagnalcabdlhaa.S
set_option linter.unusedVariables false
set_option linter.unusedSimpArgs false
/-! ### The standard refutation as a tree -/
theorem SS_mem {l : List S61} (h : VS l) (a : Nat) : (a : Int) ∈ SS l ↔ sat l a = true ∧ a &&& (a ^^^ mask (occ l) 0) = 0 := by
  unfold SS sl
  constructor
  · intro hm
    obtain ⟨b, hb, e⟩ := List.mem_map.1 hm
    have e' : b = a := by omega
    subst e'
    obtain ⟨h1, h2⟩ := List.mem_filter.1 hb
    refine ⟨h2, ?_⟩
    obtain ⟨i, hi, rfl⟩ := List.mem_map.1 h1
    have hi' := List.mem_range.1 hi
    rw [Nat.or_zero]
    rw [← asgrow_iff h.occ.1, row_asg h.occ.1 hi']
  · rintro ⟨h1, h2⟩
    rw [← asgrow_iff h.occ.1] at h2
    exact List.mem_map.2 ⟨a, List.mem_filter.2 ⟨List.mem_map.2 ⟨row (occ l) a, List.mem_range.2 (row_lt _ _), by rw [Nat.or_zero]; exact h2⟩, h1⟩, rfl⟩
inductive Tr where
  | leaf (t : Int)
  | node (v : Int) (a b : Tr)
namespace Tr
def sz : Tr → Nat
  | leaf _ => 1
  | node _ a b => 1 + a.sz + b.sz
def nod : Tr → Nat → List S35
  | leaf t, _ => [⟨-1, 0, 0, t⟩]
  | node v a b, p => ⟨v, ((p + 1 : Nat) : Int), ((p + 1 + a.sz : Nat) : Int), 0⟩ :: (a.nod (p + 1) ++ b.nod (p + 1 + a.sz))
def full : Tr → Bool
  | leaf t => decide (0 ≤ t)
  | node _ a b => a.full && b.full
theorem sz_pos : ∀ T : Tr, 1 ≤ T.sz
  | leaf _ => Nat.le_refl _
  | node _ a b => by simp only [sz]; omega
theorem nod_len : ∀ (T : Tr) (p : Nat), (T.nod p).length = T.sz
  | leaf _, _ => rfl
  | node _ a b, p => by simp only [nod, sz, List.length_cons, List.length_append, nod_len a, nod_len b]; omega
end Tr
def tree (l : List S61) : List Int → Nat → Nat → Tr
  | [], C, V => .leaf (ffl C V l 0)
  | v :: vs, C, V => if 0 ≤ ffl C V l 0 then .leaf (ffl C V l 0) else .node v (tree l vs (wC C v) (wV V v false)) (tree l vs (wC C v) (wV V v true))
def Free (C V : Nat) (vs : List Int) : Prop := (∀ j, V.testBit j = true → C.testBit j = true) ∧ ∀ v, v ∈ vs → C.testBit v.toNat = false
theorem Free.step {C V : Nat} {v : Int} {vs : List Int} {hi : Int} {p : Option Int} (h : Free C V (v :: vs)) (hc : Chn hi p (v :: vs)) (h0 : ∀ w, w ∈ v :: vs → 0 ≤ w) (b : Bool) : Free (wC C v) (wV V v b) vs := by
  refine ⟨fun j hj => ?_, fun w hw => ?_⟩
  · rw [wV_bit] at hj
    rw [wC_bit]
    by_cases e : v.toNat = j
    · simp [e]
    · simp [e] at hj
      rw [h.1 j hj]; rfl
  · have hlt : v < w := by
      obtain ⟨i, hi', e⟩ := List.getElem_of_mem hw
      exact hc.below 0 (i + 1) v w (by omega) rfl (by simp [List.getElem?_eq_getElem hi', e])
    have h1 := h0 v (.head _)
    rw [wC_bit, h.2 w (.tail _ hw)]
    simp; omega
theorem wV_or {C V : Nat} {v : Int} {vs : List Int} (h : Free C V (v :: vs)) (b : Bool) : wV V v b = V ||| b.toNat * 2 ^ v.toNat := by
  apply Nat.eq_of_testBit_eq
  intro j
  have hv : V.testBit v.toNat = false := by
    cases e : V.testBit v.toNat
    · rfl
    · exact absurd (h.2 v (.head _)) (by rw [h.1 _ e]; decide)
  have e2 : (b.toNat * 2 ^ v.toNat).testBit j = (b && v.toNat == j) := by
    cases b
    · simp
    · rw [Bool.eq_iff_iff]; simp [Nat.testBit_two_pow]
  rw [wV_bit, Nat.testBit_or, e2]
  by_cases e : v.toNat = j
  · subst e; simp [hv]
  · rw [show (v.toNat == j) = false by simpa using e]; simp
/-! ### split -/
theorem with_some {C V : Nat} {v : Int} (b : Bool) (hC : C < 2 ^ 24) (hV : V < 2 ^ 24) (h0 : 0 ≤ v) (h1 : v < 24) : solve_choices_with.f (C : Int) (V : Int) v ((b.toNat : Nat) : Int) = some (((wC C v : Nat) : Int), ((wV V v b : Nat) : Int)) := with_eq b hC hV h0 h1
theorem set_at {α : Type} (l : List α) (x y : α) (r : List α) : (l ++ x :: r).set l.length y = l ++ y :: r := by
  induction l with
  | nil => rfl
  | cons z l ih => exact congrArg (z :: ·) ih
theorem rdT_mid (l r : List S35) (x : S35) : rd_T35 (l ++ x :: r) (l.length : Int) = x := by
  show (l ++ x :: r).getD l.length z35 = x
  simp [List.getD]
theorem with_ev {C V : Nat} {v : Int} {vs : List Int} (b : Bool) (hC : C < 2 ^ 24) (hV : V < 2 ^ 24) (h : 0 ≤ v ∧ v < 24) : Ev (fun _ => solve_choices_with.f (C : Int) (V : Int) (rd (v :: vs) 0) ((b.toNat : Nat) : Int)) (((wC C v : Nat) : Int), ((wV V v b : Nat) : Int)) := by
  rw [show rd (v :: vs) 0 = v from rfl, with_eq b hC hV h.1 h.2]
  exact Ev.now _
theorem split_leaf {l : List S61} (h : VS l) (vs : List Int) (C V : Nat) (acc : List S35) (hC : C < 2 ^ 24) (hV : V < 2 ^ 24) (ha : acc.length < 2000) (hf : 0 ≤ ffl C V l 0) :
    Ev (fun k => solve_split.f k l vs (C : Int) (V : Int) acc) (acc ++ [⟨-1, 0, 0, ffl C V l 0⟩], true) := by
  refine Ev.step (fun k => by rw [solve_split.f, if_neg (by omega)]) ?_
  refine Ev.bind (failing_ev h C V hC hV) ?_
  refine ev_pos hf ?_
  refine ev_pos (by omega) ?_
  exact Ev.now _
theorem split_two (l : List S61) (vs : List Int) (C V : Nat) (acc : List S35) (ha : acc.length = 2000) : Ev (fun k => solve_split.f k l vs (C : Int) (V : Int) acc) (acc, false) := by
  refine Ev.step (fun k => by rw [solve_split.f, if_pos (by omega)]) ?_
  exact Ev.now _
theorem split_node {l : List S61} (h : VS l) (v : Int) (vs : List Int) (C V : Nat) (acc : List S35) (hC : C < 2 ^ 24) (hV : V < 2 ^ 24) (ha : acc.length < 2000) (hf : ¬ 0 ≤ ffl C V l 0) (hv : 0 ≤ v ∧ v < 24) {q1 : List S35 × Bool} {r : List S35 × Bool}
    (e1 : Ev (fun k => solve_split.f k l vs ((wC C v : Nat) : Int) ((wV V v false : Nat) : Int) (acc ++ [⟨v, ((acc.length + 1 : Nat) : Int), 0, 0⟩])) q1)
    (e2 : if q1.2 = true then acc.length < q1.1.length ∧ Ev (fun k => solve_split.f k l vs ((wC C v : Nat) : Int) ((wV V v true : Nat) : Int) (q1.1.set acc.length (⟨(rd_T35 q1.1 (acc.length : Int)).f0, (rd_T35 q1.1 (acc.length : Int)).f1, (q1.1.length : Int), (rd_T35 q1.1 (acc.length : Int)).f3⟩ : S35))) r else r = (q1.1, false)) :
    Ev (fun k => solve_split.f k l (v :: vs) (C : Int) (V : Int) acc) r := by
  refine Ev.step (fun k => by rw [solve_split.f, if_neg (by omega)]) ?_
  refine Ev.bind (failing_ev h C V hC hV) ?_
  refine ev_neg hf ?_
  refine ev_neg (by simp only [List.length_cons]; omega) ?_
  refine ev_pos (by omega) ?_
  refine Ev.bind (with_ev false hC hV hv) ?_
  have e1' : Ev (fun k => solve_split.f k l ((v :: vs).drop 1) ((wC C v : Nat) : Int) ((wV V v false : Nat) : Int) (acc ++ [(⟨rd (v :: vs) 0, wrap64 ((acc.length : Int) + 1), 0, 0⟩ : S35)])) q1 := by
    rw [show rd (v :: vs) 0 = v from rfl, w64_in _ (by omega)]
    exact e1
  refine Ev.bind e1' ?_
  by_cases hq : q1.2 = true
  · rw [if_pos hq] at e2
    refine ev_pos hq ?_
    refine ev_pos (by omega) ?_
    refine Ev.bind (with_ev true hC hV hv) ?_
    exact e2.2
  · rw [if_neg hq] at e2
    refine ev_neg hq ?_
    rw [e2]
    exact Ev.now _
theorem split_ev {l : List S61} (h : VS l) : ∀ (vs : List Int) (C V : Nat) (acc : List S35), C < 2 ^ 24 → V < 2 ^ 24 → (∀ v, v ∈ vs → 0 ≤ v ∧ v < 24) → (tree l vs C V).full = true → acc.length ≤ 2000 →
    ∃ q, Ev (fun k => solve_split.f k l vs (C : Int) (V : Int) acc) q ∧ q.2 = decide (acc.length + (tree l vs C V).sz ≤ 2000) ∧ (q.2 = true → q.1 = acc ++ (tree l vs C V).nod acc.length)
  | [], C, V, acc, hC, hV, hv, hf, ha => by
    by_cases h2 : acc.length = 2000
    · exact ⟨(acc, false), split_two _ _ _ _ _ h2, by rw [eq_comm, decide_eq_false_iff_not]; have := (tree l [] C V).sz_pos; omega, by simp⟩
    · have hf' : 0 ≤ ffl C V l 0 := by simpa [tree, Tr.full] using hf
      exact ⟨_, split_leaf h _ _ _ _ hC hV (by omega) hf', by rw [eq_comm, decide_eq_true_iff]; simp only [tree, Tr.sz]; omega, fun _ => rfl⟩
  | v :: vs, C, V, acc, hC, hV, hv, hf, ha => by
    by_cases h2 : acc.length = 2000
    · exact ⟨(acc, false), split_two _ _ _ _ _ h2, by rw [eq_comm, decide_eq_false_iff_not]; have := (tree l (v :: vs) C V).sz_pos; omega, by simp⟩
    by_cases hf' : 0 ≤ ffl C V l 0
    · rw [tree, if_pos hf']
      exact ⟨_, split_leaf h _ _ _ _ hC hV (by omega) hf', by rw [eq_comm, decide_eq_true_iff]; simp only [Tr.sz]; omega, fun _ => rfl⟩
    have hv0 := hv v (.head _)
    rw [tree, if_neg hf'] at hf ⊢
    simp only [Tr.full, Bool.and_eq_true] at hf
    obtain ⟨q1, e1, f1, g1⟩ := split_ev h vs (wC C v) (wV V v false) (acc ++ [⟨v, ((acc.length + 1 : Nat) : Int), 0, 0⟩]) (wC_lt hC hv0.1 hv0.2) (wV_lt _ hV hv0.1 hv0.2) (fun w hw => hv w (.tail _ hw)) hf.1 (by simp only [List.length_append, List.length_singleton]; omega)
    simp only [List.length_append, List.length_singleton] at f1 g1
    by_cases hq : q1.2 = true
    · have g := g1 hq
      rw [hq, eq_comm, decide_eq_true_iff] at f1
      have hlen : q1.1.length = acc.length + 1 + (tree l vs (wC C v) (wV V v false)).sz := by rw [g]; simp only [List.length_append, List.length_singleton, Tr.nod_len]
      have es : q1.1.set acc.length (⟨(rd_T35 q1.1 (acc.length : Int)).f0, (rd_T35 q1.1 (acc.length : Int)).f1, (q1.1.length : Int), (rd_T35 q1.1 (acc.length : Int)).f3⟩ : S35) = acc ++ ⟨v, ((acc.length + 1 : Nat) : Int), ((acc.length + 1 + (tree l vs (wC C v) (wV V v false)).sz : Nat) : Int), 0⟩ :: (tree l vs (wC C v) (wV V v false)).nod (acc.length + 1) := by
        rw [hlen, g, List.append_assoc, List.singleton_append, set_at, rdT_mid]
      have hl3 : (acc ++ (⟨v, ((acc.length + 1 : Nat) : Int), ((acc.length + 1 + (tree l vs (wC C v) (wV V v false)).sz : Nat) : Int), 0⟩ : S35) :: (tree l vs (wC C v) (wV V v false)).nod (acc.length + 1)).length = acc.length + 1 + (tree l vs (wC C v) (wV V v false)).sz := by simp only [List.length_append, List.length_cons, Tr.nod_len]; omega
      obtain ⟨q2, e2, f2, g2⟩ := split_ev h vs (wC C v) (wV V v true) _ (wC_lt hC hv0.1 hv0.2) (wV_lt _ hV hv0.1 hv0.2) (fun w hw => hv w (.tail _ hw)) hf.2 (show (acc ++ (⟨v, ((acc.length + 1 : Nat) : Int), ((acc.length + 1 + (tree l vs (wC C v) (wV V v false)).sz : Nat) : Int), 0⟩ : S35) :: (tree l vs (wC C v) (wV V v false)).nod (acc.length + 1)).length ≤ 2000 by omega)
      rw [hl3] at f2 g2
      refine ⟨q2, split_node h v vs C V acc hC hV (by omega) hf' hv0 e1 (by rw [if_pos hq, es]; exact ⟨by omega, e2⟩), ?_, ?_⟩
      · rw [f2]
        congr 1
        simp only [Tr.sz, eq_iff_iff]
        omega
      · intro hq2
        rw [g2 hq2]
        simp only [Tr.nod, List.append_assoc, List.cons_append]
    · have hq' : q1.2 = false := by simpa using hq
      rw [hq', eq_comm, decide_eq_false_iff_not] at f1
      refine ⟨(q1.1, false), split_node h v vs C V acc hC hV (by omega) hf' hv0 e1 (by rw [if_neg hq]), ?_, by simp⟩
      rw [eq_comm, decide_eq_false_iff_not]
      simp only [Tr.sz]
      omega
/-! ### The reference's split -/
theorem rinner_loop {t : S61} (h : VT t.f0 t.f1) {C V : Nat} (hC : C < 2 ^ 24) (hV : V < 2 ^ 24) (x5 : Int) (a : Nat) (ha : a < 2 ^ 24) (r : Bool) : ∀ (d i : Nat) (b : Bool), i + d = t.f0.length →
    ((b && (t.f0.drop i).all fun v => !C.testBit v.toNat || a.testBit v.toNat == V.testBit v.toNat) = true → r = false) →
    ((b && (t.f0.drop i).all fun v => !C.testBit v.toNat || a.testBit v.toNat == V.testBit v.toNat) = false → Ev (fun k => ancepsref40_fails.l0 k (wrap64 (x5 + 1)) t.f0 t.f1 (C : Int) (V : Int)) r) →
    Ev (fun k => ancepsref40_fails.l1 k x5 (a : Int) b i t.f0 t.f1 (C : Int) (V : Int)) r
  | 0, i, b, hi, h1, h2 => by
    rw [List.drop_eq_nil_of_le (by omega)] at h1 h2
    refine Ev.step (fun k => by rw [ancepsref40_fails.l1, if_neg (by omega)]) ?_
    cases b
    · exact ev_neg (by decide) (h2 rfl)
    · refine ev_pos rfl ?_
      rw [h1 rfl]
      exact Ev.now _
  | d + 1, i, b, hi, h1, h2 => by
    have hl := h.len
    have hi' : i < t.f0.length := by omega
    have hv := h.vars' _ (rd_mem t.f0 i hi')
    have hw := wrap_succ i t.f0.length hi' (by omega)
    have hs : shl .i64 1 (rd t.f0 i) = ((2 ^ (rd t.f0 i).toNat : Nat) : Int) := by
      have := shl1 (rd t.f0 i).toNat (by omega)
      rw [← nat_of hv.1] at this
      exact this
    have hp : 2 ^ (rd t.f0 i).toNat < 2 ^ 62 := Nat.pow_lt_pow_right (by decide) (by omega)
    have ba := fun x (hx : x < 2 ^ 24) => (bits_nat .i64 62 (by decide) w62 x (2 ^ (rd t.f0 i).toNat) (p62 hx (by decide)) hp).1
    have hb : ∀ x y : Nat, (x &&& 2 ^ (rd t.f0 i).toNat = y &&& 2 ^ (rd t.f0 i).toNat) ↔ x.testBit (rd t.f0 i).toNat = y.testBit (rd t.f0 i).toNat := fun x y => by
      constructor
      · intro e
        have := congrArg (fun z => z.testBit (rd t.f0 i).toNat) e
        simpa [Nat.testBit_and, Nat.testBit_two_pow] using this
      · intro e
        apply Nat.eq_of_testBit_eq
        intro j
        rw [Nat.testBit_and, Nat.testBit_and, Nat.testBit_two_pow]
        by_cases e' : (rd t.f0 i).toNat = j
        · rw [← e', e]
        · simp [e']
    rw [rd_at t.f0 i hi', List.all_cons] at h1 h2
    refine Ev.step (fun k => by rw [ancepsref40_fails.l1, if_pos (by omega)]) ?_
    refine ev_pos (by omega) ?_
    refine ev_pos hv.1 ?_
    rw [hs, ba C hC, ba a ha, ba V hV, hw]
    cases b
    · refine ev_neg (by decide) ?_
      exact rinner_loop h hC hV x5 a ha r d (i + 1) false (by omega) (fun e => by simp at e) (fun _ => h2 rfl)
    · refine ev_pos rfl ?_
      have hc := hb C 0
      rw [Nat.zero_and, Nat.zero_testBit] at hc
      by_cases e : C.testBit (rd t.f0 i).toNat = true
      · refine ev_neg (fun e' => by have := hc.1 (by omega); rw [e] at this; cases this) ?_
        have hav := hb a V
        refine ev_eq (rinner_loop h hC hV x5 a ha r d (i + 1) _ (by omega) (fun e2 => h1 ?_) (fun e2 => h2 ?_)) rfl
        · refine Eq.trans ?_ e2; rw [e, Bool.not_true, Bool.false_or, Bool.true_and]; congr 1; rw [Bool.eq_iff_iff, beq_iff_eq, beq_iff_eq, ← hav]; omega
        · refine Eq.trans ?_ e2; rw [e, Bool.not_true, Bool.false_or, Bool.true_and]; congr 1; rw [Bool.eq_iff_iff, beq_iff_eq, beq_iff_eq, ← hav]; omega
      · rw [Bool.not_eq_true] at e
        refine ev_pos (by have := hc.2 e; omega) ?_
        rw [e] at h1 h2
        exact rinner_loop h hC hV x5 a ha r d (i + 1) true (by omega) (fun e2 => h1 (by simpa using e2)) (fun e2 => h2 (by simpa using e2))
theorem fl_all {t : S61} (h : VT t.f0 t.f1) {C V : Nat} (hs : ∀ j, V.testBit j = true → C.testBit j = true) {x : Int} (hx : x ∈ t.f1) : (x.toNat &&& row t.f0 C == row t.f0 V) = t.f0.all fun v => !C.testBit v.toNat || (asg t.f0 x.toNat).testBit v.toNat == V.testBit v.toNat := by
  have hx' := h.row_of hx
  rw [Bool.eq_iff_iff, beq_iff_eq, List.all_eq_true]
  have key : ∀ m v, t.f0[m]? = some v → ((x.toNat &&& row t.f0 C).testBit m = (row t.f0 V).testBit m ↔ (!C.testBit v.toNat || (asg t.f0 x.toNat).testBit v.toNat == V.testBit v.toNat) = true) := fun m v hm => by
    have r1 : ∀ y : Nat, (row t.f0 y).testBit m = y.testBit v.toNat := fun y => by
      rw [Bool.eq_iff_iff, row_bit]
      constructor
      · rintro ⟨w, hw, hb⟩
        rw [hm] at hw; cases hw; exact hb
      · exact fun hb => ⟨v, hm, hb⟩
    have r2 : (asg t.f0 x.toNat).testBit v.toNat = x.toNat.testBit m := by
      rw [Bool.eq_iff_iff, asg_bit h.vars]
      constructor
      · rintro ⟨m', v', hm', e, hb⟩
        have := h.vars.inj m m' v v' hm hm' e
        subst this; exact hb
      · exact fun hb => ⟨m, v, hm, rfl, hb⟩
    rw [Nat.testBit_and, r1, r1, r2]
    have := hs v.toNat
    revert this
    cases C.testBit v.toNat <;> cases V.testBit v.toNat <;> cases x.toNat.testBit m <;> simp
  constructor
  · intro e v hv
    obtain ⟨m, hm, e'⟩ := List.getElem_of_mem hv
    exact (key m v (by rw [List.getElem?_eq_getElem hm, e'])).1 (by rw [e])
  · intro ha
    apply Nat.eq_of_testBit_eq
    intro m
    by_cases hm : m < t.f0.length
    · exact (key m _ (List.getElem?_eq_getElem hm)).2 (ha _ (List.getElem_mem hm))
    · have r : ∀ y : Nat, (row t.f0 y).testBit m = false := fun y => Nat.testBit_lt_two_pow (Nat.lt_of_lt_of_le (row_lt _ _) (Nat.pow_le_pow_right (by decide) (by omega)))
      rw [Nat.testBit_and, r, r, Bool.and_false]
theorem rfails_loop {t : S61} (h : VT t.f0 t.f1) {C V : Nat} (hC : C < 2 ^ 24) (hV : V < 2 ^ 24) (hs : ∀ j, V.testBit j = true → C.testBit j = true) : ∀ (d i : Nat), i + d = t.f1.length →
    Ev (fun k => ancepsref40_fails.l0 k i t.f0 t.f1 (C : Int) (V : Int)) (!((t.f1.drop i).any fun r => r.toNat &&& row t.f0 C == row t.f0 V))
  | 0, i, hi => by
    rw [List.drop_eq_nil_of_le (by omega)]
    refine Ev.step (fun k => by rw [ancepsref40_fails.l0, if_neg (by omega)]) ?_
    exact Ev.now _
  | d + 1, i, hi => by
    have hr := h.rows_len
    have hl := h.len
    have hi' : i < t.f1.length := by omega
    have hx := rd_mem t.f1 i hi'
    have hw := wrap_succ i t.f1.length hi' (by omega)
    have ih := rfails_loop h hC hV hs d (i + 1) (by omega)
    refine Ev.step (fun k => by rw [ancepsref40_fails.l0, if_pos (by omega)]) ?_
    refine ev_pos (by omega) ?_
    have ea := rasg_ev h.vars (by omega) (rd t.f1 i).toNat
    rw [← nat_of (h.row_of hx).1] at ea
    refine Ev.bind ea ?_
    rw [rd_at t.f1 i hi', List.any_cons, fl_all h hs hx]
    refine rinner_loop h hC hV i _ (asg_lt h.vars _) _ t.f0.length 0 true (by omega) (fun e => ?_) (fun e => ?_)
    · rw [List.drop_zero, Bool.true_and] at e
      rw [e, Bool.true_or, Bool.not_true]
    · rw [List.drop_zero, Bool.true_and] at e
      rw [e, Bool.false_or, hw]
      exact ih
theorem rfails_ev {t : S61} (h : VT t.f0 t.f1) {C V : Nat} (hC : C < 2 ^ 24) (hV : V < 2 ^ 24) (hs : ∀ j, V.testBit j = true → C.testBit j = true) : Ev (fun k => ancepsref40_fails.f k t.f0 t.f1 (C : Int) (V : Int)) (fl t C V) :=
  rfails_loop h hC hV hs t.f1.length 0 (by omega)
theorem rsplit_loop {l : List S61} (h : VS l) (vs : List Int) {C V : Nat} (hC : C < 2 ^ 24) (hV : V < 2 ^ 24) (hs : ∀ j, V.testBit j = true → C.testBit j = true) (acc : List S35) (ha : acc.length < 4398046511104) (r : List S35) :
    ∀ (d i : Nat), i + d = l.length → (0 ≤ ffl C V (l.drop i) i → r = acc ++ [⟨-1, 0, 0, ffl C V (l.drop i) i⟩]) → (¬ 0 ≤ ffl C V (l.drop i) i → Ev (fun k => ancepsref40_split.l0 k l vs acc (l.length : Int) (C : Int) (V : Int)) r) →
    Ev (fun k => ancepsref40_split.l0 k l vs acc i (C : Int) (V : Int)) r
  | 0, i, hi, h1, h2 => by
    have e : i = l.length := by omega
    subst e
    rw [List.drop_eq_nil_of_le (Nat.le_refl _)] at h1 h2
    exact h2 (by simp [ffl])
  | d + 1, i, hi, h1, h2 => by
    have hi' : i < l.length := by omega
    have h16 := h.len
    have hw := wrap_succ i l.length hi' (by omega)
    have hT := h.tab _ (rdT_mem l i hi')
    rw [rdT_at l i hi', ffl] at h1 h2
    refine Ev.step (fun k => by rw [ancepsref40_split.l0, if_pos (by omega)]) ?_
    refine ev_pos (by omega) ?_
    refine Ev.bind (rfails_ev hT hC hV hs) ?_
    by_cases e : fl (rd_T61 l i) C V = true
    · rw [if_pos e] at h1
      refine ev_pos e ?_
      refine ev_pos ha ?_
      rw [h1 (by omega)]
      exact Ev.now _
    · rw [if_neg e] at h1 h2
      refine ev_neg e ?_
      rw [hw]
      exact rsplit_loop h vs hC hV hs acc ha r d (i + 1) (by omega) h1 h2
theorem rwith_ev {C V : Nat} {v : Int} {vs : List Int} (b : Bool) (hC : C < 2 ^ 24) (hV : V < 2 ^ 24) (h : 0 ≤ v ∧ v < 24) (hf : Free C V (v :: vs)) : Ev (fun _ => ancepsref40_choices_with.f (C : Int) (V : Int) (rd (v :: vs) 0) ((b.toNat : Nat) : Int)) (((wC C v : Nat) : Int), ((wV V v b : Nat) : Int)) := by
  have e := with_eq b hC hV h.1 h.2
  rw [show rd (v :: vs) 0 = v from rfl]
  have hs : shl .i64 1 v = ((2 ^ v.toNat : Nat) : Int) := by
    have := shl1 v.toNat (by omega)
    rw [← nat_of h.1] at this
    exact this
  have hp : 2 ^ v.toNat < 2 ^ 62 := Nat.pow_lt_pow_right (by decide) (by omega)
  have hb : shl .i64 ((b.toNat : Nat) : Int) v = ((b.toNat * 2 ^ v.toNat : Nat) : Int) := by
    cases b
    · show shl .i64 0 v = _
      have hz : shl .i64 0 v = 0 := by
        have : v = ((v.toNat : Nat) : Int) := nat_of h.1
        rw [this]
        simp [shl]; rfl
      rw [hz]; simp
    · rw [Bool.toNat_true, Nat.one_mul]; exact hs
  have hp2 : b.toNat * 2 ^ v.toNat < 2 ^ 62 := by
    cases b
    · simp
    · simpa using hp
  unfold ancepsref40_choices_with.f
  rw [if_pos h.1, hs, hb, (bits_nat .i64 62 (by decide) w62 C _ (p62 hC (by decide)) hp).2, (bits_nat .i64 62 (by decide) w62 V _ (p62 hV (by decide)) hp2).2, wV_or hf b]
  exact Ev.now _
theorem rsplit_ev {l : List S61} (h : VS l) : ∀ (vs : List Int) (C V : Nat) (p : Option Int) (acc : List S35), C < 2 ^ 24 → V < 2 ^ 24 → Free C V vs → Chn 24 p vs → (tree l vs C V).full = true → acc.length ≤ 2001 →
    ∃ r, Ev (fun k => ancepsref40_split.f k l vs (C : Int) (V : Int) acc) r ∧ acc.length ≤ r.length ∧ r.length ≤ 2001 ∧ (acc.length + (tree l vs C V).sz ≤ 2000 → r = acc ++ (tree l vs C V).nod acc.length) ∧ (2000 < acc.length + (tree l vs C V).sz → 2000 < r.length)
  | vs, C, V, p, acc, hC, hV, hfr, hc, hf, ha => by
    by_cases h2 : 2000 < acc.length
    · refine ⟨acc, ?_, Nat.le_refl _, ha, fun e => by have := (tree l vs C V).sz_pos; omega, fun _ => h2⟩
      refine Ev.step (fun k => by rw [ancepsref40_split.f, if_pos (by omega)]) ?_
      exact Ev.now _
    by_cases hf' : 0 ≤ ffl C V l 0
    · have et : tree l vs C V = .leaf (ffl C V l 0) := by
        cases vs with
        | nil => rfl
        | cons v vs => rw [tree, if_pos hf']
      rw [et]
      refine ⟨acc ++ [⟨-1, 0, 0, ffl C V l 0⟩], ?_, by simp, by simp; omega, fun _ => rfl, fun e => by simp only [Tr.sz] at e; simp only [List.length_append, List.length_singleton]; omega⟩
      refine Ev.step (fun k => by rw [ancepsref40_split.f, if_neg (by omega)]) ?_
      exact rsplit_loop h vs hC hV hfr.1 acc (by omega) _ l.length 0 (by omega) (fun _ => rfl) (fun e => absurd hf' e)
    match vs, hfr, hc, hf with
    | [], hfr, hc, hf => exact absurd (by simpa [tree, Tr.full] using hf) hf'
    | v :: vs, hfr, hc, hf =>
      have hv0 : 0 ≤ v ∧ v < 24 := ⟨hc.1, hc.2.1⟩
      have hall : ∀ w, w ∈ v :: vs → 0 ≤ w := fun w hw => (hc.mem w hw).1
      rw [tree, if_neg hf'] at hf ⊢
      simp only [Tr.full, Bool.and_eq_true] at hf
      obtain ⟨r1, e1, l1, m1, f1, g1⟩ := rsplit_ev h vs (wC C v) (wV V v false) (some v) (acc ++ [⟨v, ((acc.length + 1 : Nat) : Int), 0, 0⟩]) (wC_lt hC hv0.1 hv0.2) (wV_lt _ hV hv0.1 hv0.2) (hfr.step hc hall false) hc.2.2.2 hf.1 (by simp only [List.length_append, List.length_singleton]; omega)
      simp only [List.length_append, List.length_singleton] at l1 f1 g1
      obtain ⟨r2, e2, l2, m2, f2, g2⟩ := rsplit_ev h vs (wC C v) (wV V v true) (some v) (r1.set ((acc.length : Int)).toNat (⟨(rd_T35 r1 (acc.length : Int)).f0, (rd_T35 r1 (acc.length : Int)).f1, (r1.length : Int), (rd_T35 r1 (acc.length : Int)).f3⟩ : S35)) (wC_lt hC hv0.1 hv0.2) (wV_lt _ hV hv0.1 hv0.2) (hfr.step hc hall true) hc.2.2.2 hf.2 (by rw [List.length_set]; omega)
      rw [List.length_set] at l2 f2 g2
      refine ⟨r2, ?_, by omega, m2, ?_, ?_⟩
      · refine Ev.step (fun k => by rw [ancepsref40_split.f, if_neg (by omega)]) ?_
        refine rsplit_loop h (v :: vs) hC hV hfr.1 acc (by omega) _ l.length 0 (by omega) (fun e => absurd (by rw [List.drop_zero] at e; exact e) hf') (fun _ => ?_)
        refine Ev.step (fun k => by rw [ancepsref40_split.l0, if_neg (by omega)]) ?_
        refine ev_pos (by simp only [List.length_cons]; omega) ?_
        refine ev_pos (by omega) ?_
        refine ev_pos (by simp only [List.length_cons]; omega) ?_
        refine Ev.bind (rwith_ev false hC hV hv0 hfr) ?_
        have e1' : Ev (fun k => ancepsref40_split.f k l ((v :: vs).drop 1) ((wC C v : Nat) : Int) ((wV V v false : Nat) : Int) (acc ++ [(⟨rd (v :: vs) 0, wrap64 ((acc.length : Int) + 1), 0, 0⟩ : S35)])) r1 := by
          rw [show rd (v :: vs) 0 = v from rfl, w64_in _ (by omega)]
          exact e1
        refine Ev.bind e1' ?_
        refine ev_pos (by omega) ?_
        refine ev_pos (by omega) ?_
        refine Ev.bind (rwith_ev true hC hV hv0 hfr) ?_
        refine Ev.bind e2 ?_
        exact Ev.now _
      · intro e
        simp only [Tr.sz] at e
        have e3 := f1 (by omega)
        have hlen : r1.length = acc.length + 1 + (tree l vs (wC C v) (wV V v false)).sz := by rw [e3]; simp only [List.length_append, List.length_singleton, Tr.nod_len]
        rw [f2 (by omega), hlen, Int.toNat_natCast, e3, List.append_assoc, List.singleton_append, set_at, rdT_mid]
        simp only [Tr.nod, List.append_assoc, List.cons_append]
      · intro e
        simp only [Tr.sz] at e
        by_cases e3 : 2000 < acc.length + 1 + (tree l vs (wC C v) (wV V v false)).sz
        · have := g1 e3
          omega
        · have e4 := f1 (by omega)
          have hlen : r1.length = acc.length + 1 + (tree l vs (wC C v) (wV V v false)).sz := by rw [e4]; simp only [List.length_append, List.length_singleton, Tr.nod_len]
          exact g2 (by omega)
  termination_by vs => vs.length
/-! ### All leaves fail, where nothing solves the system -/
theorem full_of {l : List S61} (h : VS l) (hn : SS l = []) : ∀ (vs : List Int) (C V : Nat), (∀ w, w ∈ occ l → C.testBit w.toNat = true ∨ w ∈ vs) → (∀ v, v ∈ vs → v ∈ occ l) → (∀ j, V.testBit j = true → (mask (occ l) 0).testBit j = true) → (tree l vs C V).full = true
  | [], C, V, ho, hm, hv => by
    simp only [tree, Tr.full, decide_eq_true_iff]
    rw [ffl_neg]
    cases e : l.any fun t => fl t C V
    · have hin : (V : Int) ∈ SS l := by
        rw [SS_mem h]
        constructor
        · unfold sat
          rw [List.all_eq_true]
          intro t ht
          rw [List.any_eq_false] at e
          have := e t ht
          have hw : ∀ w, w ∈ t.f0 → C.testBit w.toNat = true := fun w hw => by
            rcases ho w ((h.occ.2 w).2 (List.mem_flatMap.2 ⟨t, ht, hw⟩)) with h1 | h1
            · exact h1
            · cases h1
          rw [fl_full (h.tab t ht) hw] at this
          simpa using this
        · apply Nat.eq_of_testBit_eq
          intro j
          rw [Nat.testBit_and, Nat.testBit_xor, Nat.zero_testBit]
          cases e' : V.testBit j
          · rfl
          · rw [hv j e']; rfl
      rw [hn] at hin; cases hin
    · rfl
  | v :: vs, C, V, ho, hm, hv => by
    rw [tree]
    by_cases hf : 0 ≤ ffl C V l 0
    · rw [if_pos hf]; simpa [Tr.full] using hf
    · have sub : ∀ b, (tree l vs (wC C v) (wV V v b)).full = true := fun b => full_of h hn vs _ _ (fun w hw => by
        rw [wC_bit]
        rcases ho w hw with h1 | h1
        · rw [h1]; exact .inl rfl
        · rcases List.mem_cons.1 h1 with rfl | h1
          · left; simp
          · exact .inr h1) (fun w hw => hm w (.tail _ hw)) (fun j hj => by
        rw [wV_bit] at hj
        by_cases e : v.toNat = j
        · rw [mask_bit, Nat.zero_testBit, Bool.false_or, List.any_eq_true]
          exact ⟨v, hm v (.head _), by simpa using e⟩
        · exact hv j (by simp [e] at hj; exact hj))
      rw [if_neg hf, Tr.full, sub false, sub true]
      rfl
end Go.Proofs.Ytbagnalcabdlhaa.Pure
