-- Written by wip/tools/myprint.py, a program of this session's.
import Derived.Test.YtbagnalcabdlhaaS0
import Derived.Test.YtbagnalcabdlhaaS2
import Derived.Test.YtbagnalcabdlhaaS4
import Derived.Test.YtbagnalcabdlhaaS6
import Derived.Test.YtbagnalcabdlhaaS7
import Derived.Test.YtbagnalcabdlhaaS8
import Derived.Test.YtbagnalcabdlhaaS10
import Derived.Test.YtbagnalcabdlhaaS15
import Derived.Test.YtbagnalcabdlhaaS17
namespace Go.Proofs.Ytbagnalcabdlhaa.S
open Go.RowKit Go.Proofs.YtbagnalcabdlhaaW.PrintWords Go.Proofs.YtbagnalcabdlhaaW.PrintLast Go.Proofs.YtbagnalcabdlhaaW.PrintMore
attribute [local go_sem] max2_int min2_int max_two min_two max_three min_three max_four min_four   -- for this text's walks alone
set_option linter.unusedVariables false
set_option linter.unusedSimpArgs false
/-! ### ancepsref40_First: function 24 -/
def ancepsref40_First.f (k : Nat) (l0 : List (S61)) : Option (Int × Int) := (ancepsref40_Valid.f k l0).bind fun t468 => (if t468 = 0 then ((ancepsref40_solutions.f k l0 1).bind fun t469 => (if (t469.length : Int) = 0 then (some (0, 10)) else (if 0 < (t469.length : Int) then (some (rd t469 0, 0)) else (none)))) else (some (0, t468)))
theorem ancepsref40_First.mono : ∀ a0 k, LeO (ancepsref40_First.f k a0) (ancepsref40_First.f (k + 1) a0) := by
 intro a0 k
 unfold ancepsref40_First.f
 repeat' first
   | (with_reducible exact ancepsref40_Valid.mono _ _)
   | (with_reducible exact ancepsref40_solutions.mono _ _ _)
   | (with_reducible exact LeO.refl _)
   | (with_reducible exact LeO.none _)
   | (with_reducible refine LeO.ite ?_ ?_)
   | (with_reducible refine LeO.bind ?_ (fun _ => ?_))
   | exact ancepsref40_Valid.mono _ _
   | exact ancepsref40_solutions.mono _ _ _
   | exact LeO.none _
   | refine LeO.ite ?_ ?_
   | refine LeO.bind ?_ (fun _ => ?_)
set_option maxHeartbeats 8000000 in
set_option maxRecDepth 100000 in
theorem ancepsref40_First.calls (k : Nat) (A0 : Option Addr) (c0 : Nat) (l0 : List (S61)) (r1 : Int) (r2 : Int) (w : World) (hr0 : Kd.C k61 w A0 l0.length l0) (hc0 : l0.length ≤ c0) (h : ancepsref40_First.f k l0 = some (r1, r2)) :
  Calls Try.prog 24 #[.slice A0 l0.length c0] w fun e w' => e = .returned (.tuple #[.int .i64 r1, .int .i64 r2]) ∧ Below w.heap.size w w' := by
 have hu3 := Try.underlying3
 have HR0 := Aside0.mk hr0
 have HC0 := Aside0.mk hc0
 clear hr0 hc0
 have HB := Aside0.mk (Below.refl w.heap.size w)
 have H : ((ancepsref40_Valid.f k l0).bind fun t468 => (if t468 = 0 then ((ancepsref40_solutions.f k l0 1).bind fun t469 => (if (t469.length : Int) = 0 then (some (0, 10)) else (if 0 < (t469.length : Int) then (some (rd t469 0, 0)) else (none)))) else (some (0, t468)))) = some (r1, r2) := h
 clear h
 replace H := Option.bind_eq_some_iff.mp H
 obtain ⟨t468, A20, H⟩ := H
 replace H : (if t468 = 0 then ((ancepsref40_solutions.f k l0 1).bind fun t469 => (if (t469.length : Int) = 0 then (some (0, 10)) else (if 0 < (t469.length : Int) then (some (rd t469 0, 0)) else (none)))) else (some (0, t468))) = some (r1, r2) := H
 have A2 := Aside0.mk A20
 clear A20
 have HC3 := Aside0.mk H
 clear H
 go_enter Try.func24, Try.ntmps24
 go_upto_if 9 with (first | ((with_reducible refine gate_callee (f := 50) rfl ?_); refine goesL_ (some 7) rfl rfl Try.func50 zK rfl #[.slice A0 l0.length c0] rfl zM ?_; (with_reducible refine (ancepsref40_Valid.calls k _ _ l0 t468 _ ?side1 ?side2 A2.out).mono ?_); (case side1 => repeat (first | exact HR0.out | (with_reducible refine Kd.C_alloc ?_ _) | (with_reducible refine Kd.C_drewN ?_ _) | (with_reducible refine Kd.C_drew ?_))); (case side2 => exact HC0.out); rintro e w4 ⟨rfl, hb⟩; refine ⟨_, rfl, ?_⟩; have n0_ := Aside0.mk (below_step zB hb); clear HB; have HB := n0_; clear n0_; (try clear hb); (try clear hb2); (try clear hk); (try clear hi)))
 (try simp only [Act.put, List.setIfInBounds_toArray, List.set_cons_zero, List.set_cons_succ])
 have H := HC3.out
 clear HC3
 by_cases c5 : t468 = 0
 ·rw [if_pos c5] at H
  have c5b0 : (t468 == 0) = true := beq_iff_eq.mpr c5
  have c5b1 : (t468 != 0) = false := bne_eq_false_iff_eq.mpr c5
  clear c5
  (first | rw [c5b0] | (simp only [i64_w, i32_w]; rw [c5b0]) | skip)
  (try rw [c5b1])
  replace H := Option.bind_eq_some_iff.mp H
  obtain ⟨t469, A60, H⟩ := H
  replace H : (if (t469.length : Int) = 0 then (some (0, 10)) else (if 0 < (t469.length : Int) then (some (rd t469 0, 0)) else (none))) = some (r1, r2) := H
  have A6 := Aside0.mk A60
  clear A60
  have HC7 := Aside0.mk H
  clear H
  go_upto_if 15 with (first | ((with_reducible refine gate_callee (f := 51) rfl ?_); refine goesL_ (some 12) rfl rfl Try.func51 zK rfl #[.slice A0 l0.length c0, .int .i64 1] rfl zM ?_; (with_reducible refine (ancepsref40_solutions.calls k _ _ l0 1 t469 _ ?side1 ?side2 A6.out).mono ?_); (case side1 => repeat (first | exact (Kd.C_below HR0.out HB.out) | (with_reducible refine Kd.C_alloc ?_ _) | (with_reducible refine Kd.C_drewN ?_ _) | (with_reducible refine Kd.C_drew ?_))); (case side2 => exact HC0.out); rintro e w8 ⟨v470, rfl, ho0, hb⟩; refine ⟨_, rfl, ?_⟩; have n0_ := Aside0.mk (Kd.R_lower ho0 (below_size zB)); have n1_ := Aside0.mk (below_step zB hb); clear HB; have HO471 := n0_; have HB := n1_; clear n0_ n1_; (try clear hb); (try clear hb2); (try clear hk); (try clear hi); (try clear ho0); obtain ⟨Ao9, co9, eo9⟩ := Kd.R_slice HO471.out; subst eo9))
  (try simp only [Act.put, List.setIfInBounds_toArray, List.set_cons_zero, List.set_cons_succ])
  have H := HC7.out
  clear HC7
  by_cases c10 : (t469.length : Int) = 0
  ·rw [if_pos c10] at H
   have c10b0 : ((t469.length : Int) == 0) = true := beq_iff_eq.mpr c10
   have c10b1 : ((t469.length : Int) != 0) = false := bne_eq_false_iff_eq.mpr c10
   clear c10
   (first | rw [c10b0] | (simp only [i64_w, i32_w]; rw [c10b0]) | skip)
   (try rw [c10b1])
   simp only [Option.some.injEq, Prod.mk.injEq] at H
   obtain ⟨rfl, rfl⟩ := H
   go_wp2
   go_ret2
   exact ⟨by first | rfl | (simp [errW_none, errW_some] <;> rfl) | (simp [*, errW_none, errW_some] <;> rfl), by repeat (first | (with_reducible first | exact HB.out | apply below_alloc | apply pw_below_drewN | apply below_drew1) | exact HB.out)⟩
  ·rw [if_neg c10] at H
   have c10b0 : ((t469.length : Int) == 0) = false := beq_eq_false_iff_ne.mpr c10
   have c10b1 : ((t469.length : Int) != 0) = true := bne_iff_ne.mpr c10
   have c10b2 : ¬ (t469 = []) := fun h_ => c10 (by rw [h_]; rfl)
   (first | rw [c10b0] | (simp only [i64_w, i32_w]; rw [c10b0]) | skip)
   (try rw [c10b1])
   (try rw [c10b2])
   by_cases c11 : 0 < (t469.length : Int)
   ·rw [if_pos c11] at H
    have c11b0 : decide (0 < (t469.length : Int)) = true := decide_eq_true c11
    have c11b1 : decide (0 < t469.length) = true := decide_eq_true (by omega)
    clear c11
    simp only [Option.some.injEq, Prod.mk.injEq] at H
    obtain ⟨rfl, rfl⟩ := H
    have p472 : 0 ≤ (0 : Int) := (by omega)
    have q472 : 0 < (t469.length : Int) := of_decide_eq_true zh
    obtain ⟨ad472, e472, hx472_0⟩ := Kd.at_int (Kd.R_reads' HO471.out).2.2 0 p472 q472
    cases e472
    have qi472 : (0 < t469.length) = True := eq_true (by omega)
    (try rw [show ((0 : Int)).toNat = 0 from rfl] at hx472_0)
    (try rw [Addr.add_zero'] at hx472_0)
    replace p472 := eq_true p472
    replace q472 := eq_true q472
    go_wp2
    go_ret2
    exact ⟨by first | rfl | (simp [errW_none, errW_some] <;> rfl) | (simp [*, errW_none, errW_some] <;> rfl), by repeat (first | (with_reducible first | exact HB.out | apply below_alloc | apply pw_below_drewN | apply below_drew1) | exact HB.out)⟩
   ·rw [if_neg c11] at H
    exact absurd H (by simp)
 ·rw [if_neg c5] at H
  have c5b0 : (t468 == 0) = false := beq_eq_false_iff_ne.mpr c5
  have c5b1 : (t468 != 0) = true := bne_iff_ne.mpr c5
  (first | rw [c5b0] | (simp only [i64_w, i32_w]; rw [c5b0]) | skip)
  (try rw [c5b1])
  simp only [Option.some.injEq, Prod.mk.injEq] at H
  obtain ⟨rfl, rfl⟩ := H
  go_wp2
  go_ret2
  exact ⟨by first | rfl | (simp [errW_none, errW_some] <;> rfl) | (simp [*, errW_none, errW_some] <;> rfl), by repeat (first | (with_reducible first | exact HB.out | apply below_alloc | apply pw_below_drewN | apply below_drew1) | exact HB.out)⟩
/-! ### ancepsref40_All: function 26 -/
def ancepsref40_All.f (k : Nat) (l0 : List (S61)) : Option (List Int × Int) := (ancepsref40_Valid.f k l0).bind fun t473 => (if t473 = 0 then ((ancepsref40_solutions.f k l0 1001).bind fun t474 => (if (t474.length : Int) > 1000 then (some (([] : List Int), 3)) else (some (t474, 0)))) else (some (([] : List Int), t473)))
theorem ancepsref40_All.mono : ∀ a0 k, LeO (ancepsref40_All.f k a0) (ancepsref40_All.f (k + 1) a0) := by
 intro a0 k
 unfold ancepsref40_All.f
 repeat' first
   | (with_reducible exact ancepsref40_Valid.mono _ _)
   | (with_reducible exact ancepsref40_solutions.mono _ _ _)
   | (with_reducible exact LeO.refl _)
   | (with_reducible exact LeO.none _)
   | (with_reducible refine LeO.ite ?_ ?_)
   | (with_reducible refine LeO.bind ?_ (fun _ => ?_))
   | exact ancepsref40_Valid.mono _ _
   | exact ancepsref40_solutions.mono _ _ _
   | exact LeO.none _
   | refine LeO.ite ?_ ?_
   | refine LeO.bind ?_ (fun _ => ?_)
set_option maxHeartbeats 8000000 in
set_option maxRecDepth 100000 in
theorem ancepsref40_All.calls (k : Nat) (A0 : Option Addr) (c0 : Nat) (l0 : List (S61)) (r1 : List Int) (r2 : Int) (w : World) (hr0 : Kd.C k61 w A0 l0.length l0) (hc0 : l0.length ≤ c0) (h : ancepsref40_All.f k l0 = some (r1, r2)) :
  Calls Try.prog 26 #[.slice A0 l0.length c0] w fun e w' => ∃ v0_ : Value, e = .returned (.tuple #[v0_, .int .i64 r2]) ∧ Kd.R (Kd.int .i64) 3 w' w.heap.size (fun _ => True) v0_ r1 ∧ Below w.heap.size w w' := by
 have HR0 := Aside0.mk hr0
 have HC0 := Aside0.mk hc0
 clear hr0 hc0
 have HB := Aside0.mk (Below.refl w.heap.size w)
 have H : ((ancepsref40_Valid.f k l0).bind fun t473 => (if t473 = 0 then ((ancepsref40_solutions.f k l0 1001).bind fun t474 => (if (t474.length : Int) > 1000 then (some (([] : List Int), 3)) else (some (t474, 0)))) else (some (([] : List Int), t473)))) = some (r1, r2) := h
 clear h
 replace H := Option.bind_eq_some_iff.mp H
 obtain ⟨t473, A20, H⟩ := H
 replace H : (if t473 = 0 then ((ancepsref40_solutions.f k l0 1001).bind fun t474 => (if (t474.length : Int) > 1000 then (some (([] : List Int), 3)) else (some (t474, 0)))) else (some (([] : List Int), t473))) = some (r1, r2) := H
 have A2 := Aside0.mk A20
 clear A20
 have HC3 := Aside0.mk H
 clear H
 go_enter Try.func26, Try.ntmps26
 go_upto_if 9 with (first | ((with_reducible refine gate_callee (f := 50) rfl ?_); refine goesL_ (some 7) rfl rfl Try.func50 zK rfl #[.slice A0 l0.length c0] rfl zM ?_; (with_reducible refine (ancepsref40_Valid.calls k _ _ l0 t473 _ ?side1 ?side2 A2.out).mono ?_); (case side1 => repeat (first | exact HR0.out | (with_reducible refine Kd.C_alloc ?_ _) | (with_reducible refine Kd.C_drewN ?_ _) | (with_reducible refine Kd.C_drew ?_))); (case side2 => exact HC0.out); rintro e w4 ⟨rfl, hb⟩; refine ⟨_, rfl, ?_⟩; have n0_ := Aside0.mk (below_step zB hb); clear HB; have HB := n0_; clear n0_; (try clear hb); (try clear hb2); (try clear hk); (try clear hi)))
 (try simp only [Act.put, List.setIfInBounds_toArray, List.set_cons_zero, List.set_cons_succ])
 have H := HC3.out
 clear HC3
 by_cases c5 : t473 = 0
 ·rw [if_pos c5] at H
  have c5b0 : (t473 == 0) = true := beq_iff_eq.mpr c5
  have c5b1 : (t473 != 0) = false := bne_eq_false_iff_eq.mpr c5
  clear c5
  (first | rw [c5b0] | (simp only [i64_w, i32_w]; rw [c5b0]) | skip)
  (try rw [c5b1])
  replace H := Option.bind_eq_some_iff.mp H
  obtain ⟨t474, A60, H⟩ := H
  replace H : (if (t474.length : Int) > 1000 then (some (([] : List Int), 3)) else (some (t474, 0))) = some (r1, r2) := H
  have A6 := Aside0.mk A60
  clear A60
  have HC7 := Aside0.mk H
  clear H
  go_upto_if 15 with (first | ((with_reducible refine gate_callee (f := 51) rfl ?_); refine goesL_ (some 12) rfl rfl Try.func51 zK rfl #[.slice A0 l0.length c0, .int .i64 1001] rfl zM ?_; (with_reducible refine (ancepsref40_solutions.calls k _ _ l0 1001 t474 _ ?side1 ?side2 A6.out).mono ?_); (case side1 => repeat (first | exact (Kd.C_below HR0.out HB.out) | (with_reducible refine Kd.C_alloc ?_ _) | (with_reducible refine Kd.C_drewN ?_ _) | (with_reducible refine Kd.C_drew ?_))); (case side2 => exact HC0.out); rintro e w8 ⟨v475, rfl, ho0, hb⟩; refine ⟨_, rfl, ?_⟩; have n0_ := Aside0.mk (Kd.R_lower ho0 (below_size zB)); have n1_ := Aside0.mk (below_step zB hb); clear HB; have HO476 := n0_; have HB := n1_; clear n0_ n1_; (try clear hb); (try clear hb2); (try clear hk); (try clear hi); (try clear ho0); obtain ⟨Ao9, co9, eo9⟩ := Kd.R_slice HO476.out; subst eo9))
  (try simp only [Act.put, List.setIfInBounds_toArray, List.set_cons_zero, List.set_cons_succ])
  have H := HC7.out
  clear HC7
  by_cases c10 : (t474.length : Int) > 1000
  ·rw [if_pos c10] at H
   have c10b0 : decide (1000 < (t474.length : Int)) = true := decide_eq_true c10
   have c10b1 : decide (1000 < t474.length) = true := decide_eq_true (by omega)
   clear c10
   (first | rw [c10b0] | (simp only [i64_w, i32_w]; rw [c10b0]) | skip)
   (try rw [c10b1])
   simp only [Option.some.injEq, Prod.mk.injEq] at H
   obtain ⟨rfl, rfl⟩ := H
   go_wp2
   go_ret2
   exact ⟨_, by first | rfl | (simp [errW_none, errW_some] <;> rfl) | (simp [*, errW_none, errW_some] <;> rfl), by first | exact Kd.R_nil _ _ _ _ _ | exact Kd.N_nil _ _ _ _ _ | exact Kd.V_nil _ _ _ _ _ | exact Kd.Q_nil _ _ _ _ _ | exact Kd.S_nil _ _ _ _ _, by repeat (first | (with_reducible first | exact HB.out | apply below_alloc | apply pw_below_drewN | apply below_drew1) | exact HB.out)⟩
  ·rw [if_neg c10] at H
   have c10b0 : decide (1000 < (t474.length : Int)) = false := decide_eq_false c10
   have c10b1 : decide (1000 < t474.length) = false := decide_eq_false (by omega)
   clear c10
   (first | rw [c10b0] | (simp only [i64_w, i32_w]; rw [c10b0]) | skip)
   (try rw [c10b1])
   simp only [Option.some.injEq, Prod.mk.injEq] at H
   obtain ⟨rfl, rfl⟩ := H
   go_wp2
   go_ret2
   exact ⟨_, by first | rfl | (simp [errW_none, errW_some] <;> rfl) | (simp [*, errW_none, errW_some] <;> rfl), by (with_reducible repeat (first | apply Kd.R_alloc | apply Kd.R_drewN | apply Kd.R_drew)); exact HO476.out, by repeat (first | (with_reducible first | exact HB.out | apply below_alloc | apply pw_below_drewN | apply below_drew1) | exact HB.out)⟩
 ·rw [if_neg c5] at H
  have c5b0 : (t473 == 0) = false := beq_eq_false_iff_ne.mpr c5
  have c5b1 : (t473 != 0) = true := bne_iff_ne.mpr c5
  (first | rw [c5b0] | (simp only [i64_w, i32_w]; rw [c5b0]) | skip)
  (try rw [c5b1])
  simp only [Option.some.injEq, Prod.mk.injEq] at H
  obtain ⟨rfl, rfl⟩ := H
  go_wp2
  go_ret2
  exact ⟨_, by first | rfl | (simp [errW_none, errW_some] <;> rfl) | (simp [*, errW_none, errW_some] <;> rfl), by first | exact Kd.R_nil _ _ _ _ _ | exact Kd.N_nil _ _ _ _ _ | exact Kd.V_nil _ _ _ _ _ | exact Kd.Q_nil _ _ _ _ _ | exact Kd.S_nil _ _ _ _ _, by repeat (first | (with_reducible first | exact HB.out | apply below_alloc | apply pw_below_drewN | apply below_drew1) | exact HB.out)⟩
/-! ### solve_Count: function 27 -/
/-- What Count says of all solutions. -/
def solve_Count.of (s : List Int) : Int := s.foldl (fun n _ => wrap64 (n + 1)) 0
theorem solve_Count.of_snoc (s : List Int) (x : Int) : solve_Count.of (s ++ [x]) = wrap64 (solve_Count.of s + 1) := by simp [solve_Count.of]
def solve_Count.f (k : Nat) (l0 : List (S61)) : Option (Int × Int) := (solve_valid.f k l0).bind fun t282 => (if t282 = 0 then ((solve_occurring.f k l0).bind fun t284 => ((solve_search.f k l0 t284 0 0).bind fun s => some (solve_Count.of s, 0))) else (some (0, t282)))
theorem solve_Count.mono : ∀ a0 k, LeO (solve_Count.f k a0) (solve_Count.f (k + 1) a0) := by
 intro a0 k
 unfold solve_Count.f
 repeat' first
   | (with_reducible exact solve_occurring.mono _ _)
   | (with_reducible exact solve_valid.mono _ _)
   | (with_reducible exact LeO.refl _)
   | (with_reducible exact LeO.none _)
   | (with_reducible refine LeO.ite ?_ ?_)
   | (with_reducible refine LeO.bind ?_ (fun _ => ?_))
   | exact solve_occurring.mono _ _
   | exact solve_valid.mono _ _
   | exact solve_search.mono _ _ _ _ _
   | exact LeO.none _
   | refine LeO.ite ?_ ?_
   | refine LeO.bind ?_ (fun _ => ?_)
section
attribute [local go_sem] Oper.semAt_some
set_option maxHeartbeats 8000000 in
set_option maxRecDepth 100000 in
theorem solve_Count.calls (k : Nat) (A0 : Option Addr) (c0 : Nat) (l0 : List (S61)) (r1 : Int) (r2 : Int) (w : World) (hr0 : Kd.C k61 w A0 l0.length l0) (hc0 : l0.length ≤ c0) (h : solve_Count.f k l0 = some (r1, r2)) :
  Calls Try.prog 27 #[.slice A0 l0.length c0] w fun e w' => e = .returned (.tuple #[.int .i64 r1, .int .i64 r2]) ∧ Below w.heap.size w w' := by
 have hu3 := Try.underlying3
 have hu68 := Try.underlying68
 have HR0 := Aside0.mk hr0
 have HC0 := Aside0.mk hc0
 clear hr0 hc0
 have HB := Aside0.mk (Below.refl w.heap.size w)
 have H : ((solve_valid.f k l0).bind fun t282 => (if t282 = 0 then ((solve_occurring.f k l0).bind fun t284 => ((solve_search.f k l0 t284 0 0).bind fun s => some (solve_Count.of s, 0))) else (some (0, t282)))) = some (r1, r2) := h
 clear h
 replace H := Option.bind_eq_some_iff.mp H
 obtain ⟨t282, A20, H⟩ := H
 replace H : (if t282 = 0 then ((solve_occurring.f k l0).bind fun t284 => ((solve_search.f k l0 t284 0 0).bind fun s => some (solve_Count.of s, 0))) else (some (0, t282))) = some (r1, r2) := H
 have A2 := Aside0.mk A20
 clear A20
 have HC3 := Aside0.mk H
 clear H
 refine (callsIn_wide (n := 5)).1 ?_
 refine callsIn_of_wp_marks Try.func27 rfl trivial ?_ rfl
 simp only [Try.ntmps27, List.size_toArray, List.length_cons, List.length_nil, Nat.reduceAdd, Nat.reduceSub, Array.replicate_succ, Array.replicate_zero, List.push_toArray, List.append_toArray, List.nil_append, List.cons_append]
 refine wpIn_wide.2 ?_
 go_upto_if 9 with (first | ((with_reducible refine gate_callee (f := 46) rfl ?_); refine goesL_ (some 7) rfl rfl Try.func46 zK rfl #[.slice A0 l0.length c0] rfl zM ?_; (with_reducible refine (solve_valid.calls k _ _ l0 t282 _ ?side1 ?side2 A2.out).mono ?_); (case side1 => repeat (first | exact HR0.out | (with_reducible refine Kd.C_alloc ?_ _) | (with_reducible refine Kd.C_drewN ?_ _) | (with_reducible refine Kd.C_drew ?_))); (case side2 => exact HC0.out); rintro e w4 ⟨rfl, hb⟩; refine ⟨_, rfl, ?_⟩; have n0_ := Aside0.mk (below_step zB hb); clear HB; have HB := n0_; clear n0_; (try clear hb); (try clear hb2); (try clear hk); (try clear hi)))
 (try simp only [Act.put, List.setIfInBounds_toArray, List.set_cons_zero, List.set_cons_succ])
 have H := HC3.out
 clear HC3
 by_cases c5 : t282 = 0
 ·rw [if_pos c5] at H
  have c5b0 : (t282 == 0) = true := beq_iff_eq.mpr c5
  have c5b1 : (t282 != 0) = false := bne_eq_false_iff_eq.mpr c5
  clear c5
  (first | rw [c5b0] | (simp only [i64_w, i32_w]; rw [c5b0]) | skip)
  (try rw [c5b1])
  replace H := Option.bind_eq_some_iff.mp H
  obtain ⟨t284, A60, H⟩ := H
  replace H : ((solve_search.f k l0 t284 0 0).bind fun s => some (solve_Count.of s, 0)) = some (r1, r2) := H
  have A6 := Aside0.mk A60
  clear A60
  replace H := Option.bind_eq_some_iff.mp H
  obtain ⟨s_, AS0, H⟩ := H
  have AS := Aside0.mk AS0
  clear AS0
  simp only [Option.some.injEq, Prod.mk.injEq] at H
  obtain ⟨rfl, rfl⟩ := H
  go_wp2_with (first | ((with_reducible refine gate_dst (N := 5) rfl ?_); refine box_event ?hg (N := 5) ?hd (cs := #[.int .i64 0]) (t := 3) ?hr ?_; (case hd => rfl); (case hg => rfl); (case hr => first | (go_simp; done) | (go_simp; rfl)); intro gb283 hg w7 hbox hb; have n0_ := Aside0.mk (below_step zB hb); have n1_ := Aside0.mk (hbox); have n2_ := Aside0.mk ((by rw [hg]; exact (below_size zB) : w.heap.size ≤ gb283)); have n3_ := Aside0.mk ((by rw [hg]; exact (below_size zB) : w.heap.size ≤ gb283)); clear HB; have HB := n0_; have LT283 := Aside0.mk (blk_lt n1_.out); have BK283 := n1_; have GW283 := n2_; have GE283 := n3_; clear n0_ n1_ n2_ n3_; clear hb hbox hg; have hcz8_0 : w7.cell? ⟨gb283, 0, none⟩ = some (.int .i64 0) := (blk_cell BK283.out 0).trans rfl; have hfz8_0 := blk_frozen BK283.out 0) | ((with_reducible refine gate_callee (f := 47) rfl ?_); refine goesL_ (some 13) rfl rfl Try.func47 zK rfl #[.slice A0 l0.length c0] rfl zM ?_; (with_reducible refine (solve_occurring.calls k _ _ l0 t284 _ ?side1 ?side2 A6.out).mono ?_); (case side1 => exact Kd.C_below HR0.out zB); (case side2 => exact HC0.out); rintro e w9 ⟨v285, rfl, ho0, hb⟩; refine ⟨_, rfl, ?_⟩; have hn10 := Aside0.mk hb.size; have hS10 := Aside0.mk (below_size zB); have n0_ := Aside0.mk ho0; have n1_ := Aside0.mk (blk_below (g := gb283) (o := .cells #[.int .i64 0] 3 (0, 0)) (by (with_reducible repeat (first | refine blk_drewN ?_ _ | refine blk_drew ?_ | refine blk_alloc ?_ _)); refine blk_put (cs := #[.int .i64 0]) ?_ 0 _ rfl; (with_reducible repeat (first | refine blk_drewN ?_ _ | refine blk_drew ?_ | refine blk_alloc ?_ _)); exact BK283.out) hb); have n2_ := Aside0.mk (below_step zB hb); clear BK283; clear HB; have HO286 := n0_; have BK283 := n1_; have HB := n2_; clear n0_ n1_ n2_; (try clear hb); (try clear hb2); (try clear hk); (try clear hi); (try clear ho0); obtain ⟨A285, c285, e285⟩ := Kd.R_slice HO286.out; subst e285))
  refine (solve_solutions.in_ A0 l0.length c0 A285 t284.length c285 0 0 _).mono ?_
  rintro e w12 ⟨g0, g1, g2, rfl, hg0, hg1, hs0, hs1, hs2, hb⟩
  have n0_ := Aside0.mk (Kd.R_below HO286.out hb)
  have n4_ := Aside0.mk (blk_below BK283.out hb)
  have n3_ := Aside0.mk (below_step zB hb)
  have hn11 := Aside0.mk hb.size
  have hc285 := Aside0.mk (Kd.R_reads' HO286.out).2.1
  clear BK283 HB HO286 hb hg0 hg1
  have HO286 := n0_
  have BK283 := n4_
  have HB := n3_
  clear n0_ n3_ n4_
  go_wp2
  have hlt283 : gb283 < w7.heap.size := LT283.out
  have h1011 : w7.heap.size ≤ w12.heap.size := Nat.le_trans (by have h_ := hn10.out; simpa [World.setCell] using h_) hn11.out
  have HN12 := Aside0.mk h1011
  have hS7 : w.heap.size ≤ w7.heap.size := Nat.le_trans GE283.out (Nat.le_of_lt hlt283)
  have hL : ∀ W', KpS w.heap.size w7.heap.size w12.heap.size w12 W' → Kd.C k61 W' A0 l0.length l0 := fun W' hk => Kd.C_kept_came k61_heap HR0.out HB.out (fun k hk => hk.1) W' hk.kept
  have hV : ∀ W', KpS w.heap.size w7.heap.size w12.heap.size w12 W' → Kd.C (Kd.int .i64) W' A285 t284.length t284 := fun W' hk => Kd.C_kept_own (Kd.R_bound HO286.out) (fun k hk hs => by
    obtain ⟨_, h1, h2, _⟩ := hk
    have h3 : w7.heap.size ≤ k := by simpa [World.setCell] using h1
    omega) W' hk.kept
  have hS12 := Aside0.mk (Nat.le_trans hS7 h1011)
  refine (wpIn_wide (n := 5)).1 ?_
  refine wpIn_rangeFunc_ownF (n := 5) rfl (by omega) (gf := 85) (lb := #[.pointer (some ⟨g0, 0, none⟩), .pointer (some ⟨g1, 0, none⟩), .pointer (some ⟨g2, 0, none⟩)]) rfl trivial (enters_of Try.func85 zK rfl)
   (solve_solutions_stops w.heap.size w7.heap.size w12.heap.size A0 c0 l0 HC0.out A285 c285 t284 hc285.out 0 0 g0 g1 g2 k s_ w12 (Nat.le_refl _) hL hV AS.out hs0 hs1 hs2)
   KpS.trans (fun W l o o' hl h ho _ => KpS.put hS12.out W l o o' hl h ho) (Below.refl _ _) (fun _ => rfl)
   (fun (pre : List Int) (W : World) => W.heap[gb283]? = some (.cells #[.int .i64 (solve_Count.of pre)] 3 (0, 0)) ∧ Below w.heap.size w W)
   (fun _ _ _ => False)
   (fun s A B row hs hg hr => ⟨blk_grown hs.1 hg (ne_row_ hr hs.1), hs.2.grown hg hs.2.size (fun k e => Nat.le_trans HB.out.size (hr k e).1)⟩)
   (fun _ _ _ _ _ h _ _ => h)
   ⟨BK283.out, HB.out⟩
   (fun x => { tmps := #[.slice A0 l0.length c0, undef, .int .i64 0, .int .i64 0, .int .i64 t282, .pointer (some ⟨gb283, 0, none⟩), .slice A0 l0.length c0, .int .i64 t282, .int .i64 t282, .bool false, undef, .slice A0 l0.length c0, .slice A0 l0.length c0, .slice A285 t284.length c285, .agg #[.int .i64 0, .int .i64 0], .func (.func 85) #[] #[.pointer (some ⟨g0, 0, none⟩), .pointer (some ⟨g1, 0, none⟩), .pointer (some ⟨g2, 0, none⟩)], .int .i64 x, undef, undef, undef], defers := [] }) ?assign ?body ?done ?stop
  case assign =>
   intro l x W K hK
   gi_wp2
   simpa using hK
  case body =>
   rintro l pre x W ⟨hb3, hbl⟩ _
   have hcz3 : W.cell? ⟨gb283, 0, none⟩ = some (.int .i64 (solve_Count.of pre)) := (blk_cell hb3 0).trans rfl
   have hfz3 := blk_frozen hb3 0
   have hB3 := Aside0.mk hb3
   obtain ⟨n1_, hn1_⟩ : ∃ n1_, solve_Count.of pre = n1_ := ⟨_, rfl⟩
   rw [hn1_] at hcz3
   gi_wp2
   exact ⟨KeepsOthers.setCell _ _ _, KpS.set hB3.out (by decide) GE283.out LT283.out HN12.out 0 _, by rw [solve_Count.of_snoc, hn1_]; exact blk_put (cs := #[.int .i64 (solve_Count.of pre)]) hB3.out 0 _ rfl, below_set hbl GE283.out⟩
  case done =>
   rintro D ys W hD hys ⟨hb3, hbl⟩ hK
   subst hys
   have hcz3 : W.cell? ⟨gb283, 0, none⟩ = some (.int .i64 (solve_Count.of ys)) := (blk_cell hb3 0).trans rfl
   have hfz3 := blk_frozen hb3 0
   have HKD := Aside0.mk hK
   clear hK
   go_wp2
   refine ⟨by simp, .inl ⟨_, _, rfl, run_takeDeferred HKD.out, ?_⟩⟩
   exact ⟨_, results_tmp2 rfl _ _ _, rfl, hbl.grown (grownBy_putObj' _ D _) hbl.size (fun k e => by cases e; exact Nat.le_trans HB.out.size hD)⟩
  case stop =>
   rintro D c pre W _ _ h _
   exact h.elim
 ·rw [if_neg c5] at H
  have c5b0 : (t282 == 0) = false := beq_eq_false_iff_ne.mpr c5
  have c5b1 : (t282 != 0) = true := bne_iff_ne.mpr c5
  (first | rw [c5b0] | (simp only [i64_w, i32_w]; rw [c5b0]) | skip)
  (try rw [c5b1])
  simp only [Option.some.injEq, Prod.mk.injEq] at H
  obtain ⟨rfl, rfl⟩ := H
  go_wp2
  refine ⟨_, results_tmp2 rfl _ _ _, ?_⟩
  exact ⟨by first | rfl | (simp [errW_none, errW_some] <;> rfl) | (simp [*, errW_none, errW_some] <;> rfl), by repeat (first | (with_reducible first | exact HB.out | apply below_alloc | apply pw_below_drewN | apply below_drew1) | exact HB.out)⟩
end
/-! ### ancepsref40_Count: function 28 -/
def ancepsref40_Count.f (k : Nat) (l0 : List (S61)) : Option (Int × Int) := (ancepsref40_Valid.f k l0).bind fun t477 => (if t477 = 0 then ((ancepsref40_solutions.f k l0 33554432).bind fun t478 => (some ((t478.length : Int), 0))) else (some (0, t477)))
theorem ancepsref40_Count.mono : ∀ a0 k, LeO (ancepsref40_Count.f k a0) (ancepsref40_Count.f (k + 1) a0) := by
 intro a0 k
 unfold ancepsref40_Count.f
 repeat' first
   | (with_reducible exact ancepsref40_Valid.mono _ _)
   | (with_reducible exact ancepsref40_solutions.mono _ _ _)
   | (with_reducible exact LeO.refl _)
   | (with_reducible exact LeO.none _)
   | (with_reducible refine LeO.ite ?_ ?_)
   | (with_reducible refine LeO.bind ?_ (fun _ => ?_))
   | exact ancepsref40_Valid.mono _ _
   | exact ancepsref40_solutions.mono _ _ _
   | exact LeO.none _
   | refine LeO.ite ?_ ?_
   | refine LeO.bind ?_ (fun _ => ?_)
set_option maxHeartbeats 8000000 in
set_option maxRecDepth 100000 in
theorem ancepsref40_Count.calls (k : Nat) (A0 : Option Addr) (c0 : Nat) (l0 : List (S61)) (r1 : Int) (r2 : Int) (w : World) (hr0 : Kd.C k61 w A0 l0.length l0) (hc0 : l0.length ≤ c0) (h : ancepsref40_Count.f k l0 = some (r1, r2)) :
  Calls Try.prog 28 #[.slice A0 l0.length c0] w fun e w' => e = .returned (.tuple #[.int .i64 r1, .int .i64 r2]) ∧ Below w.heap.size w w' := by
 have HR0 := Aside0.mk hr0
 have HC0 := Aside0.mk hc0
 clear hr0 hc0
 have HB := Aside0.mk (Below.refl w.heap.size w)
 have H : ((ancepsref40_Valid.f k l0).bind fun t477 => (if t477 = 0 then ((ancepsref40_solutions.f k l0 33554432).bind fun t478 => (some ((t478.length : Int), 0))) else (some (0, t477)))) = some (r1, r2) := h
 clear h
 replace H := Option.bind_eq_some_iff.mp H
 obtain ⟨t477, A20, H⟩ := H
 replace H : (if t477 = 0 then ((ancepsref40_solutions.f k l0 33554432).bind fun t478 => (some ((t478.length : Int), 0))) else (some (0, t477))) = some (r1, r2) := H
 have A2 := Aside0.mk A20
 clear A20
 have HC3 := Aside0.mk H
 clear H
 go_enter Try.func28, Try.ntmps28
 go_upto_if 8 with (first | ((with_reducible refine gate_callee (f := 50) rfl ?_); refine goesL_ (some 6) rfl rfl Try.func50 zK rfl #[.slice A0 l0.length c0] rfl zM ?_; (with_reducible refine (ancepsref40_Valid.calls k _ _ l0 t477 _ ?side1 ?side2 A2.out).mono ?_); (case side1 => repeat (first | exact HR0.out | (with_reducible refine Kd.C_alloc ?_ _) | (with_reducible refine Kd.C_drewN ?_ _) | (with_reducible refine Kd.C_drew ?_))); (case side2 => exact HC0.out); rintro e w4 ⟨rfl, hb⟩; refine ⟨_, rfl, ?_⟩; have n0_ := Aside0.mk (below_step zB hb); clear HB; have HB := n0_; clear n0_; (try clear hb); (try clear hb2); (try clear hk); (try clear hi)))
 (try simp only [Act.put, List.setIfInBounds_toArray, List.set_cons_zero, List.set_cons_succ])
 have H := HC3.out
 clear HC3
 by_cases c5 : t477 = 0
 ·rw [if_pos c5] at H
  have c5b0 : (t477 == 0) = true := beq_iff_eq.mpr c5
  have c5b1 : (t477 != 0) = false := bne_eq_false_iff_eq.mpr c5
  clear c5
  (first | rw [c5b0] | (simp only [i64_w, i32_w]; rw [c5b0]) | skip)
  (try rw [c5b1])
  replace H := Option.bind_eq_some_iff.mp H
  obtain ⟨t478, A60, H⟩ := H
  replace H : (some ((t478.length : Int), 0)) = some (r1, r2) := H
  have A6 := Aside0.mk A60
  clear A60
  simp only [Option.some.injEq, Prod.mk.injEq] at H
  obtain ⟨rfl, rfl⟩ := H
  go_wp2_with (first | ((with_reducible refine gate_callee (f := 51) rfl ?_); refine goesL_ (some 11) rfl rfl Try.func51 zK rfl #[.slice A0 l0.length c0, .int .i64 33554432] rfl zM ?_; (with_reducible refine (ancepsref40_solutions.calls k _ _ l0 33554432 t478 _ ?side1 ?side2 A6.out).mono ?_); (case side1 => repeat (first | exact (Kd.C_below HR0.out HB.out) | (with_reducible refine Kd.C_alloc ?_ _) | (with_reducible refine Kd.C_drewN ?_ _) | (with_reducible refine Kd.C_drew ?_))); (case side2 => exact HC0.out); rintro e w7 ⟨v479, rfl, ho0, hb⟩; refine ⟨_, rfl, ?_⟩; have n0_ := Aside0.mk (Kd.R_lower ho0 (below_size zB)); have n1_ := Aside0.mk (below_step zB hb); clear HB; have HO480 := n0_; have HB := n1_; clear n0_ n1_; (try clear hb); (try clear hb2); (try clear hk); (try clear hi); (try clear ho0); obtain ⟨Ao8, co8, eo8⟩ := Kd.R_slice HO480.out; subst eo8))
  go_ret2
  exact ⟨by first | rfl | (simp [errW_none, errW_some] <;> rfl) | (simp [*, errW_none, errW_some] <;> rfl), by repeat (first | (with_reducible first | exact HB.out | apply below_alloc | apply pw_below_drewN | apply below_drew1) | exact HB.out)⟩
 ·rw [if_neg c5] at H
  have c5b0 : (t477 == 0) = false := beq_eq_false_iff_ne.mpr c5
  have c5b1 : (t477 != 0) = true := bne_iff_ne.mpr c5
  (first | rw [c5b0] | (simp only [i64_w, i32_w]; rw [c5b0]) | skip)
  (try rw [c5b1])
  simp only [Option.some.injEq, Prod.mk.injEq] at H
  obtain ⟨rfl, rfl⟩ := H
  go_wp2
  go_ret2
  exact ⟨by first | rfl | (simp [errW_none, errW_some] <;> rfl) | (simp [*, errW_none, errW_some] <;> rfl), by repeat (first | (with_reducible first | exact HB.out | apply below_alloc | apply pw_below_drewN | apply below_drew1) | exact HB.out)⟩
/-! ### ancepslaw40_SolveFirst: function 7 -/
def ancepslaw40_SolveFirst.j0 : Nat → List (S61) → Bool → Option (Bool)
 | 0, _, _ => none
 | k + 1, x0, x21 => if x21 = true then ((ancepslaw40_awake.f k).bind fun t487 => (some t487)) else ((solve_First.f k x0).bind fun bt488 => ((ancepsref40_First.f k x0).bind fun bt490 => ((solve_All.f k x0).bind fun bt492 => ((ancepsref40_All.f k x0).bind fun bt496 => ((solve_Count.f k x0).bind fun bt500 => ((ancepsref40_Count.f k x0).bind fun bt502 => (if bt488.1 = bt490.1 then (if bt488.2 = bt490.2 then ((slices_Equal_int_int.f k bt492.1 bt496.1).bind fun t504 => (if t504 = true then (if bt492.2 = bt496.2 then (if bt500.1 = bt502.1 then (if bt500.2 = bt502.2 then ((solve_Vars.f k x0).bind fun t505 => ((ancepsref40_Vars.f k x0).bind fun t508 => ((slices_Equal_int_int.f k t505 t508).bind fun t511 => (some t511)))) else (some false)) else (some false)) else (some false)) else (some false))) else (some false)) else (some false))))))))
def ancepslaw40_SolveFirst.f (k : Nat) (l0 : List (S61)) : Option (Bool) := (ancepslaw40_awake.f k).bind fun t485 => (if t485 = true then ((ancepsref40_Few.f k l0).bind fun t486 => (ancepslaw40_SolveFirst.j0 k l0 (!t486))) else (ancepslaw40_SolveFirst.j0 k l0 true))
theorem ancepslaw40_SolveFirst.mono_l : ∀ k, (∀ y0 y1, LeO (ancepslaw40_SolveFirst.j0 k y0 y1) (ancepslaw40_SolveFirst.j0 (k + 1) y0 y1))
 | 0 => fun _ _ r h => by simp [ancepslaw40_SolveFirst.j0] at h
 | k + 1 => by
  have ih0 := ancepslaw40_SolveFirst.mono_l k
  ·intro y0 y1
   unfold ancepslaw40_SolveFirst.j0
   repeat' first
   | (with_reducible exact ih0 _ _)
   | (with_reducible exact ancepslaw40_awake.mono _)
   | (with_reducible exact ancepsref40_All.mono _ _)
   | (with_reducible exact ancepsref40_Count.mono _ _)
   | (with_reducible exact ancepsref40_Few.mono _ _)
   | (with_reducible exact ancepsref40_First.mono _ _)
   | (with_reducible exact ancepsref40_Vars.mono _ _)
   | (with_reducible exact slices_Equal_int_int.mono _ _ _)
   | (with_reducible exact solve_All.mono _ _)
   | (with_reducible exact solve_Count.mono _ _)
   | (with_reducible exact solve_First.mono _ _)
   | (with_reducible exact solve_Vars.mono _ _)
   | (with_reducible exact LeO.refl _)
   | (with_reducible exact LeO.none _)
   | (with_reducible refine LeO.ite ?_ ?_)
   | (with_reducible refine LeO.bind ?_ (fun _ => ?_))
   | exact ih0 _ _
   | exact ancepslaw40_awake.mono _
   | exact ancepsref40_All.mono _ _
   | exact ancepsref40_Count.mono _ _
   | exact ancepsref40_Few.mono _ _
   | exact ancepsref40_First.mono _ _
   | exact ancepsref40_Vars.mono _ _
   | exact slices_Equal_int_int.mono _ _ _
   | exact solve_All.mono _ _
   | exact solve_Count.mono _ _
   | exact solve_First.mono _ _
   | exact solve_Vars.mono _ _
   | exact LeO.none _
   | refine LeO.ite ?_ ?_
   | refine LeO.bind ?_ (fun _ => ?_)
theorem ancepslaw40_SolveFirst.mono : ∀ a0 k, LeO (ancepslaw40_SolveFirst.f k a0) (ancepslaw40_SolveFirst.f (k + 1) a0) := by
 intro a0 k
 have ih0 := ancepslaw40_SolveFirst.mono_l k
 unfold ancepslaw40_SolveFirst.f
 repeat' first
   | (with_reducible exact ih0 _ _)
   | (with_reducible exact ancepslaw40_awake.mono _)
   | (with_reducible exact ancepsref40_All.mono _ _)
   | (with_reducible exact ancepsref40_Count.mono _ _)
   | (with_reducible exact ancepsref40_Few.mono _ _)
   | (with_reducible exact ancepsref40_First.mono _ _)
   | (with_reducible exact ancepsref40_Vars.mono _ _)
   | (with_reducible exact slices_Equal_int_int.mono _ _ _)
   | (with_reducible exact solve_All.mono _ _)
   | (with_reducible exact solve_Count.mono _ _)
   | (with_reducible exact solve_First.mono _ _)
   | (with_reducible exact solve_Vars.mono _ _)
   | (with_reducible exact LeO.refl _)
   | (with_reducible exact LeO.none _)
   | (with_reducible refine LeO.ite ?_ ?_)
   | (with_reducible refine LeO.bind ?_ (fun _ => ?_))
   | exact ih0 _ _
   | exact ancepslaw40_awake.mono _
   | exact ancepsref40_All.mono _ _
   | exact ancepsref40_Count.mono _ _
   | exact ancepsref40_Few.mono _ _
   | exact ancepsref40_First.mono _ _
   | exact ancepsref40_Vars.mono _ _
   | exact slices_Equal_int_int.mono _ _ _
   | exact solve_All.mono _ _
   | exact solve_Count.mono _ _
   | exact solve_First.mono _ _
   | exact solve_Vars.mono _ _
   | exact LeO.none _
   | refine LeO.ite ?_ ?_
   | refine LeO.bind ?_ (fun _ => ?_)
set_option maxHeartbeats 8000000 in
set_option maxRecDepth 100000 in
theorem ancepslaw40_SolveFirst.calls (k : Nat) (A0 : Option Addr) (c0 : Nat) (l0 : List (S61)) (r : Bool) (w : World) (hr0 : Kd.C k61 w A0 l0.length l0) (hc0 : l0.length ≤ c0) (h : ancepslaw40_SolveFirst.f k l0 = some r) :
  Calls Try.prog 7 #[.slice A0 l0.length c0] w fun e w' => e = .returned (.bool r) ∧ Below w.heap.size w w' := by
 have HR0 := Aside0.mk hr0
 have HC0 := Aside0.mk hc0
 clear hr0 hc0
 have HB := Aside0.mk (Below.refl w.heap.size w)
 have H : ((ancepslaw40_awake.f k).bind fun t485 => (if t485 = true then ((ancepsref40_Few.f k l0).bind fun t486 => (ancepslaw40_SolveFirst.j0 k l0 (!t486))) else (ancepslaw40_SolveFirst.j0 k l0 true))) = some r := h
 clear h
 have HC2 := Aside0.mk H
 clear H
 go_enter Try.func7, Try.ntmps7
 go_upto_region 1 with (fail)
 go_cut [21] (fun v21 wc => ∃ (kq : Nat) (x21_1 : Bool), v21 = .bool x21_1 ∧ Aside0 (ancepslaw40_SolveFirst.j0 kq l0 x21_1 = some r) ∧ Aside0 (kq ≤ k) ∧ Aside0 (Below w.heap.size w wc))
 case first =>
  have H := HC2.out
  clear HC2
  replace H := Option.bind_eq_some_iff.mp H
  obtain ⟨t485, A30, H⟩ := H
  replace H : (if t485 = true then ((ancepsref40_Few.f k l0).bind fun t486 => (ancepslaw40_SolveFirst.j0 k l0 (!t486))) else (ancepslaw40_SolveFirst.j0 k l0 true)) = some r := H
  have A3 := Aside0.mk A30
  clear A30
  by_cases c4 : t485 = true
  ·subst c4
   have H1 : ((ancepsref40_Few.f k l0).bind fun t486 => (ancepslaw40_SolveFirst.j0 k l0 (!t486))) = some r := by rw [if_pos rfl] at H; exact H
   clear H
   have H := H1
   clear H1
   replace H := Option.bind_eq_some_iff.mp H
   obtain ⟨t486, A50, H⟩ := H
   replace H : (ancepslaw40_SolveFirst.j0 k l0 (!t486)) = some r := H
   have A5 := Aside0.mk A50
   clear A50
   have H' := Aside0.mk H
   clear H
   go_wp2_with (first | ((with_reducible refine gate_callee (f := 12) rfl ?_); refine goesL_ (some 15) rfl rfl Try.func12 zK rfl #[] rfl zM ?_; (with_reducible refine (ancepslaw40_awake.calls k  true _ A3.out).mono ?_); rintro e w6 ⟨rfl, hb⟩; refine ⟨_, rfl, ?_⟩; have n0_ := Aside0.mk (below_step zB hb); clear HB; have HB := n0_; clear n0_; (try clear hb); (try clear hb2); (try clear hk); (try clear hi)) | (go_at_call 13; (with_reducible refine (ancepsref40_Few.calls k _ _ l0 t486 _ ?side1 ?side2 A5.out).mono ?_); (case side1 => repeat (first | exact (Kd.C_below HR0.out HB.out) | (with_reducible refine Kd.C_alloc ?_ _) | (with_reducible refine Kd.C_drewN ?_ _) | (with_reducible refine Kd.C_drew ?_))); (case side2 => exact HC0.out); rintro e w7 ⟨rfl, hb⟩; have n0_ := Aside0.mk (below_step zB hb); clear HB; have HB := n0_; clear n0_; (try clear hb); (try clear hb2); (try clear hk); (try clear hi)))
   go_meet
   case rel => exact ⟨_, (!t486), zT, H', ⟨by first | omega | exact Nat.le_refl _⟩, ⟨by repeat (first | (with_reducible first | exact HB.out | apply below_alloc | apply pw_below_drewN | apply below_drew1) | exact HB.out)⟩⟩
  ·replace c4 := Bool.eq_false_iff.mpr c4
   subst c4
   have H1 : (ancepslaw40_SolveFirst.j0 k l0 true) = some r := by rw [if_neg (show ¬ (false = true) by decide)] at H; exact H
   clear H
   have H := H1
   clear H1
   have H' := Aside0.mk H
   clear H
   go_wp2_with (first | ((with_reducible refine gate_callee (f := 12) rfl ?_); refine goesL_ (some 15) rfl rfl Try.func12 zK rfl #[] rfl zM ?_; (with_reducible refine (ancepslaw40_awake.calls k  false _ A3.out).mono ?_); rintro e w8 ⟨rfl, hb⟩; refine ⟨_, rfl, ?_⟩; have n0_ := Aside0.mk (below_step zB hb); clear HB; have HB := n0_; clear n0_; (try clear hb); (try clear hb2); (try clear hk); (try clear hi)))
   go_meet
   case rel => exact ⟨_, (true), zT, H', ⟨by first | omega | exact Nat.le_refl _⟩, ⟨by repeat (first | (with_reducible first | exact HB.out | apply below_alloc | apply pw_below_drewN | apply below_drew1) | exact HB.out)⟩⟩
 case rest =>
  clear HC2
  obtain ⟨kq, x21_1, rfl, HA, HJ1, HB⟩ := hcut
  cases kq with
  | zero => exact absurd HA.out (by simp [ancepslaw40_SolveFirst.j0])
  | succ kj1 =>
   have H := HA.out
   clear HA
   simp only [ancepslaw40_SolveFirst.j0] at H
   by_cases c9 : x21_1 = true
   ·subst c9
    have H1 : ((ancepslaw40_awake.f kj1).bind fun t487 => (some t487)) = some r := by rw [if_pos rfl] at H; exact H
    clear H
    have H := H1
    clear H1
    replace H := Option.bind_eq_some_iff.mp H
    obtain ⟨t487, A100, H⟩ := H
    replace H : (some t487) = some r := H
    have A10 := Aside0.mk A100
    clear A100
    obtain rfl := Option.some.inj H
    go_wp2_with (first | ((with_reducible refine gate_callee (f := 12) rfl ?_); refine goesL_ (some 22) rfl rfl Try.func12 zK rfl #[] rfl zM ?_; (with_reducible refine (ancepslaw40_awake.calls kj1  t487 _ A10.out).mono ?_); rintro e w11 ⟨rfl, hb⟩; refine ⟨_, rfl, ?_⟩; have n0_ := Aside0.mk (below_step zB hb); clear HB; have HB := n0_; clear n0_; (try clear hb); (try clear hb2); (try clear hk); (try clear hi)))
    go_ret
    exact ⟨by first | rfl | (simp [errW_none, errW_some] <;> rfl) | (simp [*, errW_none, errW_some] <;> rfl), by repeat (first | (with_reducible first | exact HB.out | apply below_alloc | apply pw_below_drewN | apply below_drew1) | exact HB.out)⟩
   ·replace c9 := Bool.eq_false_iff.mpr c9
    subst c9
    have H1 : ((solve_First.f kj1 l0).bind fun bt488 => ((ancepsref40_First.f kj1 l0).bind fun bt490 => ((solve_All.f kj1 l0).bind fun bt492 => ((ancepsref40_All.f kj1 l0).bind fun bt496 => ((solve_Count.f kj1 l0).bind fun bt500 => ((ancepsref40_Count.f kj1 l0).bind fun bt502 => (if bt488.1 = bt490.1 then (if bt488.2 = bt490.2 then ((slices_Equal_int_int.f kj1 bt492.1 bt496.1).bind fun t504 => (if t504 = true then (if bt492.2 = bt496.2 then (if bt500.1 = bt502.1 then (if bt500.2 = bt502.2 then ((solve_Vars.f kj1 l0).bind fun t505 => ((ancepsref40_Vars.f kj1 l0).bind fun t508 => ((slices_Equal_int_int.f kj1 t505 t508).bind fun t511 => (some t511)))) else (some false)) else (some false)) else (some false)) else (some false))) else (some false)) else (some false)))))))) = some r := by rw [if_neg (show ¬ (false = true) by decide)] at H; exact H
    clear H
    have H := H1
    clear H1
    replace H := Option.bind_eq_some_iff.mp H
    obtain ⟨⟨t488, t489⟩, A120, H⟩ := H
    replace H : ((ancepsref40_First.f kj1 l0).bind fun bt490 => ((solve_All.f kj1 l0).bind fun bt492 => ((ancepsref40_All.f kj1 l0).bind fun bt496 => ((solve_Count.f kj1 l0).bind fun bt500 => ((ancepsref40_Count.f kj1 l0).bind fun bt502 => (if t488 = bt490.1 then (if t489 = bt490.2 then ((slices_Equal_int_int.f kj1 bt492.1 bt496.1).bind fun t504 => (if t504 = true then (if bt492.2 = bt496.2 then (if bt500.1 = bt502.1 then (if bt500.2 = bt502.2 then ((solve_Vars.f kj1 l0).bind fun t505 => ((ancepsref40_Vars.f kj1 l0).bind fun t508 => ((slices_Equal_int_int.f kj1 t505 t508).bind fun t511 => (some t511)))) else (some false)) else (some false)) else (some false)) else (some false))) else (some false)) else (some false))))))) = some r := H
    have A12 := Aside0.mk A120
    clear A120
    replace H := Option.bind_eq_some_iff.mp H
    obtain ⟨⟨t490, t491⟩, A130, H⟩ := H
    replace H : ((solve_All.f kj1 l0).bind fun bt492 => ((ancepsref40_All.f kj1 l0).bind fun bt496 => ((solve_Count.f kj1 l0).bind fun bt500 => ((ancepsref40_Count.f kj1 l0).bind fun bt502 => (if t488 = t490 then (if t489 = t491 then ((slices_Equal_int_int.f kj1 bt492.1 bt496.1).bind fun t504 => (if t504 = true then (if bt492.2 = bt496.2 then (if bt500.1 = bt502.1 then (if bt500.2 = bt502.2 then ((solve_Vars.f kj1 l0).bind fun t505 => ((ancepsref40_Vars.f kj1 l0).bind fun t508 => ((slices_Equal_int_int.f kj1 t505 t508).bind fun t511 => (some t511)))) else (some false)) else (some false)) else (some false)) else (some false))) else (some false)) else (some false)))))) = some r := H
    have A13 := Aside0.mk A130
    clear A130
    replace H := Option.bind_eq_some_iff.mp H
    obtain ⟨⟨t492, t493⟩, A140, H⟩ := H
    replace H : ((ancepsref40_All.f kj1 l0).bind fun bt496 => ((solve_Count.f kj1 l0).bind fun bt500 => ((ancepsref40_Count.f kj1 l0).bind fun bt502 => (if t488 = t490 then (if t489 = t491 then ((slices_Equal_int_int.f kj1 t492 bt496.1).bind fun t504 => (if t504 = true then (if t493 = bt496.2 then (if bt500.1 = bt502.1 then (if bt500.2 = bt502.2 then ((solve_Vars.f kj1 l0).bind fun t505 => ((ancepsref40_Vars.f kj1 l0).bind fun t508 => ((slices_Equal_int_int.f kj1 t505 t508).bind fun t511 => (some t511)))) else (some false)) else (some false)) else (some false)) else (some false))) else (some false)) else (some false))))) = some r := H
    have A14 := Aside0.mk A140
    clear A140
    replace H := Option.bind_eq_some_iff.mp H
    obtain ⟨⟨t496, t497⟩, A150, H⟩ := H
    replace H : ((solve_Count.f kj1 l0).bind fun bt500 => ((ancepsref40_Count.f kj1 l0).bind fun bt502 => (if t488 = t490 then (if t489 = t491 then ((slices_Equal_int_int.f kj1 t492 t496).bind fun t504 => (if t504 = true then (if t493 = t497 then (if bt500.1 = bt502.1 then (if bt500.2 = bt502.2 then ((solve_Vars.f kj1 l0).bind fun t505 => ((ancepsref40_Vars.f kj1 l0).bind fun t508 => ((slices_Equal_int_int.f kj1 t505 t508).bind fun t511 => (some t511)))) else (some false)) else (some false)) else (some false)) else (some false))) else (some false)) else (some false)))) = some r := H
    have A15 := Aside0.mk A150
    clear A150
    replace H := Option.bind_eq_some_iff.mp H
    obtain ⟨⟨t500, t501⟩, A160, H⟩ := H
    replace H : ((ancepsref40_Count.f kj1 l0).bind fun bt502 => (if t488 = t490 then (if t489 = t491 then ((slices_Equal_int_int.f kj1 t492 t496).bind fun t504 => (if t504 = true then (if t493 = t497 then (if t500 = bt502.1 then (if t501 = bt502.2 then ((solve_Vars.f kj1 l0).bind fun t505 => ((ancepsref40_Vars.f kj1 l0).bind fun t508 => ((slices_Equal_int_int.f kj1 t505 t508).bind fun t511 => (some t511)))) else (some false)) else (some false)) else (some false)) else (some false))) else (some false)) else (some false))) = some r := H
    have A16 := Aside0.mk A160
    clear A160
    replace H := Option.bind_eq_some_iff.mp H
    obtain ⟨⟨t502, t503⟩, A170, H⟩ := H
    replace H : (if t488 = t490 then (if t489 = t491 then ((slices_Equal_int_int.f kj1 t492 t496).bind fun t504 => (if t504 = true then (if t493 = t497 then (if t500 = t502 then (if t501 = t503 then ((solve_Vars.f kj1 l0).bind fun t505 => ((ancepsref40_Vars.f kj1 l0).bind fun t508 => ((slices_Equal_int_int.f kj1 t505 t508).bind fun t511 => (some t511)))) else (some false)) else (some false)) else (some false)) else (some false))) else (some false)) else (some false)) = some r := H
    have A17 := Aside0.mk A170
    clear A170
    have HC18 := Aside0.mk H
    clear H
    go_upto_region 9 with (first | ((with_reducible refine gate_callee (f := 19) rfl ?_); refine goesL_ (some 25) rfl rfl Try.func19 zK rfl #[.slice A0 l0.length c0] rfl zM ?_; (with_reducible refine (solve_First.calls kj1 _ _ l0 t488 t489 _ ?side1 ?side2 A12.out).mono ?_); (case side1 => repeat (first | exact (Kd.C_below HR0.out HB.out) | (with_reducible refine Kd.C_alloc ?_ _) | (with_reducible refine Kd.C_drewN ?_ _) | (with_reducible refine Kd.C_drew ?_))); (case side2 => exact HC0.out); rintro e w19 ⟨rfl, hb⟩; refine ⟨_, rfl, ?_⟩; have n0_ := Aside0.mk (below_step zB hb); clear HB; have HB := n0_; clear n0_; (try clear hb); (try clear hb2); (try clear hk); (try clear hi)) | ((with_reducible refine gate_callee (f := 24) rfl ?_); refine goesL_ (some 30) rfl rfl Try.func24 zK rfl #[.slice A0 l0.length c0] rfl zM ?_; (with_reducible refine (ancepsref40_First.calls kj1 _ _ l0 t490 t491 _ ?side1 ?side2 A13.out).mono ?_); (case side1 => repeat (first | exact (Kd.C_below HR0.out HB.out) | (with_reducible refine Kd.C_alloc ?_ _) | (with_reducible refine Kd.C_drewN ?_ _) | (with_reducible refine Kd.C_drew ?_))); (case side2 => exact HC0.out); rintro e w20 ⟨rfl, hb⟩; refine ⟨_, rfl, ?_⟩; have n0_ := Aside0.mk (below_step zB hb); clear HB; have HB := n0_; clear n0_; (try clear hb); (try clear hb2); (try clear hk); (try clear hi)) | ((with_reducible refine gate_callee (f := 25) rfl ?_); refine goesL_ (some 35) rfl rfl Try.func25 zK rfl #[.slice A0 l0.length c0] rfl zM ?_; (with_reducible refine (solve_All.calls kj1 _ _ l0 t492 t493 _ ?side1 ?side2 A14.out).mono ?_); (case side1 => repeat (first | exact (Kd.C_below HR0.out HB.out) | (with_reducible refine Kd.C_alloc ?_ _) | (with_reducible refine Kd.C_drewN ?_ _) | (with_reducible refine Kd.C_drew ?_))); (case side2 => exact HC0.out); rintro e w21 ⟨v494, rfl, ho0, hb⟩; refine ⟨_, rfl, ?_⟩; have n0_ := Aside0.mk (Kd.R_lower ho0 (below_size zB)); have n1_ := Aside0.mk (below_step zB hb); clear HB; have HO495 := n0_; have HB := n1_; clear n0_ n1_; (try clear hb); (try clear hb2); (try clear hk); (try clear hi); (try clear ho0)) | ((with_reducible refine gate_callee (f := 26) rfl ?_); refine goesL_ (some 40) rfl rfl Try.func26 zK rfl #[.slice A0 l0.length c0] rfl zM ?_; (with_reducible refine (ancepsref40_All.calls kj1 _ _ l0 t496 t497 _ ?side1 ?side2 A15.out).mono ?_); (case side1 => repeat (first | exact (Kd.C_below HR0.out HB.out) | (with_reducible refine Kd.C_alloc ?_ _) | (with_reducible refine Kd.C_drewN ?_ _) | (with_reducible refine Kd.C_drew ?_))); (case side2 => exact HC0.out); rintro e w22 ⟨v498, rfl, ho0, hb⟩; refine ⟨_, rfl, ?_⟩; have n0_ := Aside0.mk (Kd.R_elder' (zR HO495) (Kd.R_base ho0) hb); have n1_ := Aside0.mk (Kd.R_lower (Kd.R_new' ho0 (Kd.R_lt (zR HO495))) (below_size zB)); have n2_ := Aside0.mk (below_step zB hb); clear HO495; clear HB; have HO495 := n0_; have HO499 := n1_; have HB := n2_; clear n0_ n1_ n2_; (try clear hb); (try clear hb2); (try clear hk); (try clear hi); (try clear ho0)) | ((with_reducible refine gate_callee (f := 27) rfl ?_); refine goesL_ (some 45) rfl rfl Try.func27 zK rfl #[.slice A0 l0.length c0] rfl zM ?_; (with_reducible refine (solve_Count.calls kj1 _ _ l0 t500 t501 _ ?side1 ?side2 A16.out).mono ?_); (case side1 => repeat (first | exact (Kd.C_below HR0.out HB.out) | (with_reducible refine Kd.C_alloc ?_ _) | (with_reducible refine Kd.C_drewN ?_ _) | (with_reducible refine Kd.C_drew ?_))); (case side2 => exact HC0.out); rintro e w23 ⟨rfl, hb⟩; refine ⟨_, rfl, ?_⟩; have n0_ := Aside0.mk (Kd.R_below (zR HO495) hb); have n1_ := Aside0.mk (Kd.R_below (zR HO499) hb); have n2_ := Aside0.mk (below_step zB hb); clear HO495; clear HO499; clear HB; have HO495 := n0_; have HO499 := n1_; have HB := n2_; clear n0_ n1_ n2_; (try clear hb); (try clear hb2); (try clear hk); (try clear hi)) | ((with_reducible refine gate_callee (f := 28) rfl ?_); refine goesL_ (some 50) rfl rfl Try.func28 zK rfl #[.slice A0 l0.length c0] rfl zM ?_; (with_reducible refine (ancepsref40_Count.calls kj1 _ _ l0 t502 t503 _ ?side1 ?side2 A17.out).mono ?_); (case side1 => repeat (first | exact (Kd.C_below HR0.out HB.out) | (with_reducible refine Kd.C_alloc ?_ _) | (with_reducible refine Kd.C_drewN ?_ _) | (with_reducible refine Kd.C_drew ?_))); (case side2 => exact HC0.out); rintro e w24 ⟨rfl, hb⟩; refine ⟨_, rfl, ?_⟩; have n0_ := Aside0.mk (Kd.R_below (zR HO495) hb); have n1_ := Aside0.mk (Kd.R_below (zR HO499) hb); have n2_ := Aside0.mk (below_step zB hb); clear HO495; clear HO499; clear HB; have HO495 := n0_; have HO499 := n1_; have HB := n2_; clear n0_ n1_ n2_; (try clear hb); (try clear hb2); (try clear hk); (try clear hi)))
    (try simp only [Act.put, List.setIfInBounds_toArray, List.set_cons_zero, List.set_cons_succ])
    have H := HC18.out
    clear HC18
    by_cases c25 : t488 = t490
    ·rw [if_pos c25] at H
     have c25b0 : (t488 == t490) = true := beq_iff_eq.mpr c25
     have c25b1 : (t488 != t490) = false := bne_eq_false_iff_eq.mpr c25
     clear c25
     (first | rw [c25b0] | (simp only [i64_w, i32_w]; rw [c25b0]) | skip)
     (try rw [c25b1])
     by_cases c26 : t489 = t491
     ·rw [if_pos c26] at H
      have c26b0 : (t489 == t491) = true := beq_iff_eq.mpr c26
      have c26b1 : (t489 != t491) = false := bne_eq_false_iff_eq.mpr c26
      clear c26
      replace H := Option.bind_eq_some_iff.mp H
      obtain ⟨t504, A270, H⟩ := H
      replace H : (if t504 = true then (if t493 = t497 then (if t500 = t502 then (if t501 = t503 then ((solve_Vars.f kj1 l0).bind fun t505 => ((ancepsref40_Vars.f kj1 l0).bind fun t508 => ((slices_Equal_int_int.f kj1 t505 t508).bind fun t511 => (some t511)))) else (some false)) else (some false)) else (some false)) else (some false)) = some r := H
      have A27 := Aside0.mk A270
      clear A270
      by_cases c28 : t504 = true
      ·subst c28
       have H1 : (if t493 = t497 then (if t500 = t502 then (if t501 = t503 then ((solve_Vars.f kj1 l0).bind fun t505 => ((ancepsref40_Vars.f kj1 l0).bind fun t508 => ((slices_Equal_int_int.f kj1 t505 t508).bind fun t511 => (some t511)))) else (some false)) else (some false)) else (some false)) = some r := by rw [if_pos rfl] at H; exact H
       clear H
       have H := H1
       clear H1
       by_cases c29 : t493 = t497
       ·rw [if_pos c29] at H
        have c29b0 : (t493 == t497) = true := beq_iff_eq.mpr c29
        have c29b1 : (t493 != t497) = false := bne_eq_false_iff_eq.mpr c29
        clear c29
        by_cases c30 : t500 = t502
        ·rw [if_pos c30] at H
         have c30b0 : (t500 == t502) = true := beq_iff_eq.mpr c30
         have c30b1 : (t500 != t502) = false := bne_eq_false_iff_eq.mpr c30
         clear c30
         by_cases c31 : t501 = t503
         ·rw [if_pos c31] at H
          have c31b0 : (t501 == t503) = true := beq_iff_eq.mpr c31
          have c31b1 : (t501 != t503) = false := bne_eq_false_iff_eq.mpr c31
          clear c31
          replace H := Option.bind_eq_some_iff.mp H
          obtain ⟨t505, A320, H⟩ := H
          replace H : ((ancepsref40_Vars.f kj1 l0).bind fun t508 => ((slices_Equal_int_int.f kj1 t505 t508).bind fun t511 => (some t511))) = some r := H
          have A32 := Aside0.mk A320
          clear A320
          replace H := Option.bind_eq_some_iff.mp H
          obtain ⟨t508, A330, H⟩ := H
          replace H : ((slices_Equal_int_int.f kj1 t505 t508).bind fun t511 => (some t511)) = some r := H
          have A33 := Aside0.mk A330
          clear A330
          replace H := Option.bind_eq_some_iff.mp H
          obtain ⟨t511, A340, H⟩ := H
          replace H : (some t511) = some r := H
          have A34 := Aside0.mk A340
          clear A340
          obtain rfl := Option.some.inj H
          obtain ⟨Ao35, co35, eo35⟩ := Kd.R_slice HO495.out
          subst eo35
          obtain ⟨Ao36, co36, eo36⟩ := Kd.R_slice HO499.out
          subst eo36
          go_wp2_with (first | (go_at_call 29; (with_reducible refine (slices_Equal_int_int.calls kj1 _ _ t492 _ _ t496 true _ ?side1 ?side2 ?side3 ?side4 A27.out).mono ?_); (case side1 => repeat (first | exact (Kd.R_reads' HO495.out).2.2 | (with_reducible refine Kd.C_alloc ?_ _) | (with_reducible refine Kd.C_drewN ?_ _) | (with_reducible refine Kd.C_drew ?_))); (case side2 => exact (Kd.R_reads' HO495.out).2.1); (case side3 => repeat (first | exact (Kd.R_reads' HO499.out).2.2 | (with_reducible refine Kd.C_alloc ?_ _) | (with_reducible refine Kd.C_drewN ?_ _) | (with_reducible refine Kd.C_drew ?_))); (case side4 => exact (Kd.R_reads' HO499.out).2.1); rintro e w' ⟨rfl, ⟨nd, rfl⟩⟩) | (go_at_call 30; (with_reducible refine (solve_Vars.calls kj1 _ _ l0 t505 _ ?side1 ?side2 A32.out).mono ?_); (case side1 => repeat (first | exact (Kd.C_below HR0.out zB) | (with_reducible refine Kd.C_alloc ?_ _) | (with_reducible refine Kd.C_drewN ?_ _) | (with_reducible refine Kd.C_drew ?_))); (case side2 => exact HC0.out); rintro e w37 ⟨v506, rfl, ho0, hb⟩; have n0_ := Aside0.mk (Kd.R_elder' (zR HO495) (Kd.R_base ho0) hb); have n1_ := Aside0.mk (Kd.R_elder' (zR HO499) (Kd.R_base ho0) hb); have n2_ := Aside0.mk (Kd.R_lower (Kd.R_new' (Kd.R_new' ho0 (Kd.R_lt (zR HO495))) (Kd.R_lt (zR HO499))) (below_size zB)); have n3_ := Aside0.mk (below_step zB hb); clear HO495; clear HO499; clear HB; have HO495 := n0_; have HO499 := n1_; have HO507 := n2_; have HB := n3_; clear n0_ n1_ n2_ n3_; (try clear hb); (try clear hb2); (try clear hk); (try clear hi); (try clear ho0)) | (go_at_call 31; (with_reducible refine (ancepsref40_Vars.calls kj1 _ _ l0 t508 _ ?side1 ?side2 A33.out).mono ?_); (case side1 => repeat (first | exact (Kd.C_below HR0.out HB.out) | (with_reducible refine Kd.C_alloc ?_ _) | (with_reducible refine Kd.C_drewN ?_ _) | (with_reducible refine Kd.C_drew ?_))); (case side2 => exact HC0.out); rintro e w38 ⟨v509, rfl, ho0, hb⟩; have n0_ := Aside0.mk (Kd.R_elder' (zR HO495) (Kd.R_base ho0) hb); have n1_ := Aside0.mk (Kd.R_elder' (zR HO499) (Kd.R_base ho0) hb); have n2_ := Aside0.mk (Kd.R_elder' (zR HO507) (Kd.R_base ho0) hb); have n3_ := Aside0.mk (Kd.R_lower (Kd.R_new' (Kd.R_new' (Kd.R_new' ho0 (Kd.R_lt (zR HO495))) (Kd.R_lt (zR HO499))) (Kd.R_lt (zR HO507))) (below_size zB)); have n4_ := Aside0.mk (below_step zB hb); clear HO495; clear HO499; clear HO507; clear HB; have HO495 := n0_; have HO499 := n1_; have HO507 := n2_; have HO510 := n3_; have HB := n4_; clear n0_ n1_ n2_ n3_ n4_; (try clear hb); (try clear hb2); (try clear hk); (try clear hi); (try clear ho0); obtain ⟨Ao39, co39, eo39⟩ := Kd.R_slice HO507.out; subst eo39; obtain ⟨Ao40, co40, eo40⟩ := Kd.R_slice HO510.out; subst eo40) | (go_at_call 29; (with_reducible refine (slices_Equal_int_int.calls kj1 _ _ t505 _ _ t508 t511 _ ?side1 ?side2 ?side3 ?side4 A34.out).mono ?_); (case side1 => repeat (first | exact (Kd.R_reads' HO507.out).2.2 | (with_reducible refine Kd.C_alloc ?_ _) | (with_reducible refine Kd.C_drewN ?_ _) | (with_reducible refine Kd.C_drew ?_))); (case side2 => exact (Kd.R_reads' HO507.out).2.1); (case side3 => repeat (first | exact (Kd.R_reads' HO510.out).2.2 | (with_reducible refine Kd.C_alloc ?_ _) | (with_reducible refine Kd.C_drewN ?_ _) | (with_reducible refine Kd.C_drew ?_))); (case side4 => exact (Kd.R_reads' HO510.out).2.1); rintro e w' ⟨rfl, ⟨nd, rfl⟩⟩))
          go_ret
          exact ⟨by first | rfl | (simp [errW_none, errW_some] <;> rfl) | (simp [*, errW_none, errW_some] <;> rfl), by repeat (first | (with_reducible first | exact HB.out | apply below_alloc | apply pw_below_drewN | apply below_drew1) | exact HB.out)⟩
         ·rw [if_neg c31] at H
          have c31b0 : (t501 == t503) = false := beq_eq_false_iff_ne.mpr c31
          have c31b1 : (t501 != t503) = true := bne_iff_ne.mpr c31
          obtain rfl := Option.some.inj H
          obtain ⟨Ao41, co41, eo41⟩ := Kd.R_slice HO495.out
          subst eo41
          obtain ⟨Ao42, co42, eo42⟩ := Kd.R_slice HO499.out
          subst eo42
          go_wp2_with (first | (go_at_call 29; (with_reducible refine (slices_Equal_int_int.calls kj1 _ _ t492 _ _ t496 true _ ?side1 ?side2 ?side3 ?side4 A27.out).mono ?_); (case side1 => repeat (first | exact (Kd.R_reads' HO495.out).2.2 | (with_reducible refine Kd.C_alloc ?_ _) | (with_reducible refine Kd.C_drewN ?_ _) | (with_reducible refine Kd.C_drew ?_))); (case side2 => exact (Kd.R_reads' HO495.out).2.1); (case side3 => repeat (first | exact (Kd.R_reads' HO499.out).2.2 | (with_reducible refine Kd.C_alloc ?_ _) | (with_reducible refine Kd.C_drewN ?_ _) | (with_reducible refine Kd.C_drew ?_))); (case side4 => exact (Kd.R_reads' HO499.out).2.1); rintro e w' ⟨rfl, ⟨nd, rfl⟩⟩))
          go_ret
          exact ⟨by first | rfl | (simp [errW_none, errW_some] <;> rfl) | (simp [*, errW_none, errW_some] <;> rfl), by repeat (first | (with_reducible first | exact HB.out | apply below_alloc | apply pw_below_drewN | apply below_drew1) | exact HB.out)⟩
        ·rw [if_neg c30] at H
         have c30b0 : (t500 == t502) = false := beq_eq_false_iff_ne.mpr c30
         have c30b1 : (t500 != t502) = true := bne_iff_ne.mpr c30
         obtain rfl := Option.some.inj H
         obtain ⟨Ao43, co43, eo43⟩ := Kd.R_slice HO495.out
         subst eo43
         obtain ⟨Ao44, co44, eo44⟩ := Kd.R_slice HO499.out
         subst eo44
         go_wp2_with (first | (go_at_call 29; (with_reducible refine (slices_Equal_int_int.calls kj1 _ _ t492 _ _ t496 true _ ?side1 ?side2 ?side3 ?side4 A27.out).mono ?_); (case side1 => repeat (first | exact (Kd.R_reads' HO495.out).2.2 | (with_reducible refine Kd.C_alloc ?_ _) | (with_reducible refine Kd.C_drewN ?_ _) | (with_reducible refine Kd.C_drew ?_))); (case side2 => exact (Kd.R_reads' HO495.out).2.1); (case side3 => repeat (first | exact (Kd.R_reads' HO499.out).2.2 | (with_reducible refine Kd.C_alloc ?_ _) | (with_reducible refine Kd.C_drewN ?_ _) | (with_reducible refine Kd.C_drew ?_))); (case side4 => exact (Kd.R_reads' HO499.out).2.1); rintro e w' ⟨rfl, ⟨nd, rfl⟩⟩))
         go_ret
         exact ⟨by first | rfl | (simp [errW_none, errW_some] <;> rfl) | (simp [*, errW_none, errW_some] <;> rfl), by repeat (first | (with_reducible first | exact HB.out | apply below_alloc | apply pw_below_drewN | apply below_drew1) | exact HB.out)⟩
       ·rw [if_neg c29] at H
        have c29b0 : (t493 == t497) = false := beq_eq_false_iff_ne.mpr c29
        have c29b1 : (t493 != t497) = true := bne_iff_ne.mpr c29
        obtain rfl := Option.some.inj H
        obtain ⟨Ao45, co45, eo45⟩ := Kd.R_slice HO495.out
        subst eo45
        obtain ⟨Ao46, co46, eo46⟩ := Kd.R_slice HO499.out
        subst eo46
        go_wp2_with (first | (go_at_call 29; (with_reducible refine (slices_Equal_int_int.calls kj1 _ _ t492 _ _ t496 true _ ?side1 ?side2 ?side3 ?side4 A27.out).mono ?_); (case side1 => repeat (first | exact (Kd.R_reads' HO495.out).2.2 | (with_reducible refine Kd.C_alloc ?_ _) | (with_reducible refine Kd.C_drewN ?_ _) | (with_reducible refine Kd.C_drew ?_))); (case side2 => exact (Kd.R_reads' HO495.out).2.1); (case side3 => repeat (first | exact (Kd.R_reads' HO499.out).2.2 | (with_reducible refine Kd.C_alloc ?_ _) | (with_reducible refine Kd.C_drewN ?_ _) | (with_reducible refine Kd.C_drew ?_))); (case side4 => exact (Kd.R_reads' HO499.out).2.1); rintro e w' ⟨rfl, ⟨nd, rfl⟩⟩))
        go_ret
        exact ⟨by first | rfl | (simp [errW_none, errW_some] <;> rfl) | (simp [*, errW_none, errW_some] <;> rfl), by repeat (first | (with_reducible first | exact HB.out | apply below_alloc | apply pw_below_drewN | apply below_drew1) | exact HB.out)⟩
      ·replace c28 := Bool.eq_false_iff.mpr c28
       subst c28
       have H1 : (some false) = some r := by rw [if_neg (show ¬ (false = true) by decide)] at H; exact H
       clear H
       have H := H1
       clear H1
       obtain rfl := Option.some.inj H
       obtain ⟨Ao47, co47, eo47⟩ := Kd.R_slice HO495.out
       subst eo47
       obtain ⟨Ao48, co48, eo48⟩ := Kd.R_slice HO499.out
       subst eo48
       go_wp2_with (first | (go_at_call 29; (with_reducible refine (slices_Equal_int_int.calls kj1 _ _ t492 _ _ t496 false _ ?side1 ?side2 ?side3 ?side4 A27.out).mono ?_); (case side1 => repeat (first | exact (Kd.R_reads' HO495.out).2.2 | (with_reducible refine Kd.C_alloc ?_ _) | (with_reducible refine Kd.C_drewN ?_ _) | (with_reducible refine Kd.C_drew ?_))); (case side2 => exact (Kd.R_reads' HO495.out).2.1); (case side3 => repeat (first | exact (Kd.R_reads' HO499.out).2.2 | (with_reducible refine Kd.C_alloc ?_ _) | (with_reducible refine Kd.C_drewN ?_ _) | (with_reducible refine Kd.C_drew ?_))); (case side4 => exact (Kd.R_reads' HO499.out).2.1); rintro e w' ⟨rfl, ⟨nd, rfl⟩⟩))
       go_ret
       exact ⟨by first | rfl | (simp [errW_none, errW_some] <;> rfl) | (simp [*, errW_none, errW_some] <;> rfl), by repeat (first | (with_reducible first | exact HB.out | apply below_alloc | apply pw_below_drewN | apply below_drew1) | exact HB.out)⟩
     ·rw [if_neg c26] at H
      have c26b0 : (t489 == t491) = false := beq_eq_false_iff_ne.mpr c26
      have c26b1 : (t489 != t491) = true := bne_iff_ne.mpr c26
      obtain rfl := Option.some.inj H
      go_wp2
      go_ret
      exact ⟨by first | rfl | (simp [errW_none, errW_some] <;> rfl) | (simp [*, errW_none, errW_some] <;> rfl), by repeat (first | (with_reducible first | exact HB.out | apply below_alloc | apply pw_below_drewN | apply below_drew1) | exact HB.out)⟩
    ·rw [if_neg c25] at H
     have c25b0 : (t488 == t490) = false := beq_eq_false_iff_ne.mpr c25
     have c25b1 : (t488 != t490) = true := bne_iff_ne.mpr c25
     (first | rw [c25b0] | (simp only [i64_w, i32_w]; rw [c25b0]) | skip)
     (try rw [c25b1])
     obtain rfl := Option.some.inj H
     go_wp2
     go_ret
     exact ⟨by first | rfl | (simp [errW_none, errW_some] <;> rfl) | (simp [*, errW_none, errW_some] <;> rfl), by repeat (first | (with_reducible first | exact HB.out | apply below_alloc | apply pw_below_drewN | apply below_drew1) | exact HB.out)⟩
end Go.Proofs.Ytbagnalcabdlhaa.S
