-- Written by wip/tools/myprint.py, a program of this session's.
import Derived.Test.YtbagnalcabdlhaaS0
import Derived.Test.YtbagnalcabdlhaaS10
import Derived.Test.YtbagnalcabdlhaaS11
namespace Go.Proofs.Ytbagnalcabdlhaa.S
open Go.RowKit Go.Proofs.YtbagnalcabdlhaaW.PrintWords Go.Proofs.YtbagnalcabdlhaaW.PrintLast Go.Proofs.YtbagnalcabdlhaaW.PrintMore
attribute [local go_sem] max2_int min2_int max_two min_two max_three min_three max_four min_four   -- for this text's walks alone
set_option linter.unusedVariables false
set_option linter.unusedSimpArgs false
/-! ### ancepsref40_solutions: function 51 -/
mutual
def ancepsref40_solutions.l0 : Nat → List (S61) → Int → List Int → List Int → Int → Option (List Int)
 | 0, _, _, _, _, _ => none
 | k + 1, x0, x1, x5, x6, x7 => if x7 < (shl .i64 1 (x5.length : Int)) then (ancepsref40_solutions.j1 k x0 x1 x5 x6 x7 (decide ((x6.length : Int) < x1))) else (ancepsref40_solutions.j1 k x0 x1 x5 x6 x7 false)
def ancepsref40_solutions.j1 : Nat → List (S61) → Int → List Int → List Int → Int → Bool → Option (List Int)
 | 0, _, _, _, _, _, _ => none
 | k + 1, x0, x1, x5, x6, x7, x23 => if x23 = true then ((ancepsref38_Assignment.f k x5 x7).bind fun t462 => (ancepsref40_solutions.l1 k x0 x1 x5 x6 x7 t462 true 0)) else (some x6)
def ancepsref40_solutions.l1 : Nat → List (S61) → Int → List Int → List Int → Int → Int → Bool → Int → Option (List Int)
 | 0, _, _, _, _, _, _, _, _ => none
 | k + 1, x0, x1, x5, x6, x7, x8, x9, x10 => if x10 < (x0.length : Int) then (if x9 = true then (if 0 ≤ x10 then ((ancepsref38_Holds.f k ((rd_T61 x0 x10).f0) ((rd_T61 x0 x10).f1) x8).bind fun t464 => (ancepsref40_solutions.l1 k x0 x1 x5 x6 x7 x8 t464 (wrap64 (x10 + 1)))) else (none)) else (ancepsref40_solutions.l0 k x0 x1 x5 x6 (wrap64 (x7 + 1)))) else (if x9 = true then (if x6.length < 17592186044416 then (ancepsref40_solutions.l0 k x0 x1 x5 (x6 ++ [x8]) (wrap64 (x7 + 1))) else (none)) else (ancepsref40_solutions.l0 k x0 x1 x5 x6 (wrap64 (x7 + 1))))
end
def ancepsref40_solutions.f (k : Nat) (l0 : List (S61)) (a1 : Int) : Option (List Int) := (ancepsref40_Vars.f k l0).bind fun t459 => (ancepsref40_solutions.l0 k l0 a1 t459 ([] : List Int) 0)
theorem ancepsref40_solutions.mono_l : ∀ k, (∀ y0 y1 y2 y3 y4, LeO (ancepsref40_solutions.l0 k y0 y1 y2 y3 y4) (ancepsref40_solutions.l0 (k + 1) y0 y1 y2 y3 y4)) ∧ (∀ y0 y1 y2 y3 y4 y5, LeO (ancepsref40_solutions.j1 k y0 y1 y2 y3 y4 y5) (ancepsref40_solutions.j1 (k + 1) y0 y1 y2 y3 y4 y5)) ∧ (∀ y0 y1 y2 y3 y4 y5 y6 y7, LeO (ancepsref40_solutions.l1 k y0 y1 y2 y3 y4 y5 y6 y7) (ancepsref40_solutions.l1 (k + 1) y0 y1 y2 y3 y4 y5 y6 y7))
 | 0 => ⟨fun _ _ _ _ _ r h => by simp [ancepsref40_solutions.l0] at h, fun _ _ _ _ _ _ r h => by simp [ancepsref40_solutions.j1] at h, fun _ _ _ _ _ _ _ _ r h => by simp [ancepsref40_solutions.l1] at h⟩
 | k + 1 => by
  obtain ⟨ih0, ih1, ih2⟩ := ancepsref40_solutions.mono_l k
  refine ⟨?_, ?_, ?_⟩
  ·intro y0 y1 y2 y3 y4
   unfold ancepsref40_solutions.l0
   repeat' first
   | (with_reducible exact ih0 _ _ _ _ _)
   | (with_reducible exact ih1 _ _ _ _ _ _)
   | (with_reducible exact ih2 _ _ _ _ _ _ _ _)
   | (with_reducible exact ancepsref38_Assignment.mono _ _ _)
   | (with_reducible exact ancepsref38_Holds.mono _ _ _ _)
   | (with_reducible exact ancepsref40_Vars.mono _ _)
   | (with_reducible exact LeO.refl _)
   | (with_reducible exact LeO.none _)
   | (with_reducible refine LeO.ite ?_ ?_)
   | (with_reducible refine LeO.bind ?_ (fun _ => ?_))
   | exact ih0 _ _ _ _ _
   | exact ih1 _ _ _ _ _ _
   | exact ih2 _ _ _ _ _ _ _ _
   | exact ancepsref38_Assignment.mono _ _ _
   | exact ancepsref38_Holds.mono _ _ _ _
   | exact ancepsref40_Vars.mono _ _
   | exact LeO.none _
   | refine LeO.ite ?_ ?_
   | refine LeO.bind ?_ (fun _ => ?_)
  ·intro y0 y1 y2 y3 y4 y5
   unfold ancepsref40_solutions.j1
   repeat' first
   | (with_reducible exact ih0 _ _ _ _ _)
   | (with_reducible exact ih1 _ _ _ _ _ _)
   | (with_reducible exact ih2 _ _ _ _ _ _ _ _)
   | (with_reducible exact ancepsref38_Assignment.mono _ _ _)
   | (with_reducible exact ancepsref38_Holds.mono _ _ _ _)
   | (with_reducible exact ancepsref40_Vars.mono _ _)
   | (with_reducible exact LeO.refl _)
   | (with_reducible exact LeO.none _)
   | (with_reducible refine LeO.ite ?_ ?_)
   | (with_reducible refine LeO.bind ?_ (fun _ => ?_))
   | exact ih0 _ _ _ _ _
   | exact ih1 _ _ _ _ _ _
   | exact ih2 _ _ _ _ _ _ _ _
   | exact ancepsref38_Assignment.mono _ _ _
   | exact ancepsref38_Holds.mono _ _ _ _
   | exact ancepsref40_Vars.mono _ _
   | exact LeO.none _
   | refine LeO.ite ?_ ?_
   | refine LeO.bind ?_ (fun _ => ?_)
  ·intro y0 y1 y2 y3 y4 y5 y6 y7
   unfold ancepsref40_solutions.l1
   repeat' first
   | (with_reducible exact ih0 _ _ _ _ _)
   | (with_reducible exact ih1 _ _ _ _ _ _)
   | (with_reducible exact ih2 _ _ _ _ _ _ _ _)
   | (with_reducible exact ancepsref38_Assignment.mono _ _ _)
   | (with_reducible exact ancepsref38_Holds.mono _ _ _ _)
   | (with_reducible exact ancepsref40_Vars.mono _ _)
   | (with_reducible exact LeO.refl _)
   | (with_reducible exact LeO.none _)
   | (with_reducible refine LeO.ite ?_ ?_)
   | (with_reducible refine LeO.bind ?_ (fun _ => ?_))
   | exact ih0 _ _ _ _ _
   | exact ih1 _ _ _ _ _ _
   | exact ih2 _ _ _ _ _ _ _ _
   | exact ancepsref38_Assignment.mono _ _ _
   | exact ancepsref38_Holds.mono _ _ _ _
   | exact ancepsref40_Vars.mono _ _
   | exact LeO.none _
   | refine LeO.ite ?_ ?_
   | refine LeO.bind ?_ (fun _ => ?_)
theorem ancepsref40_solutions.mono : ∀ a0 a1 k, LeO (ancepsref40_solutions.f k a0 a1) (ancepsref40_solutions.f (k + 1) a0 a1) := by
 intro a0 a1 k
 obtain ⟨ih0, ih1, ih2⟩ := ancepsref40_solutions.mono_l k
 unfold ancepsref40_solutions.f
 repeat' first
   | (with_reducible exact ih0 _ _ _ _ _)
   | (with_reducible exact ih1 _ _ _ _ _ _)
   | (with_reducible exact ih2 _ _ _ _ _ _ _ _)
   | (with_reducible exact ancepsref38_Assignment.mono _ _ _)
   | (with_reducible exact ancepsref38_Holds.mono _ _ _ _)
   | (with_reducible exact ancepsref40_Vars.mono _ _)
   | (with_reducible exact LeO.refl _)
   | (with_reducible exact LeO.none _)
   | (with_reducible refine LeO.ite ?_ ?_)
   | (with_reducible refine LeO.bind ?_ (fun _ => ?_))
   | exact ih0 _ _ _ _ _
   | exact ih1 _ _ _ _ _ _
   | exact ih2 _ _ _ _ _ _ _ _
   | exact ancepsref38_Assignment.mono _ _ _
   | exact ancepsref38_Holds.mono _ _ _ _
   | exact ancepsref40_Vars.mono _ _
   | exact LeO.none _
   | refine LeO.ite ?_ ?_
   | refine LeO.bind ?_ (fun _ => ?_)
set_option maxHeartbeats 8000000 in
set_option maxRecDepth 100000 in
theorem ancepsref40_solutions.calls (k : Nat) (A0 : Option Addr) (c0 : Nat) (l0 : List (S61)) (a1 : Int) (r : List Int) (w : World) (hr0 : Kd.C k61 w A0 l0.length l0) (hc0 : l0.length ≤ c0) (h : ancepsref40_solutions.f k l0 a1 = some r) :
  Calls Try.prog 51 #[.slice A0 l0.length c0, .int .i64 a1] w fun e w' => ∃ v0_ : Value, e = .returned (v0_) ∧ Kd.R (Kd.int .i64) 3 w' w.heap.size (fun _ => True) v0_ r ∧ Below w.heap.size w w' := by
 have hu61 := Try.underlying61
 have HR0 := Aside0.mk hr0
 have HC0 := Aside0.mk hc0
 clear hr0 hc0
 have HB := Aside0.mk (Below.refl w.heap.size w)
 have H : ((ancepsref40_Vars.f k l0).bind fun t459 => (ancepsref40_solutions.l0 k l0 a1 t459 ([] : List Int) 0)) = some r := h
 clear h
 replace H := Option.bind_eq_some_iff.mp H
 obtain ⟨t459, A30, H⟩ := H
 replace H : (ancepsref40_solutions.l0 k l0 a1 t459 ([] : List Int) 0) = some r := H
 have A3 := Aside0.mk A30
 clear A30
 have H' := Aside0.mk H
 clear H
 go_enter Try.func51, Try.ntmps51
 go_wp2_with (first | ((with_reducible refine gate_callee (f := 31) rfl ?_); refine goesL_ (some 12) rfl rfl Try.func31 zK rfl #[.slice A0 l0.length c0] rfl zM ?_; (with_reducible refine (ancepsref40_Vars.calls k _ _ l0 t459 _ ?side1 ?side2 A3.out).mono ?_); (case side1 => repeat (first | exact HR0.out | (with_reducible refine Kd.C_alloc ?_ _) | (with_reducible refine Kd.C_drewN ?_ _) | (with_reducible refine Kd.C_drew ?_))); (case side2 => exact HC0.out); rintro e w4 ⟨v460, rfl, ho0, hb⟩; refine ⟨_, rfl, ?_⟩; have n0_ := Aside0.mk (Kd.R_lower ho0 (below_size zB)); have n1_ := Aside0.mk (below_step zB hb); clear HB; have HO461 := n0_; have HB := n1_; clear n0_ n1_; (try clear hb); (try clear hb2); (try clear hk); (try clear hi); (try clear ho0)))
 go_loopg [6, 7] k (fun kq v6 v7 w' => ∃ (x6_1 : List Int) (x7_1 : Int), v7 = .int .i64 x7_1 ∧ Aside0 (ancepsref40_solutions.l0 kq l0 a1 t459 x6_1 x7_1 = some r) ∧ Aside0 (kq ≤ k) ∧ Aside0 (Kd.R (Kd.int .i64) 3 w' w.heap.size (fun k_ => some k_ ≠ (v6 : Value).ownBlock) v460 t459) ∧ Aside0 (Kd.R (Kd.int .i64) 3 w' w.heap.size (fun k_ => some k_ ≠ (v460 : Value).ownBlock) v6 x6_1) ∧ Aside0 (Below w.heap.size w w'))
 case atStart => exact ⟨(([] : List Int)), (0), zT, H', ⟨Nat.le_refl _⟩, ⟨by (with_reducible repeat (first | apply Kd.R_alloc | apply Kd.R_drewN | apply Kd.R_drew)); exact Kd.R_mono HO461.out (fun _ hk => (by simp [Value.ownBlock]))⟩, ⟨by first | exact Kd.R_nil _ _ _ _ _ | exact Kd.N_nil _ _ _ _ _ | exact Kd.V_nil _ _ _ _ _ | exact Kd.Q_nil _ _ _ _ _ | exact Kd.S_nil _ _ _ _ _⟩, ⟨by repeat (first | (with_reducible first | exact HB.out | apply below_alloc | apply pw_below_drewN | apply below_drew1) | exact HB.out)⟩⟩
 case round =>
  clear H'
  obtain ⟨x6_1, x7_1, rfl, HA, HK1, HO_5, HO_6, HB⟩ := hrel
  cases gk with
  | zero => exact absurd HA.out (by simp [ancepsref40_solutions.l0])
  | succ k1 =>
   have H := HA.out
   clear HA
   simp only [ancepsref40_solutions.l0] at H
   have HC5 := Aside0.mk H
   clear H
   go_upto_region 4 with (fail)
   go_cut [23] (fun v23 wc => ∃ (kq : Nat) (x23_4 : Bool), v23 = .bool x23_4 ∧ Aside0 (ancepsref40_solutions.j1 kq l0 a1 t459 x6_1 x7_1 x23_4 = some r) ∧ Aside0 (kq ≤ k1) ∧ Aside0 (Kd.R (Kd.int .i64) 3 wc w.heap.size (fun k_ => some k_ ≠ (u6 : Value).ownBlock) v460 t459) ∧ Aside0 (Kd.R (Kd.int .i64) 3 wc w.heap.size (fun k_ => some k_ ≠ (v460 : Value).ownBlock) u6 x6_1) ∧ Aside0 (Below w.heap.size w wc))
   case first =>
    have H := HC5.out
    clear HC5
    obtain ⟨ji6, hji6⟩ : ∃ j_ : Int, (shl .i64 1 (t459.length : Int)) = j_ := ⟨_, rfl⟩
    replace H : (if x7_1 < (ji6) then (ancepsref40_solutions.j1 k1 l0 a1 t459 x6_1 x7_1 (decide ((x6_1.length : Int) < a1))) else (ancepsref40_solutions.j1 k1 l0 a1 t459 x6_1 x7_1 false)) = some r := by first | (rw [hji6] at H; exact H) | (simp only [hji6] at H ⊢; exact H)
    have hji6_ : (IntKind.i64.wrap (1 * 2 ^ min (t459.length : Int).toNat 64)) = ji6 := hji6
    have hji6z : (t459.length : Int) ≤ 64 → (IntKind.i64.wrap (1 * 2 ^ (t459.length : Int).toNat)) = ji6 := shl_small hji6
    have hji6p : (IntKind.i64.wrap (1 * 2 ^ min t459.length 64)) = ji6 := hji6_
    have hji6q : (t459.length : Int) ≤ 64 → (IntKind.i64.wrap (1 * 2 ^ t459.length)) = ji6 := hji6z
    have hji6r : (IntKind.i64.wrap (2 ^ min t459.length 64)) = ji6 := by have h_ := hji6p; rw [Int.one_mul] at h_; exact h_
    have hji6s : (t459.length : Int) ≤ 64 → (IntKind.i64.wrap (2 ^ t459.length)) = ji6 := fun hle_ => by have h_ := hji6q hle_; rw [Int.one_mul] at h_; exact h_
    have hji6u : (IntKind.i64.wrap (2 ^ min (t459.length : Int).toNat 64)) = ji6 := by have h_ := hji6_; rw [Int.one_mul] at h_; exact h_
    have hji6v : (t459.length : Int) ≤ 64 → (IntKind.i64.wrap (2 ^ (t459.length : Int).toNat)) = ji6 := fun hle_ => by have h_ := hji6z hle_; rw [Int.one_mul] at h_; exact h_
    have hji6y : (wrap64 (1 * 2 ^ min (t459.length : Int).toNat 64)) = ji6 := (i64_w _).symm.trans hji6_
    have hji6x : (t459.length : Int) ≤ 64 → (wrap64 (1 * 2 ^ (t459.length : Int).toNat)) = ji6 := fun h_ => (i64_w _).symm.trans (hji6z h_)
    by_cases c7 : x7_1 < (ji6)
    ·rw [if_pos c7] at H
     have c7b0 : decide (x7_1 < (ji6)) = true := decide_eq_true c7
     clear c7
     (first | rw [c7b0] | (simp only [i64_w, i32_w]; rw [c7b0]) | skip)
     have H' := Aside0.mk H
     clear H
     obtain ⟨Ao8, co8, eo8⟩ := Kd.R_slice HO_5.out
     subst eo8
     obtain ⟨Ao9, co9, eo9⟩ := Kd.R_slice HO_6.out
     subst eo9
     go_wp2
     go_meet
     case rel => exact ⟨_, (decide ((x6_1.length : Int) < a1)), zT, H', ⟨by have := HK1.out; first | omega | exact Nat.le_refl _⟩, ⟨by (with_reducible repeat (first | apply Kd.R_alloc | apply Kd.R_drewN | apply Kd.R_drew)); exact HO_5.out⟩, ⟨by (with_reducible repeat (first | apply Kd.R_alloc | apply Kd.R_drewN | apply Kd.R_drew)); exact HO_6.out⟩, ⟨by repeat (first | (with_reducible first | exact HB.out | apply below_alloc | apply pw_below_drewN | apply below_drew1) | exact HB.out)⟩⟩
    ·rw [if_neg c7] at H
     have c7b0 : decide (x7_1 < (ji6)) = false := decide_eq_false c7
     clear c7
     (first | rw [c7b0] | (simp only [i64_w, i32_w]; rw [c7b0]) | skip)
     have H' := Aside0.mk H
     clear H
     obtain ⟨Ao10, co10, eo10⟩ := Kd.R_slice HO_5.out
     subst eo10
     go_wp2
     go_meet
     case rel => exact ⟨_, (false), zT, H', ⟨by have := HK1.out; first | omega | exact Nat.le_refl _⟩, ⟨by (with_reducible repeat (first | apply Kd.R_alloc | apply Kd.R_drewN | apply Kd.R_drew)); exact HO_5.out⟩, ⟨by (with_reducible repeat (first | apply Kd.R_alloc | apply Kd.R_drewN | apply Kd.R_drew)); exact HO_6.out⟩, ⟨by repeat (first | (with_reducible first | exact HB.out | apply below_alloc | apply pw_below_drewN | apply below_drew1) | exact HB.out)⟩⟩
   case rest =>
    clear HC5
    obtain ⟨kq, x23_4, rfl, HA, HJ4, HO_5, HO_6, HB⟩ := hcut
    cases kq with
    | zero => exact absurd HA.out (by simp [ancepsref40_solutions.j1])
    | succ kj4 =>
     have H := HA.out
     clear HA
     simp only [ancepsref40_solutions.j1] at H
     by_cases c11 : x23_4 = true
     ·subst c11
      have H1 : ((ancepsref38_Assignment.f kj4 t459 x7_1).bind fun t462 => (ancepsref40_solutions.l1 kj4 l0 a1 t459 x6_1 x7_1 t462 true 0)) = some r := by rw [if_pos rfl] at H; exact H
      clear H
      have H := H1
      clear H1
      replace H := Option.bind_eq_some_iff.mp H
      obtain ⟨t462, A120, H⟩ := H
      replace H : (ancepsref40_solutions.l1 kj4 l0 a1 t459 x6_1 x7_1 t462 true 0) = some r := H
      have A12 := Aside0.mk A120
      clear A120
      have H' := Aside0.mk H
      clear H
      obtain ⟨Ao13, co13, eo13⟩ := Kd.R_slice HO_5.out
      subst eo13
      go_wp2_with (first | ((with_reducible refine gate_callee (f := 59) rfl ?_); refine goesL_ (some 28) rfl rfl Try.func59 zK rfl #[.slice Ao13 t459.length co13, .int .i64 x7_1] rfl zM ?_; (with_reducible refine (ancepsref38_Assignment.calls kj4 _ _ t459 x7_1 t462 _ ?side1 ?side2 A12.out).mono ?_); (case side1 => repeat (first | exact (Kd.R_reads' HO_5.out).2.2 | (with_reducible refine Kd.C_alloc ?_ _) | (with_reducible refine Kd.C_drewN ?_ _) | (with_reducible refine Kd.C_drew ?_))); (case side2 => exact (Kd.R_reads' HO_5.out).2.1); rintro e w' ⟨rfl, ⟨nd, rfl⟩⟩; refine ⟨_, rfl, ?_⟩))
      go_loopg [9, 10] kj4 (fun kq v9 v10 w' => ∃ (x9_3 : Bool) (x10_3 : Int), v9 = .bool x9_3 ∧ v10 = .int .i64 x10_3 ∧ Aside0 (ancepsref40_solutions.l1 kq l0 a1 t459 x6_1 x7_1 t462 x9_3 x10_3 = some r) ∧ Aside0 (kq ≤ kj4) ∧ Aside0 (Kd.R (Kd.int .i64) 3 w' w.heap.size (fun k_ => some k_ ≠ (u6 : Value).ownBlock) (.slice Ao13 t459.length co13) t459) ∧ Aside0 (Kd.R (Kd.int .i64) 3 w' w.heap.size (fun k_ => some k_ ≠ ((.slice Ao13 t459.length co13) : Value).ownBlock) u6 x6_1) ∧ Aside0 (Below w.heap.size w w'))
      case atStart => exact ⟨(true), (0), zT, zT, H', ⟨Nat.le_refl _⟩, ⟨by (with_reducible repeat (first | apply Kd.R_alloc | apply Kd.R_drewN | apply Kd.R_drew)); exact HO_5.out⟩, ⟨by (with_reducible repeat (first | apply Kd.R_alloc | apply Kd.R_drewN | apply Kd.R_drew)); exact HO_6.out⟩, ⟨by repeat (first | (with_reducible first | exact HB.out | apply below_alloc | apply pw_below_drewN | apply below_drew1) | exact HB.out)⟩⟩
      case round =>
       clear H'
       try clear c11
       obtain ⟨x9_3, x10_3, rfl, rfl, HA, HK3, HO_5, HO_6, HB⟩ := hrel
       cases gk with
       | zero => exact absurd HA.out (by simp [ancepsref40_solutions.l1])
       | succ k3 =>
        have H := HA.out
        clear HA
        simp only [ancepsref40_solutions.l1] at H
        by_cases c14 : x10_3 < (l0.length : Int)
        ·rw [if_pos c14] at H
         have c14b0 : decide (x10_3 < (l0.length : Int)) = true := decide_eq_true c14
         clear c14
         by_cases c15 : x9_3 = true
         ·subst c15
          have H1 : (if 0 ≤ x10_3 then ((ancepsref38_Holds.f k3 ((rd_T61 l0 x10_3).f0) ((rd_T61 l0 x10_3).f1) t462).bind fun t464 => (ancepsref40_solutions.l1 k3 l0 a1 t459 x6_1 x7_1 t462 t464 (wrap64 (x10_3 + 1)))) else (none)) = some r := by rw [if_pos rfl] at H; exact H
          clear H
          have H := H1
          clear H1
          by_cases c16 : 0 ≤ x10_3
          ·rw [if_pos c16] at H
           have c16b0 : decide (0 ≤ x10_3) = true := decide_eq_true c16
           clear c16
           replace H := Option.bind_eq_some_iff.mp H
           obtain ⟨t464, A170, H⟩ := H
           replace H : (ancepsref40_solutions.l1 k3 l0 a1 t459 x6_1 x7_1 t462 t464 (wrap64 (x10_3 + 1))) = some r := H
           have A17 := Aside0.mk A170
           clear A170
           have H' := Aside0.mk H
           clear H
           have p463 : 0 ≤ (x10_3 : Int) := of_decide_eq_true zh
           have q463 : x10_3 < (l0.length : Int) := of_decide_eq_true zh
           obtain ⟨ad463, A463_0, c463_0, A463_1, c463_1, e463, hx463_0, hx463_1, hl463_0, hi463_0, hl463_1, hi463_1⟩ := at_T61 HR0.out x10_3 p463 q463
           cases e463
           replace hx463_0 := (HB.out.cell (World.block_lt_of_cell? w _ hx463_0)).trans hx463_0
           replace hx463_1 := (HB.out.cell (World.block_lt_of_cell? w _ hx463_1)).trans hx463_1
           have HR463_0 := Aside0.mk hi463_0
           have HC463_0 := Aside0.mk hl463_0
           clear hi463_0 hl463_0
           have HR463_1 := Aside0.mk hi463_1
           have HC463_1 := Aside0.mk hl463_1
           clear hi463_1 hl463_1
           replace p463 := eq_true p463
           replace q463 := eq_true q463
           go_wp2_with (first | ((with_reducible refine gate_callee (f := 61) rfl ?_); refine goesL_ (some 43) rfl rfl Try.func61 zK rfl #[.agg #[.slice A463_0 ((rd_T61 l0 x10_3).f0).length c463_0, .slice A463_1 ((rd_T61 l0 x10_3).f1).length c463_1], .int .i64 t462] rfl zM ?_; (with_reducible refine (ancepsref38_Holds.calls k3 _ _ ((rd_T61 l0 x10_3).f0) _ _ ((rd_T61 l0 x10_3).f1) t462 t464 _ ?side1 ?side2 ?side3 ?side4 A17.out).mono ?_); (case side1 => repeat (first | exact (Kd.C_below HR463_0.out HB.out) | (with_reducible refine Kd.C_alloc ?_ _) | (with_reducible refine Kd.C_drewN ?_ _) | (with_reducible refine Kd.C_drew ?_))); (case side2 => exact HC463_0.out); (case side3 => repeat (first | exact (Kd.C_below HR463_1.out HB.out) | (with_reducible refine Kd.C_alloc ?_ _) | (with_reducible refine Kd.C_drewN ?_ _) | (with_reducible refine Kd.C_drew ?_))); (case side4 => exact HC463_1.out); rintro e w18 ⟨rfl, hb⟩; refine ⟨_, rfl, ?_⟩; have n0_ := Aside0.mk (Kd.R_below (zR HO_5) hb); have n1_ := Aside0.mk (Kd.R_below (zR HO_6) hb); have n2_ := Aside0.mk (below_step zB hb); clear HO_5; clear HO_6; clear HB; have HO_5 := n0_; have HO_6 := n1_; have HB := n2_; clear n0_ n1_ n2_; (try clear hb); (try clear hb2); (try clear hk); (try clear hi)))
           go_roundg k3
           case measure => have := HK1.out; have := HJ4.out; have := HK3.out; omega
           case rel => exact ⟨(t464), (wrap64 (x10_3 + 1)), zT, zT, H', ⟨by have := HK1.out; have := HJ4.out; have := HK3.out; omega⟩, ⟨by (with_reducible repeat (first | apply Kd.R_alloc | apply Kd.R_drewN | apply Kd.R_drew)); exact HO_5.out⟩, ⟨by (with_reducible repeat (first | apply Kd.R_alloc | apply Kd.R_drewN | apply Kd.R_drew)); exact HO_6.out⟩, ⟨by repeat (first | (with_reducible first | exact HB.out | apply below_alloc | apply pw_below_drewN | apply below_drew1) | exact HB.out)⟩⟩
          ·rw [if_neg c16] at H
           exact absurd H (by simp)
         ·replace c15 := Bool.eq_false_iff.mpr c15
          subst c15
          have H1 : (ancepsref40_solutions.l0 k3 l0 a1 t459 x6_1 (wrap64 (x7_1 + 1))) = some r := by rw [if_neg (show ¬ (false = true) by decide)] at H; exact H
          clear H
          have H := H1
          clear H1
          have H' := Aside0.mk H
          clear H
          go_wp2
          go_roundg k3
          case measure => have := HK1.out; have := HJ4.out; have := HK3.out; omega
          case rel => exact ⟨(x6_1), (wrap64 (x7_1 + 1)), zT, H', ⟨by have := HK1.out; have := HJ4.out; have := HK3.out; omega⟩, ⟨by (with_reducible repeat (first | apply Kd.R_alloc | apply Kd.R_drewN | apply Kd.R_drew)); exact HO_5.out⟩, ⟨by (with_reducible repeat (first | apply Kd.R_alloc | apply Kd.R_drewN | apply Kd.R_drew)); exact HO_6.out⟩, ⟨by repeat (first | (with_reducible first | exact HB.out | apply below_alloc | apply pw_below_drewN | apply below_drew1) | exact HB.out)⟩⟩
        ·rw [if_neg c14] at H
         have c14b0 : decide (x10_3 < (l0.length : Int)) = false := decide_eq_false c14
         clear c14
         by_cases c19 : x9_3 = true
         ·subst c19
          have H1 : (if x6_1.length < 17592186044416 then (ancepsref40_solutions.l0 k3 l0 a1 t459 (x6_1 ++ [t462]) (wrap64 (x7_1 + 1))) else (none)) = some r := by rw [if_pos rfl] at H; exact H
          clear H
          have H := H1
          clear H1
          by_cases c20 : x6_1.length < 17592186044416
          ·rw [if_pos c20] at H
           have LMc20 := Aside0.mk c20
           clear c20
           obtain ⟨y465, hy465⟩ : ∃ y_ : List Int, y_ = (x6_1 ++ [t462]) := ⟨_, rfl⟩
           replace H : (ancepsref40_solutions.l0 k3 l0 a1 t459 y465 (wrap64 (x7_1 + 1))) = some r := by first | (rw [hy465]; with_reducible exact H) | (have H2_ := (Option.bind_some _ _).symm.trans H; rw [hy465]; with_reducible exact H2_) | (have H2_ := (Option.bind_some _ _).symm.trans H; with_reducible exact H2_) | with_reducible exact H | (rw [hy465]; exact H) | exact H
           have Ny465 := Aside0.mk hy465
           clear hy465
           have H' := Aside0.mk H
           clear H
           go_wp2_with (first | ((with_reducible refine gate_builtin (b := .append) (xs := #[.tmp 45, .tmp 47]) rfl ?_); (try (refine gate_guard (by rfl) ?_; dsimp only)); at_builtin; refine Kd.R_append (Kd.int .i64) (w0 := w) w.heap.size rfl (.tmp 45) (.tmp 47) 42 3 (.int .i64 0) 8 rfl Try.underlying42 info3 rfl (by decide) (by omega) u6 x6_1 t462 [.int .i64 t462] (fun k_ => some k_ ≠ (.slice Ao13 t459.length co13 : Value).ownBlock) (fun _ => False) rfl rfl ?aP (fun _ hk => hk.elim) ?aF ?aO ?aB ?aS ?aL ?_; (case aP => exact rfl); (case aB => exact zB); (case aF => exact (fun k_ hk => Kd.fresh' (Kd.R_lt (zR HO_5)) k_ hk)); (case aO => exact (zR HO_6)); (case aS => exact (below_size zB)); (case aL => have := LMc20.out; omega); intro v466 w21 ho hb hg hat; rw [← Ny465.out] at ho; have n0_ := Aside0.mk (Kd.R_after (ok := (fun _ => True)) (by (with_reducible repeat (first | apply Kd.R_alloc | apply Kd.R_drewN | apply Kd.R_drew)); exact Kd.R_mono HO_5.out (fun _ hk => ⟨trivial, hk⟩)) hg hat); have n1_ := Aside0.mk (hb); have n2_ := Aside0.mk (ho); clear HO_5; clear HB; clear HO_6; have HO_5 := n0_; have HB := n1_; have HO467 := n2_; clear n0_ n1_ n2_; clear ho hb hg hat))
           go_roundg k3
           case measure => have := HK1.out; have := HJ4.out; have := HK3.out; omega
           case rel => exact ⟨(y465), (wrap64 (x7_1 + 1)), zT, H', ⟨by have := HK1.out; have := HJ4.out; have := HK3.out; omega⟩, ⟨by (with_reducible repeat (first | apply Kd.R_alloc | apply Kd.R_drewN | apply Kd.R_drew)); exact Kd.R_mono HO_5.out (fun _ hk => hk.2)⟩, ⟨by (with_reducible repeat (first | apply Kd.R_alloc | apply Kd.R_drewN | apply Kd.R_drew)); exact HO467.out⟩, ⟨by repeat (first | (with_reducible first | exact HB.out | apply below_alloc | apply pw_below_drewN | apply below_drew1) | exact HB.out)⟩⟩
          ·rw [if_neg c20] at H
           exact absurd H (by simp)
         ·replace c19 := Bool.eq_false_iff.mpr c19
          subst c19
          have H1 : (ancepsref40_solutions.l0 k3 l0 a1 t459 x6_1 (wrap64 (x7_1 + 1))) = some r := by rw [if_neg (show ¬ (false = true) by decide)] at H; exact H
          clear H
          have H := H1
          clear H1
          have H' := Aside0.mk H
          clear H
          go_wp2
          go_roundg k3
          case measure => have := HK1.out; have := HJ4.out; have := HK3.out; omega
          case rel => exact ⟨(x6_1), (wrap64 (x7_1 + 1)), zT, H', ⟨by have := HK1.out; have := HJ4.out; have := HK3.out; omega⟩, ⟨by (with_reducible repeat (first | apply Kd.R_alloc | apply Kd.R_drewN | apply Kd.R_drew)); exact HO_5.out⟩, ⟨by (with_reducible repeat (first | apply Kd.R_alloc | apply Kd.R_drewN | apply Kd.R_drew)); exact HO_6.out⟩, ⟨by repeat (first | (with_reducible first | exact HB.out | apply below_alloc | apply pw_below_drewN | apply below_drew1) | exact HB.out)⟩⟩
     ·replace c11 := Bool.eq_false_iff.mpr c11
      subst c11
      have H1 : (some x6_1) = some r := by rw [if_neg (show ¬ (false = true) by decide)] at H; exact H
      clear H
      have H := H1
      clear H1
      obtain rfl := Option.some.inj H
      go_wp2
      go_ret
      exact ⟨_, by first | rfl | (simp [errW_none, errW_some] <;> rfl) | (simp [*, errW_none, errW_some] <;> rfl), by (with_reducible repeat (first | apply Kd.R_alloc | apply Kd.R_drewN | apply Kd.R_drew)); exact Kd.R_mono HO_6.out (fun _ hk => trivial), by repeat (first | (with_reducible first | exact HB.out | apply below_alloc | apply pw_below_drewN | apply below_drew1) | exact HB.out)⟩
end Go.Proofs.Ytbagnalcabdlhaa.S
