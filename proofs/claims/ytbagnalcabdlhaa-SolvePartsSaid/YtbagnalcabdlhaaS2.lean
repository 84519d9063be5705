-- Written by wip/tools/myprint.py, a program of this session's.
import Derived.Test.YtbagnalcabdlhaaS0
namespace Go.Proofs.Ytbagnalcabdlhaa.S
open Go.RowKit Go.Proofs.YtbagnalcabdlhaaW.PrintWords Go.Proofs.YtbagnalcabdlhaaW.PrintLast Go.Proofs.YtbagnalcabdlhaaW.PrintMore
attribute [local go_sem] max2_int min2_int max_two min_two max_three min_three max_four min_four   -- for this text's walks alone
set_option linter.unusedVariables false
set_option linter.unusedSimpArgs false
/-! ### table_ascending: function 121 -/
mutual
def table_ascending.l0 : Nat → List Int → List Int → Int → Int → Option (Int)
 | 0, _, _, _, _ => none
 | k + 1, x0, x8, x9, x10 => if x10 < x9 then (if 0 ≤ x10 then (if x10 < (x8.length : Int) then (if (rd x8 x10) < 0 then (table_ascending.j1 k x0 x10 (rd x8 x10) x8 x9 x10 true) else (table_ascending.j1 k x0 x10 (rd x8 x10) x8 x9 x10 (decide ((rd x8 x10) ≥ 24)))) else (none)) else (none)) else (some 0)
def table_ascending.j1 : Nat → List Int → Int → Int → List Int → Int → Int → Bool → Option (Int)
 | 0, _, _, _, _, _, _, _ => none
 | k + 1, x0, x3, x4, x8, x9, x10, x20 => if x20 = true then (some 6) else (if x3 > 0 then (if 0 ≤ (wrap64 (x3 - 1)) then (if (wrap64 (x3 - 1)) < (x0.length : Int) then (if (rd x0 (wrap64 (x3 - 1))) ≥ x4 then (some 18) else (table_ascending.l0 k x0 x8 x9 (wrap64 (x10 + 1)))) else (none)) else (none)) else (table_ascending.l0 k x0 x8 x9 (wrap64 (x10 + 1))))
end
def table_ascending.f (k : Nat) (l0 : List Int) : Option (Int) := if (l0.length : Int) > 10 then (some 3) else (table_ascending.l0 k l0 l0 (l0.length : Int) 0)
theorem table_ascending.mono_l : ∀ k, (∀ y0 y1 y2 y3, LeO (table_ascending.l0 k y0 y1 y2 y3) (table_ascending.l0 (k + 1) y0 y1 y2 y3)) ∧ (∀ y0 y1 y2 y3 y4 y5 y6, LeO (table_ascending.j1 k y0 y1 y2 y3 y4 y5 y6) (table_ascending.j1 (k + 1) y0 y1 y2 y3 y4 y5 y6))
 | 0 => ⟨fun _ _ _ _ r h => by simp [table_ascending.l0] at h, fun _ _ _ _ _ _ _ r h => by simp [table_ascending.j1] at h⟩
 | k + 1 => by
  obtain ⟨ih0, ih1⟩ := table_ascending.mono_l k
  refine ⟨?_, ?_⟩
  ·intro y0 y1 y2 y3
   unfold table_ascending.l0
   repeat' first
   | (with_reducible exact ih0 _ _ _ _)
   | (with_reducible exact ih1 _ _ _ _ _ _ _)
   | (with_reducible exact LeO.refl _)
   | (with_reducible exact LeO.none _)
   | (with_reducible refine LeO.ite ?_ ?_)
   | (with_reducible refine LeO.bind ?_ (fun _ => ?_))
   | exact ih0 _ _ _ _
   | exact ih1 _ _ _ _ _ _ _
   | exact LeO.none _
   | refine LeO.ite ?_ ?_
   | refine LeO.bind ?_ (fun _ => ?_)
  ·intro y0 y1 y2 y3 y4 y5 y6
   unfold table_ascending.j1
   repeat' first
   | (with_reducible exact ih0 _ _ _ _)
   | (with_reducible exact ih1 _ _ _ _ _ _ _)
   | (with_reducible exact LeO.refl _)
   | (with_reducible exact LeO.none _)
   | (with_reducible refine LeO.ite ?_ ?_)
   | (with_reducible refine LeO.bind ?_ (fun _ => ?_))
   | exact ih0 _ _ _ _
   | exact ih1 _ _ _ _ _ _ _
   | exact LeO.none _
   | refine LeO.ite ?_ ?_
   | refine LeO.bind ?_ (fun _ => ?_)
theorem table_ascending.mono : ∀ a0 k, LeO (table_ascending.f k a0) (table_ascending.f (k + 1) a0) := by
 intro a0 k
 obtain ⟨ih0, ih1⟩ := table_ascending.mono_l k
 unfold table_ascending.f
 repeat' first
   | (with_reducible exact ih0 _ _ _ _)
   | (with_reducible exact ih1 _ _ _ _ _ _ _)
   | (with_reducible exact LeO.refl _)
   | (with_reducible exact LeO.none _)
   | (with_reducible refine LeO.ite ?_ ?_)
   | (with_reducible refine LeO.bind ?_ (fun _ => ?_))
   | exact ih0 _ _ _ _
   | exact ih1 _ _ _ _ _ _ _
   | exact LeO.none _
   | refine LeO.ite ?_ ?_
   | refine LeO.bind ?_ (fun _ => ?_)
set_option maxHeartbeats 8000000 in
set_option maxRecDepth 100000 in
theorem table_ascending.calls (k : Nat) (A0 : Option Addr) (c0 : Nat) (l0 : List Int) (r : Int) (w : World) (hr0 : Kd.C (Kd.int .i64) w A0 l0.length l0) (hc0 : l0.length ≤ c0) (h : table_ascending.f k l0 = some r) :
  Calls Try.prog 121 #[.slice A0 l0.length c0] w fun e w' => e = .returned (.int .i64 r) ∧ Drawn0 w w' := by
 have hu3 := Try.underlying3
 have HR0 := Aside0.mk hr0
 have HC0 := Aside0.mk hc0
 clear hr0 hc0
 have H : (if (l0.length : Int) > 10 then (some 3) else (table_ascending.l0 k l0 l0 (l0.length : Int) 0)) = some r := h
 clear h
 by_cases c2 : (l0.length : Int) > 10
 ·rw [if_pos c2] at H
  have c2b0 : decide (10 < (l0.length : Int)) = true := decide_eq_true c2
  have c2b1 : decide (10 < l0.length) = true := decide_eq_true (by omega)
  clear c2
  obtain rfl := Option.some.inj H
  go_enter Try.func121, Try.ntmps121
  go_wp2
  go_ret
  exact ⟨by first | rfl | (simp; done) | (simp [*]; done), by repeat (first | exact Drawn0.refl _ | apply Drawn0.step)⟩
 ·rw [if_neg c2] at H
  have c2b0 : decide (10 < (l0.length : Int)) = false := decide_eq_false c2
  have c2b1 : decide (10 < l0.length) = false := decide_eq_false (by omega)
  clear c2
  have H' := Aside0.mk H
  clear H
  go_enter Try.func121, Try.ntmps121
  go_wp2
  go_loopg [10] k (fun kq v10 w' => ∃ (x10_1 : Int), v10 = .int .i64 x10_1 ∧ Aside0 (table_ascending.l0 kq l0 l0 (l0.length : Int) x10_1 = some r) ∧ Aside0 (kq ≤ k) ∧ Drawn0 w w')
  case atStart => exact ⟨(0), zT, H', ⟨Nat.le_refl _⟩, by repeat (first | exact Drawn0.refl _ | apply Drawn0.step)⟩
  case round =>
   clear H'
   try clear c2
   try clear c2b0
   try clear c2b1
   obtain ⟨x10_1, rfl, HA, HK1, ⟨m1, rfl⟩⟩ := hrel
   cases gk with
   | zero => exact absurd HA.out (by simp [table_ascending.l0])
   | succ k1 =>
    have H := HA.out
    clear HA
    simp only [table_ascending.l0] at H
    by_cases c3 : x10_1 < (l0.length : Int)
    ·rw [if_pos c3] at H
     have c3b0 : decide (x10_1 < (l0.length : Int)) = true := decide_eq_true c3
     clear c3
     by_cases c4 : 0 ≤ x10_1
     ·rw [if_pos c4] at H
      have c4b0 : decide (0 ≤ x10_1) = true := decide_eq_true c4
      clear c4
      by_cases c5 : x10_1 < (l0.length : Int)
      ·rw [if_pos c5] at H
       have c5b0 : decide (x10_1 < (l0.length : Int)) = true := decide_eq_true c5
       clear c5
       have HC6 := Aside0.mk H
       clear H
       have p101 : 0 ≤ (x10_1 : Int) := of_decide_eq_true zh
       have q101 : x10_1 < (l0.length : Int) := of_decide_eq_true zh
       obtain ⟨ad101, e101, hx101_0⟩ := Kd.at_int HR0.out x10_1 p101 q101
       cases e101
       replace p101 := eq_true p101
       replace q101 := eq_true q101
       go_upto_region 6 with (fail)
       go_cut [20] (fun v20 wc => ∃ (kq : Nat) (x20_5 : Bool), v20 = .bool x20_5 ∧ Aside0 (table_ascending.j1 kq l0 x10_1 (rd l0 x10_1) l0 (l0.length : Int) x10_1 x20_5 = some r) ∧ Aside0 (kq ≤ k1) ∧ Drawn0 w wc)
       case first =>
        have H := HC6.out
        clear HC6
        by_cases c7 : (rd l0 x10_1) < 0
        ·rw [if_pos c7] at H
         have c7b0 : decide ((rd l0 x10_1) < 0) = true := decide_eq_true c7
         clear c7
         (first | rw [c7b0] | (simp only [i64_w, i32_w]; rw [c7b0]) | skip)
         have H' := Aside0.mk H
         clear H
         go_wp2
         go_meet
         case rel => exact ⟨_, (true), zT, H', ⟨by have := HK1.out; first | omega | exact Nat.le_refl _⟩, by repeat (first | exact Drawn0.refl _ | apply Drawn0.step)⟩
        ·rw [if_neg c7] at H
         have c7b0 : decide ((rd l0 x10_1) < 0) = false := decide_eq_false c7
         clear c7
         (first | rw [c7b0] | (simp only [i64_w, i32_w]; rw [c7b0]) | skip)
         have H' := Aside0.mk H
         clear H
         go_wp2
         go_meet
         case rel => exact ⟨_, (decide ((rd l0 x10_1) ≥ 24)), zT, H', ⟨by have := HK1.out; first | omega | exact Nat.le_refl _⟩, by repeat (first | exact Drawn0.refl _ | apply Drawn0.step)⟩
       case rest =>
        clear HC6
        try clear c2
        try clear c2b0
        try clear c2b1
        try clear c3
        try clear c3b0
        try clear c4
        try clear c4b0
        try clear c5
        try clear c5b0
        try clear hx101_0
        try clear p101
        try clear q101
        obtain ⟨kq, x20_5, rfl, HA, HJ5, ⟨mc5, rfl⟩⟩ := hcut
        cases kq with
        | zero => exact absurd HA.out (by simp [table_ascending.j1])
        | succ kj5 =>
         have H := HA.out
         clear HA
         simp only [table_ascending.j1] at H
         by_cases c8 : x20_5 = true
         ·subst c8
          have H1 : (some 6) = some r := by rw [if_pos rfl] at H; exact H
          clear H
          have H := H1
          clear H1
          obtain rfl := Option.some.inj H
          go_wp2
          go_ret
          exact ⟨by first | rfl | (simp; done) | (simp [*]; done), by repeat (first | exact Drawn0.refl _ | apply Drawn0.step)⟩
         ·replace c8 := Bool.eq_false_iff.mpr c8
          subst c8
          have H1 : (if x10_1 > 0 then (if 0 ≤ (wrap64 (x10_1 - 1)) then (if (wrap64 (x10_1 - 1)) < (l0.length : Int) then (if (rd l0 (wrap64 (x10_1 - 1))) ≥ (rd l0 x10_1) then (some 18) else (table_ascending.l0 kj5 l0 l0 (l0.length : Int) (wrap64 (x10_1 + 1)))) else (none)) else (none)) else (table_ascending.l0 kj5 l0 l0 (l0.length : Int) (wrap64 (x10_1 + 1)))) = some r := by rw [if_neg (show ¬ (false = true) by decide)] at H; exact H
          clear H
          have H := H1
          clear H1
          by_cases c9 : x10_1 > 0
          ·rw [if_pos c9] at H
           have c9b0 : decide (0 < x10_1) = true := decide_eq_true c9
           clear c9
           obtain ⟨ji10, hji10⟩ : ∃ j_ : Int, (wrap64 (x10_1 - 1)) = j_ := ⟨_, rfl⟩
           replace H : (if 0 ≤ (ji10) then (if (ji10) < (l0.length : Int) then (if (rd l0 (ji10)) ≥ (rd l0 x10_1) then (some 18) else (table_ascending.l0 kj5 l0 l0 (l0.length : Int) (wrap64 (x10_1 + 1)))) else (none)) else (none)) = some r := by first | (rw [hji10] at H; exact H) | (simp only [hji10] at H ⊢; exact H)
           have hji10w : (IntKind.i64.wrap (x10_1 - 1)) = ji10 := (i64_w _).trans hji10
           by_cases c11 : 0 ≤ (ji10)
           ·rw [if_pos c11] at H
            have c11b0 : decide (0 ≤ (ji10)) = true := decide_eq_true c11
            clear c11
            by_cases c12 : (ji10) < (l0.length : Int)
            ·rw [if_pos c12] at H
             have c12b0 : decide ((ji10) < (l0.length : Int)) = true := decide_eq_true c12
             clear c12
             by_cases c13 : (rd l0 (ji10)) ≥ (rd l0 x10_1)
             ·rw [if_pos c13] at H
              have c13b0 : decide ((rd l0 x10_1) ≤ (rd l0 (ji10))) = true := decide_eq_true c13
              clear c13
              obtain rfl := Option.some.inj H
              have p102 : 0 ≤ ((ji10) : Int) := of_decide_eq_true zh
              have q102 : (ji10) < (l0.length : Int) := of_decide_eq_true zh
              obtain ⟨ad102, e102, hx102_0⟩ := Kd.at_int HR0.out (ji10) p102 q102
              obtain rfl : ad101 = ad102 := (by injection e102)
              replace p102 := eq_true p102
              replace q102 := eq_true q102
              go_wp2
              go_ret
              exact ⟨by first | rfl | (simp; done) | (simp only [← hji10] <;> (first | rfl | simp)) | (simp [*]; done), by repeat (first | exact Drawn0.refl _ | apply Drawn0.step)⟩
             ·rw [if_neg c13] at H
              have c13b0 : decide ((rd l0 x10_1) ≤ (rd l0 (ji10))) = false := decide_eq_false c13
              clear c13
              have H' := Aside0.mk H
              clear H
              have p102 : 0 ≤ ((ji10) : Int) := of_decide_eq_true zh
              have q102 : (ji10) < (l0.length : Int) := of_decide_eq_true zh
              obtain ⟨ad102, e102, hx102_0⟩ := Kd.at_int HR0.out (ji10) p102 q102
              obtain rfl : ad101 = ad102 := (by injection e102)
              replace p102 := eq_true p102
              replace q102 := eq_true q102
              go_wp2
              go_roundg kj5
              case measure => have := HK1.out; have := HJ5.out; omega
              case rel => exact ⟨(wrap64 (x10_1 + 1)), zT, H', ⟨by have := HK1.out; have := HJ5.out; omega⟩, by repeat (first | exact Drawn0.refl _ | apply Drawn0.step)⟩
            ·rw [if_neg c12] at H
             exact absurd H (by simp)
           ·rw [if_neg c11] at H
            exact absurd H (by simp)
          ·rw [if_neg c9] at H
           have c9b0 : decide (0 < x10_1) = false := decide_eq_false c9
           clear c9
           have H' := Aside0.mk H
           clear H
           go_wp2
           go_roundg kj5
           case measure => have := HK1.out; have := HJ5.out; omega
           case rel => exact ⟨(wrap64 (x10_1 + 1)), zT, H', ⟨by have := HK1.out; have := HJ5.out; omega⟩, by repeat (first | exact Drawn0.refl _ | apply Drawn0.step)⟩
      ·rw [if_neg c5] at H
       exact absurd H (by simp)
     ·rw [if_neg c4] at H
      exact absurd H (by simp)
    ·rw [if_neg c3] at H
     have c3b0 : decide (x10_1 < (l0.length : Int)) = false := decide_eq_false c3
     clear c3
     obtain rfl := Option.some.inj H
     go_wp2
     go_ret
     exact ⟨by first | rfl | (simp; done) | (simp [*]; done), by repeat (first | exact Drawn0.refl _ | apply Drawn0.step)⟩
/-! ### table_Valid: function 83 -/
mutual
def table_Valid.l0 : Nat → List Int → Int → Int → List Int → List Int → Option (Int)
 | 0, _, _, _, _, _ => none
 | k + 1, x13, x14, x15, x104000, x104001 => if x15 < x14 then (if 0 ≤ x15 then (if x15 < (x13.length : Int) then (if (rd x13 x15) < 0 then (table_Valid.j1 k x15 (rd x13 x15) x13 x14 x15 true x104000 x104001) else (table_Valid.j1 k x15 (rd x13 x15) x13 x14 x15 (decide ((rd x13 x15) ≥ (shl .i64 1 (x104000.length : Int)))) x104000 x104001)) else (none)) else (none)) else (some 0)
def table_Valid.j1 : Nat → Int → Int → List Int → Int → Int → Bool → List Int → List Int → Option (Int)
 | 0, _, _, _, _, _, _, _, _ => none
 | k + 1, x4, x5, x13, x14, x15, x29, x104000, x104001 => if x29 = true then (some 6) else (if x4 > 0 then (if 0 ≤ (wrap64 (x4 - 1)) then (if (wrap64 (x4 - 1)) < (x104001.length : Int) then (if (rd x104001 (wrap64 (x4 - 1))) ≥ x5 then (some 18) else (table_Valid.l0 k x13 x14 (wrap64 (x15 + 1)) x104000 x104001)) else (none)) else (none)) else (table_Valid.l0 k x13 x14 (wrap64 (x15 + 1)) x104000 x104001))
end
def table_Valid.f (k : Nat) (l0_0 : List Int) (l0_1 : List Int) : Option (Int) := (table_ascending.f k l0_0).bind fun t104 => (if t104 = 0 then (table_Valid.l0 k l0_1 (l0_1.length : Int) 0 l0_0 l0_1) else (some t104))
theorem table_Valid.mono_l : ∀ k, (∀ y0 y1 y2 y3 y4, LeO (table_Valid.l0 k y0 y1 y2 y3 y4) (table_Valid.l0 (k + 1) y0 y1 y2 y3 y4)) ∧ (∀ y0 y1 y2 y3 y4 y5 y6 y7, LeO (table_Valid.j1 k y0 y1 y2 y3 y4 y5 y6 y7) (table_Valid.j1 (k + 1) y0 y1 y2 y3 y4 y5 y6 y7))
 | 0 => ⟨fun _ _ _ _ _ r h => by simp [table_Valid.l0] at h, fun _ _ _ _ _ _ _ _ r h => by simp [table_Valid.j1] at h⟩
 | k + 1 => by
  obtain ⟨ih0, ih1⟩ := table_Valid.mono_l k
  refine ⟨?_, ?_⟩
  ·intro y0 y1 y2 y3 y4
   unfold table_Valid.l0
   repeat' first
   | (with_reducible exact ih0 _ _ _ _ _)
   | (with_reducible exact ih1 _ _ _ _ _ _ _ _)
   | (with_reducible exact table_ascending.mono _ _)
   | (with_reducible exact LeO.refl _)
   | (with_reducible exact LeO.none _)
   | (with_reducible refine LeO.ite ?_ ?_)
   | (with_reducible refine LeO.bind ?_ (fun _ => ?_))
   | exact ih0 _ _ _ _ _
   | exact ih1 _ _ _ _ _ _ _ _
   | exact table_ascending.mono _ _
   | exact LeO.none _
   | refine LeO.ite ?_ ?_
   | refine LeO.bind ?_ (fun _ => ?_)
  ·intro y0 y1 y2 y3 y4 y5 y6 y7
   unfold table_Valid.j1
   repeat' first
   | (with_reducible exact ih0 _ _ _ _ _)
   | (with_reducible exact ih1 _ _ _ _ _ _ _ _)
   | (with_reducible exact table_ascending.mono _ _)
   | (with_reducible exact LeO.refl _)
   | (with_reducible exact LeO.none _)
   | (with_reducible refine LeO.ite ?_ ?_)
   | (with_reducible refine LeO.bind ?_ (fun _ => ?_))
   | exact ih0 _ _ _ _ _
   | exact ih1 _ _ _ _ _ _ _ _
   | exact table_ascending.mono _ _
   | exact LeO.none _
   | refine LeO.ite ?_ ?_
   | refine LeO.bind ?_ (fun _ => ?_)
theorem table_Valid.mono : ∀ a0 a1 k, LeO (table_Valid.f k a0 a1) (table_Valid.f (k + 1) a0 a1) := by
 intro a0 a1 k
 obtain ⟨ih0, ih1⟩ := table_Valid.mono_l k
 unfold table_Valid.f
 repeat' first
   | (with_reducible exact ih0 _ _ _ _ _)
   | (with_reducible exact ih1 _ _ _ _ _ _ _ _)
   | (with_reducible exact table_ascending.mono _ _)
   | (with_reducible exact LeO.refl _)
   | (with_reducible exact LeO.none _)
   | (with_reducible refine LeO.ite ?_ ?_)
   | (with_reducible refine LeO.bind ?_ (fun _ => ?_))
   | exact ih0 _ _ _ _ _
   | exact ih1 _ _ _ _ _ _ _ _
   | exact table_ascending.mono _ _
   | exact LeO.none _
   | refine LeO.ite ?_ ?_
   | refine LeO.bind ?_ (fun _ => ?_)
set_option maxHeartbeats 8000000 in
set_option maxRecDepth 100000 in
theorem table_Valid.calls (k : Nat) (A0_0 : Option Addr) (c0_0 : Nat) (l0_0 : List Int) (A0_1 : Option Addr) (c0_1 : Nat) (l0_1 : List Int) (r : Int) (w : World) (hr0_0 : Kd.C (Kd.int .i64) w A0_0 l0_0.length l0_0) (hc0_0 : l0_0.length ≤ c0_0) (hr0_1 : Kd.C (Kd.int .i64) w A0_1 l0_1.length l0_1) (hc0_1 : l0_1.length ≤ c0_1) (h : table_Valid.f k l0_0 l0_1 = some r) :
  Calls Try.prog 83 #[.agg #[.slice A0_0 l0_0.length c0_0, .slice A0_1 l0_1.length c0_1]] w fun e w' => e = .returned (.int .i64 r) ∧ Below w.heap.size w w' := by
 have hu61 := Try.underlying61
 have hu42 := Try.underlying42
 have hu3 := Try.underlying3
 have HR0_0 := Aside0.mk hr0_0
 have HC0_0 := Aside0.mk hc0_0
 clear hr0_0 hc0_0
 have HR0_1 := Aside0.mk hr0_1
 have HC0_1 := Aside0.mk hc0_1
 clear hr0_1 hc0_1
 have HB := Aside0.mk (Below.refl w.heap.size w)
 have H : ((table_ascending.f k l0_0).bind fun t104 => (if t104 = 0 then (table_Valid.l0 k l0_1 (l0_1.length : Int) 0 l0_0 l0_1) else (some t104))) = some r := h
 clear h
 replace H := Option.bind_eq_some_iff.mp H
 obtain ⟨t104, A20, H⟩ := H
 replace H : (if t104 = 0 then (table_Valid.l0 k l0_1 (l0_1.length : Int) 0 l0_0 l0_1) else (some t104)) = some r := H
 have A2 := Aside0.mk A20
 clear A20
 have HC3 := Aside0.mk H
 clear H
 go_enter Try.func83, Try.ntmps83
 go_upto_if 10 with (first | ((with_reducible refine gate_dst (N := 1) rfl ?_); (try (refine gate_guard (by rfl) ?_; dsimp only)); refine box_event ?hg (N := 1) ?hd (cs := #[.slice A0_0 l0_0.length c0_0, .slice A0_1 l0_1.length c0_1]) (t := 61) ?hr ?_; (case hd => rfl); (case hg => rfl); (case hr => first | (go_simp; done) | (go_simp; rfl)); intro gb103 hg w4 hbox hb; have n0_ := Aside0.mk (below_step zB hb); have n1_ := Aside0.mk (hbox); have n2_ := Aside0.mk ((by rw [hg]; exact (below_size zB) : w.heap.size ≤ gb103)); have n3_ := Aside0.mk ((by rw [hg]; exact (below_size zB) : w.heap.size ≤ gb103)); clear HB; have HB := n0_; have BK103 := n1_; have GW103 := n2_; have GE103 := n3_; clear n0_ n1_ n2_ n3_; clear hb hbox hg; have hcz5_0 : w4.cell? ⟨gb103, 0, none⟩ = some (.slice A0_0 l0_0.length c0_0) := (blk_cell BK103.out 0).trans rfl; have hcz5_1 : w4.cell? ⟨gb103, 1, none⟩ = some (.slice A0_1 l0_1.length c0_1) := (blk_cell BK103.out 1).trans rfl; have hfz5_0 := blk_frozen BK103.out 0; have hfz5_1 := blk_frozen BK103.out 1) | ((with_reducible refine gate_callee (f := 121) rfl ?_); refine goesL_ (some 8) rfl rfl Try.func121 zK rfl #[.slice A0_0 l0_0.length c0_0] rfl zM ?_; (with_reducible refine (table_ascending.calls k _ _ l0_0 t104 _ ?side1 ?side2 A2.out).mono ?_); (case side1 => repeat (first | exact (Kd.C_below HR0_0.out HB.out) | (with_reducible refine Kd.C_alloc ?_ _) | (with_reducible refine Kd.C_drewN ?_ _) | (with_reducible refine Kd.C_drew ?_))); (case side2 => exact HC0_0.out); rintro e w' ⟨rfl, ⟨nd, rfl⟩⟩; refine ⟨_, rfl, ?_⟩))
 (try simp only [Act.put, List.setIfInBounds_toArray, List.set_cons_zero, List.set_cons_succ])
 have H := HC3.out
 clear HC3
 by_cases c6 : t104 = 0
 ·rw [if_pos c6] at H
  have c6b0 : (t104 == 0) = true := beq_iff_eq.mpr c6
  have c6b1 : (t104 != 0) = false := bne_eq_false_iff_eq.mpr c6
  clear c6
  (first | rw [c6b0] | (simp only [i64_w, i32_w]; rw [c6b0]) | skip)
  (try rw [c6b1])
  have H' := Aside0.mk H
  clear H
  have hcz7_0 : w4.cell? ⟨gb103, 0, none⟩ = some (.slice A0_0 l0_0.length c0_0) := (blk_cell BK103.out 0).trans rfl
  have hcz7_1 : w4.cell? ⟨gb103, 1, none⟩ = some (.slice A0_1 l0_1.length c0_1) := (blk_cell BK103.out 1).trans rfl
  have hfz7_0 := blk_frozen BK103.out 0
  have hfz7_1 := blk_frozen BK103.out 1
  go_wp2
  go_loopg [15] k (fun kq v15 w' => ∃ (x15_1 : Int), v15 = .int .i64 x15_1 ∧ Aside0 (table_Valid.l0 kq l0_1 (l0_1.length : Int) x15_1 l0_0 l0_1 = some r) ∧ Aside0 (kq ≤ k) ∧ Aside0 (w'.heap[gb103]? = some (.cells #[(.slice A0_0 l0_0.length c0_0), (.slice A0_1 l0_1.length c0_1)] 61 (0, 0))) ∧ Aside0 (Below w.heap.size w w'))
  case atStart => exact ⟨(0), zT, H', ⟨Nat.le_refl _⟩, ⟨by (with_reducible repeat (first | refine blk_drewN ?_ _ | refine blk_drew ?_ | refine blk_alloc ?_ _)); exact BK103.out⟩, ⟨by repeat (first | (with_reducible first | exact HB.out | apply below_alloc | apply pw_below_drewN | apply below_drew1 | refine below_set ?_ GE103.out) | exact HB.out)⟩⟩
  case round =>
   clear H'
   try clear c6
   try clear c6b0
   try clear c6b1
   try clear hcz5_0
   try clear hcz5_1
   try clear hcz7_0
   try clear hcz7_1
   try clear hfz5_0
   try clear hfz5_1
   try clear hfz7_0
   try clear hfz7_1
   obtain ⟨x15_1, rfl, HA, HK1, BK103, HB⟩ := hrel
   cases gk with
   | zero => exact absurd HA.out (by simp [table_Valid.l0])
   | succ k1 =>
    have H := HA.out
    clear HA
    simp only [table_Valid.l0] at H
    by_cases c8 : x15_1 < (l0_1.length : Int)
    ·rw [if_pos c8] at H
     have c8b0 : decide (x15_1 < (l0_1.length : Int)) = true := decide_eq_true c8
     clear c8
     by_cases c9 : 0 ≤ x15_1
     ·rw [if_pos c9] at H
      have c9b0 : decide (0 ≤ x15_1) = true := decide_eq_true c9
      clear c9
      by_cases c10 : x15_1 < (l0_1.length : Int)
      ·rw [if_pos c10] at H
       have c10b0 : decide (x15_1 < (l0_1.length : Int)) = true := decide_eq_true c10
       clear c10
       have HC11 := Aside0.mk H
       clear H
       have p105 : 0 ≤ (x15_1 : Int) := of_decide_eq_true zh
       have q105 : x15_1 < (l0_1.length : Int) := of_decide_eq_true zh
       obtain ⟨ad105, e105, hx105_0⟩ := Kd.at_int HR0_1.out x15_1 p105 q105
       cases e105
       replace hx105_0 := (HB.out.cell (World.block_lt_of_cell? w _ hx105_0)).trans hx105_0
       replace p105 := eq_true p105
       replace q105 := eq_true q105
       go_upto_region 7 with (fail)
       go_cut [29] (fun v29 wc => ∃ (kq : Nat) (x29_10 : Bool), v29 = .bool x29_10 ∧ Aside0 (table_Valid.j1 kq x15_1 (rd l0_1 x15_1) l0_1 (l0_1.length : Int) x15_1 x29_10 l0_0 l0_1 = some r) ∧ Aside0 (kq ≤ k1) ∧ Aside0 (wc.heap[gb103]? = some (.cells #[(.slice A0_0 l0_0.length c0_0), (.slice (some ad105) l0_1.length c0_1)] 61 (0, 0))) ∧ Aside0 (Below w.heap.size w wc))
       case first =>
        have H := HC11.out
        clear HC11
        by_cases c12 : (rd l0_1 x15_1) < 0
        ·rw [if_pos c12] at H
         have c12b0 : decide ((rd l0_1 x15_1) < 0) = true := decide_eq_true c12
         clear c12
         (first | rw [c12b0] | (simp only [i64_w, i32_w]; rw [c12b0]) | skip)
         have H' := Aside0.mk H
         clear H
         go_wp2
         go_meet
         case rel => exact ⟨_, (true), zT, H', ⟨by have := HK1.out; first | omega | exact Nat.le_refl _⟩, ⟨by (with_reducible repeat (first | refine blk_drewN ?_ _ | refine blk_drew ?_ | refine blk_alloc ?_ _)); exact BK103.out⟩, ⟨by repeat (first | (with_reducible first | exact HB.out | apply below_alloc | apply pw_below_drewN | apply below_drew1 | refine below_set ?_ GE103.out) | exact HB.out)⟩⟩
        ·rw [if_neg c12] at H
         have c12b0 : decide ((rd l0_1 x15_1) < 0) = false := decide_eq_false c12
         clear c12
         (first | rw [c12b0] | (simp only [i64_w, i32_w]; rw [c12b0]) | skip)
         obtain ⟨ji13, hji13⟩ : ∃ j_ : Int, (shl .i64 1 (l0_0.length : Int)) = j_ := ⟨_, rfl⟩
         replace H : (table_Valid.j1 k1 x15_1 (rd l0_1 x15_1) l0_1 (l0_1.length : Int) x15_1 (decide ((rd l0_1 x15_1) ≥ (ji13))) l0_0 l0_1) = some r := by first | (rw [hji13] at H; exact H) | (simp only [hji13] at H ⊢; exact H)
         have hji13_ : (IntKind.i64.wrap (1 * 2 ^ min (l0_0.length : Int).toNat 64)) = ji13 := hji13
         have hji13z : (l0_0.length : Int) ≤ 64 → (IntKind.i64.wrap (1 * 2 ^ (l0_0.length : Int).toNat)) = ji13 := shl_small hji13
         have hji13p : (IntKind.i64.wrap (1 * 2 ^ min l0_0.length 64)) = ji13 := hji13_
         have hji13q : (l0_0.length : Int) ≤ 64 → (IntKind.i64.wrap (1 * 2 ^ l0_0.length)) = ji13 := hji13z
         have hji13r : (IntKind.i64.wrap (2 ^ min l0_0.length 64)) = ji13 := by have h_ := hji13p; rw [Int.one_mul] at h_; exact h_
         have hji13s : (l0_0.length : Int) ≤ 64 → (IntKind.i64.wrap (2 ^ l0_0.length)) = ji13 := fun hle_ => by have h_ := hji13q hle_; rw [Int.one_mul] at h_; exact h_
         have hji13u : (IntKind.i64.wrap (2 ^ min (l0_0.length : Int).toNat 64)) = ji13 := by have h_ := hji13_; rw [Int.one_mul] at h_; exact h_
         have hji13v : (l0_0.length : Int) ≤ 64 → (IntKind.i64.wrap (2 ^ (l0_0.length : Int).toNat)) = ji13 := fun hle_ => by have h_ := hji13z hle_; rw [Int.one_mul] at h_; exact h_
         have hji13y : (wrap64 (1 * 2 ^ min (l0_0.length : Int).toNat 64)) = ji13 := (i64_w _).symm.trans hji13_
         have hji13x : (l0_0.length : Int) ≤ 64 → (wrap64 (1 * 2 ^ (l0_0.length : Int).toNat)) = ji13 := fun h_ => (i64_w _).symm.trans (hji13z h_)
         have H' := Aside0.mk H
         clear H
         have hcz14_0 : wr.cell? ⟨gb103, 0, none⟩ = some (.slice A0_0 l0_0.length c0_0) := (blk_cell BK103.out 0).trans rfl
         have hcz14_1 : wr.cell? ⟨gb103, 1, none⟩ = some (.slice (some ad105) l0_1.length c0_1) := (blk_cell BK103.out 1).trans rfl
         have hfz14_0 := blk_frozen BK103.out 0
         have hfz14_1 := blk_frozen BK103.out 1
         go_wp2
         go_meet
         case rel => exact ⟨_, (decide ((rd l0_1 x15_1) ≥ (ji13))), (by first | rfl | (simp; done) | (simp only [← hji13] <;> (first | rfl | simp)) | (simp [*]; done)), H', ⟨by have := HK1.out; first | omega | exact Nat.le_refl _⟩, ⟨by (with_reducible repeat (first | refine blk_drewN ?_ _ | refine blk_drew ?_ | refine blk_alloc ?_ _)); exact BK103.out⟩, ⟨by repeat (first | (with_reducible first | exact HB.out | apply below_alloc | apply pw_below_drewN | apply below_drew1 | refine below_set ?_ GE103.out) | exact HB.out)⟩⟩
       case rest =>
        clear HC11
        try clear c6
        try clear c6b0
        try clear c6b1
        try clear c8
        try clear c8b0
        try clear c9
        try clear c9b0
        try clear c10
        try clear c10b0
        try clear hcz5_0
        try clear hcz5_1
        try clear hcz7_0
        try clear hcz7_1
        try clear hfz5_0
        try clear hfz5_1
        try clear hfz7_0
        try clear hfz7_1
        try clear hx105_0
        try clear p105
        try clear q105
        obtain ⟨kq, x29_10, rfl, HA, HJ10, BK103, HB⟩ := hcut
        cases kq with
        | zero => exact absurd HA.out (by simp [table_Valid.j1])
        | succ kj10 =>
         have H := HA.out
         clear HA
         simp only [table_Valid.j1] at H
         by_cases c15 : x29_10 = true
         ·subst c15
          have H1 : (some 6) = some r := by rw [if_pos rfl] at H; exact H
          clear H
          have H := H1
          clear H1
          obtain rfl := Option.some.inj H
          go_wp2
          go_ret
          exact ⟨by first | rfl | (simp [errW_none, errW_some] <;> rfl) | (simp [*, errW_none, errW_some] <;> rfl), by repeat (first | (with_reducible first | exact HB.out | apply below_alloc | apply pw_below_drewN | apply below_drew1 | refine below_set ?_ GE103.out) | exact HB.out)⟩
         ·replace c15 := Bool.eq_false_iff.mpr c15
          subst c15
          have H1 : (if x15_1 > 0 then (if 0 ≤ (wrap64 (x15_1 - 1)) then (if (wrap64 (x15_1 - 1)) < (l0_1.length : Int) then (if (rd l0_1 (wrap64 (x15_1 - 1))) ≥ (rd l0_1 x15_1) then (some 18) else (table_Valid.l0 kj10 l0_1 (l0_1.length : Int) (wrap64 (x15_1 + 1)) l0_0 l0_1)) else (none)) else (none)) else (table_Valid.l0 kj10 l0_1 (l0_1.length : Int) (wrap64 (x15_1 + 1)) l0_0 l0_1)) = some r := by rw [if_neg (show ¬ (false = true) by decide)] at H; exact H
          clear H
          have H := H1
          clear H1
          by_cases c16 : x15_1 > 0
          ·rw [if_pos c16] at H
           have c16b0 : decide (0 < x15_1) = true := decide_eq_true c16
           clear c16
           obtain ⟨ji17, hji17⟩ : ∃ j_ : Int, (wrap64 (x15_1 - 1)) = j_ := ⟨_, rfl⟩
           replace H : (if 0 ≤ (ji17) then (if (ji17) < (l0_1.length : Int) then (if (rd l0_1 (ji17)) ≥ (rd l0_1 x15_1) then (some 18) else (table_Valid.l0 kj10 l0_1 (l0_1.length : Int) (wrap64 (x15_1 + 1)) l0_0 l0_1)) else (none)) else (none)) = some r := by first | (rw [hji17] at H; exact H) | (simp only [hji17] at H ⊢; exact H)
           have hji17w : (IntKind.i64.wrap (x15_1 - 1)) = ji17 := (i64_w _).trans hji17
           by_cases c18 : 0 ≤ (ji17)
           ·rw [if_pos c18] at H
            have c18b0 : decide (0 ≤ (ji17)) = true := decide_eq_true c18
            clear c18
            by_cases c19 : (ji17) < (l0_1.length : Int)
            ·rw [if_pos c19] at H
             have c19b0 : decide ((ji17) < (l0_1.length : Int)) = true := decide_eq_true c19
             clear c19
             by_cases c20 : (rd l0_1 (ji17)) ≥ (rd l0_1 x15_1)
             ·rw [if_pos c20] at H
              have c20b0 : decide ((rd l0_1 x15_1) ≤ (rd l0_1 (ji17))) = true := decide_eq_true c20
              clear c20
              obtain rfl := Option.some.inj H
              have hcz21_0 : wc.cell? ⟨gb103, 0, none⟩ = some (.slice A0_0 l0_0.length c0_0) := (blk_cell BK103.out 0).trans rfl
              have hcz21_1 : wc.cell? ⟨gb103, 1, none⟩ = some (.slice (some ad105) l0_1.length c0_1) := (blk_cell BK103.out 1).trans rfl
              have hfz21_0 := blk_frozen BK103.out 0
              have hfz21_1 := blk_frozen BK103.out 1
              have p106 : 0 ≤ ((ji17) : Int) := of_decide_eq_true zh
              have q106 : (ji17) < (l0_1.length : Int) := of_decide_eq_true zh
              obtain ⟨ad106, e106, hx106_0⟩ := Kd.at_int HR0_1.out (ji17) p106 q106
              obtain rfl : ad105 = ad106 := (by injection e106)
              replace hx106_0 := (HB.out.cell (World.block_lt_of_cell? w _ hx106_0)).trans hx106_0
              replace p106 := eq_true p106
              replace q106 := eq_true q106
              go_wp2
              go_ret
              exact ⟨by first | rfl | (simp [errW_none, errW_some] <;> rfl) | (simp only [← hji17]; first | rfl | (simp [errW_none, errW_some] <;> rfl)) | (simp [*, errW_none, errW_some] <;> rfl), by repeat (first | (with_reducible first | exact HB.out | apply below_alloc | apply pw_below_drewN | apply below_drew1 | refine below_set ?_ GE103.out) | exact HB.out)⟩
             ·rw [if_neg c20] at H
              have c20b0 : decide ((rd l0_1 x15_1) ≤ (rd l0_1 (ji17))) = false := decide_eq_false c20
              clear c20
              have H' := Aside0.mk H
              clear H
              have hcz22_0 : wc.cell? ⟨gb103, 0, none⟩ = some (.slice A0_0 l0_0.length c0_0) := (blk_cell BK103.out 0).trans rfl
              have hcz22_1 : wc.cell? ⟨gb103, 1, none⟩ = some (.slice (some ad105) l0_1.length c0_1) := (blk_cell BK103.out 1).trans rfl
              have hfz22_0 := blk_frozen BK103.out 0
              have hfz22_1 := blk_frozen BK103.out 1
              have p106 : 0 ≤ ((ji17) : Int) := of_decide_eq_true zh
              have q106 : (ji17) < (l0_1.length : Int) := of_decide_eq_true zh
              obtain ⟨ad106, e106, hx106_0⟩ := Kd.at_int HR0_1.out (ji17) p106 q106
              obtain rfl : ad105 = ad106 := (by injection e106)
              replace hx106_0 := (HB.out.cell (World.block_lt_of_cell? w _ hx106_0)).trans hx106_0
              replace p106 := eq_true p106
              replace q106 := eq_true q106
              go_wp2
              go_roundg kj10
              case measure => have := HK1.out; have := HJ10.out; omega
              case rel => exact ⟨(wrap64 (x15_1 + 1)), zT, H', ⟨by have := HK1.out; have := HJ10.out; omega⟩, ⟨by (with_reducible repeat (first | refine blk_drewN ?_ _ | refine blk_drew ?_ | refine blk_alloc ?_ _)); exact BK103.out⟩, ⟨by repeat (first | (with_reducible first | exact HB.out | apply below_alloc | apply pw_below_drewN | apply below_drew1 | refine below_set ?_ GE103.out) | exact HB.out)⟩⟩
            ·rw [if_neg c19] at H
             exact absurd H (by simp)
           ·rw [if_neg c18] at H
            exact absurd H (by simp)
          ·rw [if_neg c16] at H
           have c16b0 : decide (0 < x15_1) = false := decide_eq_false c16
           clear c16
           have H' := Aside0.mk H
           clear H
           go_wp2
           go_roundg kj10
           case measure => have := HK1.out; have := HJ10.out; omega
           case rel => exact ⟨(wrap64 (x15_1 + 1)), zT, H', ⟨by have := HK1.out; have := HJ10.out; omega⟩, ⟨by (with_reducible repeat (first | refine blk_drewN ?_ _ | refine blk_drew ?_ | refine blk_alloc ?_ _)); exact BK103.out⟩, ⟨by repeat (first | (with_reducible first | exact HB.out | apply below_alloc | apply pw_below_drewN | apply below_drew1 | refine below_set ?_ GE103.out) | exact HB.out)⟩⟩
      ·rw [if_neg c10] at H
       exact absurd H (by simp)
     ·rw [if_neg c9] at H
      exact absurd H (by simp)
    ·rw [if_neg c8] at H
     have c8b0 : decide (x15_1 < (l0_1.length : Int)) = false := decide_eq_false c8
     clear c8
     obtain rfl := Option.some.inj H
     go_wp2
     go_ret
     exact ⟨by first | rfl | (simp [errW_none, errW_some] <;> rfl) | (simp [*, errW_none, errW_some] <;> rfl), by repeat (first | (with_reducible first | exact HB.out | apply below_alloc | apply pw_below_drewN | apply below_drew1 | refine below_set ?_ GE103.out) | exact HB.out)⟩
 ·rw [if_neg c6] at H
  have c6b0 : (t104 == 0) = false := beq_eq_false_iff_ne.mpr c6
  have c6b1 : (t104 != 0) = true := bne_iff_ne.mpr c6
  (first | rw [c6b0] | (simp only [i64_w, i32_w]; rw [c6b0]) | skip)
  (try rw [c6b1])
  obtain rfl := Option.some.inj H
  go_wp2
  go_ret
  exact ⟨by first | rfl | (simp [errW_none, errW_some] <;> rfl) | (simp [*, errW_none, errW_some] <;> rfl), by repeat (first | (with_reducible first | exact HB.out | apply below_alloc | apply pw_below_drewN | apply below_drew1 | refine below_set ?_ GE103.out) | exact HB.out)⟩
/-! ### solve_valid: function 46 -/
def solve_valid.l0 : Nat → List (S61) → Int → Int → Option (Int)
 | 0, _, _, _ => none
 | k + 1, x9, x10, x11 => if x11 < x10 then (if 0 ≤ x11 then (if x11 < (x9.length : Int) then ((table_Valid.f k ((rd_T61 x9 x11).f0) ((rd_T61 x9 x11).f1)).bind fun t109 => (if t109 = 0 then (solve_valid.l0 k x9 x10 (wrap64 (x11 + 1))) else (some t109))) else (none)) else (none)) else (some 0)
def solve_valid.f (k : Nat) (l0 : List (S61)) : Option (Int) := if (l0.length : Int) > 16 then (some 3) else (solve_valid.l0 k l0 (l0.length : Int) 0)
theorem solve_valid.mono_l : ∀ k, (∀ y0 y1 y2, LeO (solve_valid.l0 k y0 y1 y2) (solve_valid.l0 (k + 1) y0 y1 y2))
 | 0 => fun _ _ _ r h => by simp [solve_valid.l0] at h
 | k + 1 => by
  have ih0 := solve_valid.mono_l k
  ·intro y0 y1 y2
   unfold solve_valid.l0
   repeat' first
   | (with_reducible exact ih0 _ _ _)
   | (with_reducible exact table_Valid.mono _ _ _)
   | (with_reducible exact LeO.refl _)
   | (with_reducible exact LeO.none _)
   | (with_reducible refine LeO.ite ?_ ?_)
   | (with_reducible refine LeO.bind ?_ (fun _ => ?_))
   | exact ih0 _ _ _
   | exact table_Valid.mono _ _ _
   | exact LeO.none _
   | refine LeO.ite ?_ ?_
   | refine LeO.bind ?_ (fun _ => ?_)
theorem solve_valid.mono : ∀ a0 k, LeO (solve_valid.f k a0) (solve_valid.f (k + 1) a0) := by
 intro a0 k
 have ih0 := solve_valid.mono_l k
 unfold solve_valid.f
 repeat' first
   | (with_reducible exact ih0 _ _ _)
   | (with_reducible exact table_Valid.mono _ _ _)
   | (with_reducible exact LeO.refl _)
   | (with_reducible exact LeO.none _)
   | (with_reducible refine LeO.ite ?_ ?_)
   | (with_reducible refine LeO.bind ?_ (fun _ => ?_))
   | exact ih0 _ _ _
   | exact table_Valid.mono _ _ _
   | exact LeO.none _
   | refine LeO.ite ?_ ?_
   | refine LeO.bind ?_ (fun _ => ?_)
set_option maxHeartbeats 8000000 in
set_option maxRecDepth 100000 in
theorem solve_valid.calls (k : Nat) (A0 : Option Addr) (c0 : Nat) (l0 : List (S61)) (r : Int) (w : World) (hr0 : Kd.C k61 w A0 l0.length l0) (hc0 : l0.length ≤ c0) (h : solve_valid.f k l0 = some r) :
  Calls Try.prog 46 #[.slice A0 l0.length c0] w fun e w' => e = .returned (.int .i64 r) ∧ Below w.heap.size w w' := by
 have hu61 := Try.underlying61
 have HR0 := Aside0.mk hr0
 have HC0 := Aside0.mk hc0
 clear hr0 hc0
 have HB := Aside0.mk (Below.refl w.heap.size w)
 have H : (if (l0.length : Int) > 16 then (some 3) else (solve_valid.l0 k l0 (l0.length : Int) 0)) = some r := h
 clear h
 by_cases c2 : (l0.length : Int) > 16
 ·rw [if_pos c2] at H
  have c2b0 : decide (16 < (l0.length : Int)) = true := decide_eq_true c2
  have c2b1 : decide (16 < l0.length) = true := decide_eq_true (by omega)
  clear c2
  obtain rfl := Option.some.inj H
  go_enter Try.func46, Try.ntmps46
  go_wp2
  go_ret
  exact ⟨by first | rfl | (simp [errW_none, errW_some] <;> rfl) | (simp [*, errW_none, errW_some] <;> rfl), by repeat (first | (with_reducible first | exact HB.out | apply below_alloc | apply pw_below_drewN | apply below_drew1) | exact HB.out)⟩
 ·rw [if_neg c2] at H
  have c2b0 : decide (16 < (l0.length : Int)) = false := decide_eq_false c2
  have c2b1 : decide (16 < l0.length) = false := decide_eq_false (by omega)
  clear c2
  have H' := Aside0.mk H
  clear H
  go_enter Try.func46, Try.ntmps46
  go_wp2
  go_loopg [11] k (fun kq v11 w' => ∃ (x11_1 : Int), v11 = .int .i64 x11_1 ∧ Aside0 (solve_valid.l0 kq l0 (l0.length : Int) x11_1 = some r) ∧ Aside0 (kq ≤ k) ∧ Aside0 (Below w.heap.size w w'))
  case atStart => exact ⟨(0), zT, H', ⟨Nat.le_refl _⟩, ⟨by repeat (first | (with_reducible first | exact HB.out | apply below_alloc | apply pw_below_drewN | apply below_drew1) | exact HB.out)⟩⟩
  case round =>
   clear H'
   try clear c2
   try clear c2b0
   try clear c2b1
   obtain ⟨x11_1, rfl, HA, HK1, HB⟩ := hrel
   cases gk with
   | zero => exact absurd HA.out (by simp [solve_valid.l0])
   | succ k1 =>
    have H := HA.out
    clear HA
    simp only [solve_valid.l0] at H
    by_cases c3 : x11_1 < (l0.length : Int)
    ·rw [if_pos c3] at H
     have c3b0 : decide (x11_1 < (l0.length : Int)) = true := decide_eq_true c3
     clear c3
     by_cases c4 : 0 ≤ x11_1
     ·rw [if_pos c4] at H
      have c4b0 : decide (0 ≤ x11_1) = true := decide_eq_true c4
      clear c4
      by_cases c5 : x11_1 < (l0.length : Int)
      ·rw [if_pos c5] at H
       have c5b0 : decide (x11_1 < (l0.length : Int)) = true := decide_eq_true c5
       clear c5
       replace H := Option.bind_eq_some_iff.mp H
       obtain ⟨t109, A60, H⟩ := H
       replace H : (if t109 = 0 then (solve_valid.l0 k1 l0 (l0.length : Int) (wrap64 (x11_1 + 1))) else (some t109)) = some r := H
       have A6 := Aside0.mk A60
       clear A60
       have HC7 := Aside0.mk H
       clear H
       have p107 : 0 ≤ (x11_1 : Int) := of_decide_eq_true zh
       have q107 : x11_1 < (l0.length : Int) := of_decide_eq_true zh
       obtain ⟨ad107, A107_0, c107_0, A107_1, c107_1, e107, hx107_0, hx107_1, hl107_0, hi107_0, hl107_1, hi107_1⟩ := at_T61 HR0.out x11_1 p107 q107
       cases e107
       replace hx107_0 := (HB.out.cell (World.block_lt_of_cell? w _ hx107_0)).trans hx107_0
       replace hx107_1 := (HB.out.cell (World.block_lt_of_cell? w _ hx107_1)).trans hx107_1
       have HR107_0 := Aside0.mk hi107_0
       have HC107_0 := Aside0.mk hl107_0
       clear hi107_0 hl107_0
       have HR107_1 := Aside0.mk hi107_1
       have HC107_1 := Aside0.mk hl107_1
       clear hi107_1 hl107_1
       replace p107 := eq_true p107
       replace q107 := eq_true q107
       go_upto_if 18 with (first | ((with_reducible refine gate_dst (N := 4) rfl ?_); refine box_event ?hg (N := 4) ?hd (cs := #[.slice none 0 0, .slice none 0 0]) (t := 61) ?hr ?_; (case hd => rfl); (case hg => rfl); (case hr => first | (go_simp; done) | (go_simp; rfl)); intro gb108 hg w8 hbox hb; have n0_ := Aside0.mk (below_step zB hb); have n1_ := Aside0.mk (hbox); have n2_ := Aside0.mk ((by rw [hg]; exact (below_size zB) : w.heap.size ≤ gb108)); have n3_ := Aside0.mk ((by rw [hg]; exact (below_size zB) : w.heap.size ≤ gb108)); clear HB; have HB := n0_; have BK108 := n1_; have GW108 := n2_; have GE108 := n3_; clear n0_ n1_ n2_ n3_; clear hb hbox hg; have hcz9_0 : w8.cell? ⟨gb108, 0, none⟩ = some (.slice none 0 0) := (blk_cell BK108.out 0).trans rfl; have hcz9_1 : w8.cell? ⟨gb108, 1, none⟩ = some (.slice none 0 0) := (blk_cell BK108.out 1).trans rfl; have hfz9_0 := blk_frozen BK108.out 0; have hfz9_1 := blk_frozen BK108.out 1) | ((with_reducible refine gate_callee (f := 83) rfl ?_); refine goesL_ (some 16) rfl rfl Try.func83 zK rfl #[.agg #[.slice A107_0 ((rd_T61 l0 x11_1).f0).length c107_0, .slice A107_1 ((rd_T61 l0 x11_1).f1).length c107_1]] rfl zM ?_; (with_reducible refine (table_Valid.calls k1 _ _ ((rd_T61 l0 x11_1).f0) _ _ ((rd_T61 l0 x11_1).f1) t109 _ ?side1 ?side2 ?side3 ?side4 A6.out).mono ?_); (case side1 => exact Kd.C_below HR107_0.out zB); (case side2 => exact HC107_0.out); (case side3 => exact Kd.C_below HR107_1.out zB); (case side4 => exact HC107_1.out); rintro e w10 ⟨rfl, hb⟩; refine ⟨_, rfl, ?_⟩; have n0_ := Aside0.mk (blk_below (g := gb108) (o := .cells #[.slice A107_0 ((rd_T61 l0 x11_1).f0).length c107_0, .slice A107_1 ((rd_T61 l0 x11_1).f1).length c107_1] 61 (0, 0)) (by (with_reducible repeat (first | refine blk_drewN ?_ _ | refine blk_drew ?_ | refine blk_alloc ?_ _)); refine blk_put (cs := #[.slice A107_0 ((rd_T61 l0 x11_1).f0).length c107_0, .slice none 0 0]) ?_ 1 _ rfl; (with_reducible repeat (first | refine blk_drewN ?_ _ | refine blk_drew ?_ | refine blk_alloc ?_ _)); refine blk_put (cs := #[.slice none 0 0, .slice none 0 0]) ?_ 0 _ rfl; (with_reducible repeat (first | refine blk_drewN ?_ _ | refine blk_drew ?_ | refine blk_alloc ?_ _)); exact BK108.out) hb); have n1_ := Aside0.mk (below_step zB hb); clear BK108; clear HB; have BK108 := n0_; have HB := n1_; clear n0_ n1_; (try clear hb); (try clear hb2); (try clear hk); (try clear hi)))
       (try simp only [Act.put, List.setIfInBounds_toArray, List.set_cons_zero, List.set_cons_succ])
       have H := HC7.out
       clear HC7
       by_cases c11 : t109 = 0
       ·rw [if_pos c11] at H
        have c11b0 : (t109 == 0) = true := beq_iff_eq.mpr c11
        have c11b1 : (t109 != 0) = false := bne_eq_false_iff_eq.mpr c11
        clear c11
        (first | rw [c11b0] | (simp only [i64_w, i32_w]; rw [c11b0]) | skip)
        (try rw [c11b1])
        have H' := Aside0.mk H
        clear H
        go_wp2
        go_roundg k1
        case measure => have := HK1.out; omega
        case rel => exact ⟨(wrap64 (x11_1 + 1)), zT, H', ⟨by have := HK1.out; omega⟩, ⟨by repeat (first | (with_reducible first | exact HB.out | apply below_alloc | apply pw_below_drewN | apply below_drew1 | refine below_set ?_ GE108.out) | exact HB.out)⟩⟩
       ·rw [if_neg c11] at H
        have c11b0 : (t109 == 0) = false := beq_eq_false_iff_ne.mpr c11
        have c11b1 : (t109 != 0) = true := bne_iff_ne.mpr c11
        (first | rw [c11b0] | (simp only [i64_w, i32_w]; rw [c11b0]) | skip)
        (try rw [c11b1])
        obtain rfl := Option.some.inj H
        go_wp2
        go_ret
        exact ⟨by first | rfl | (simp [errW_none, errW_some] <;> rfl) | (simp [*, errW_none, errW_some] <;> rfl), by repeat (first | (with_reducible first | exact HB.out | apply below_alloc | apply pw_below_drewN | apply below_drew1 | refine below_set ?_ GE108.out) | exact HB.out)⟩
      ·rw [if_neg c5] at H
       exact absurd H (by simp)
     ·rw [if_neg c4] at H
      exact absurd H (by simp)
    ·rw [if_neg c3] at H
     have c3b0 : decide (x11_1 < (l0.length : Int)) = false := decide_eq_false c3
     clear c3
     obtain rfl := Option.some.inj H
     go_wp2
     go_ret
     exact ⟨by first | rfl | (simp [errW_none, errW_some] <;> rfl) | (simp [*, errW_none, errW_some] <;> rfl), by repeat (first | (with_reducible first | exact HB.out | apply below_alloc | apply pw_below_drewN | apply below_drew1) | exact HB.out)⟩
/-! ### slices_Sort_int_int: function 38 -/
section
open Go.Sort Go.Shelf
def slices_Sort_int_int.f (l0 : List Int) : Option (List Int) := if l0.length < 4611686018427387904 then some (l0.mergeSort fun x y => decide (x ≤ y)) else none
theorem slices_Sort_int_int.calls (P0_ : Nat → Prop) (u9000_ : Value) (l0 : List Int) (r : List Int) (w0 w : World) (hB : Below w0.heap.size w0 w) (ho0 : Kd.R (Kd.int .i64) 3 w w0.heap.size P0_ u9000_ l0) (h : slices_Sort_int_int.f l0 = some r) :
 Calls Try.prog 38 #[u9000_] w fun e w' => e = .returned (.tuple #[]) ∧ Kd.R (Kd.int .i64) 3 w' w0.heap.size (fun k_ => (P0_ k_ ∨ w.heap.size ≤ k_)) u9000_ r ∧ Below w0.heap.size w0 w' ∧ Kept w w' (fun k_ => P0_ k_) := by
 unfold slices_Sort_int_int.f at h
 by_cases hsz : l0.length < 4611686018427387904
 case neg => rw [if_neg hsz] at h; exact absurd h (by simp)
 rw [if_pos hsz] at h
 obtain rfl := Option.some.inj h
 obtain ⟨A, c, rfl⟩ := Kd.R_slice ho0
 rcases A with _ | ad
 ·have hl : l0 = [] := by
   rcases l0 with _ | ⟨x, xs⟩
   ·rfl
   ·have ho := Kd.own_of_R (enc := Value.int .i64) (h1 := fun _ => rfl) ho0
    rcases ho.2 with ⟨_, h0⟩ | ⟨_, _, _, h0, _⟩
    ·simp at h0
    ·simp at h0
  subst hl
  refine (Any.slices_Sort_int_none laysSort none c w).mono ?_
  rintro e w' ⟨rfl, rfl⟩
  exact ⟨rfl, by rw [List.mergeSort_nil]; exact Kd.R_mono ho0 (fun k hk => .inl hk), hB, Kept.refl _ _⟩
 ·have had : ∃ g, ad = ⟨g, 0, none⟩ := by
   have ho := Kd.own_of_R (enc := Value.int .i64) (h1 := fun _ => rfl) ho0
   rcases ho.2 with ⟨h0, _⟩ | ⟨g, _, _, h0, _⟩
   ·simp at h0
   ·injection h0 with h0; injection h0 with h0; exact ⟨g, h0⟩
  obtain ⟨g, rfl⟩ := had
  obtain ⟨h1, h2, h3, h4, h5, h6, h7⟩ := int_row ho0
  refine (Any.slices_Sort_int laysSort g 0 c l0 w h7 h3 hsz).mono ?_
  rintro e w' ⟨rfl, n, os, rfl⟩
  have hl : (l0.mergeSort fun x y => decide (x ≤ y)).length = l0.length := List.length_mergeSort l0
  have hr := int_row_put (ok' := fun k_ => (P0_ k_ ∨ w.heap.size ≤ k_)) ho0 n os hl (Nat.le_refl _) (.inl h1)
  rw [List.take_of_length_le (by omega)] at hr
  exact ⟨rfl, hr, put_below hB h2 n os _, put_kept (ok := fun k_ => P0_ k_) n os _ h1⟩
end
/-! ### slices_Compact_int_int: function 84 -/
section
open Go.Sort Go.Shelf
def slices_Compact_int_int.f (l0 : List Int) : Option (List Int) := some (Lib.compact l0)
theorem slices_Compact_int_int.calls (P0_ : Nat → Prop) (u9000_ : Value) (l0 : List Int) (r : List Int) (w0 w : World) (hB : Below w0.heap.size w0 w) (ho0 : Kd.R (Kd.int .i64) 3 w w0.heap.size P0_ u9000_ l0) (h : slices_Compact_int_int.f l0 = some r) :
 Calls Try.prog 84 #[u9000_] w fun e w' => ∃ v0_ : Value, e = .returned (v0_) ∧ Kd.R (Kd.int .i64) 3 w' w0.heap.size (fun k_ => (P0_ k_ ∨ w.heap.size ≤ k_)) v0_ r ∧ Below w0.heap.size w0 w' ∧ Kept w w' (fun k_ => P0_ k_) := by
 obtain rfl := Option.some.inj h
 obtain ⟨A, c, rfl⟩ := Kd.R_slice ho0
 rcases A with _ | ad
 ·have hl : l0 = [] := by
   rcases l0 with _ | ⟨x, xs⟩
   ·rfl
   ·have ho := Kd.own_of_R (enc := Value.int .i64) (h1 := fun _ => rfl) ho0
    rcases ho.2 with ⟨_, h0⟩ | ⟨_, _, _, h0, _⟩
    ·simp at h0
    ·simp at h0
  subst hl
  refine (Any.slices_Compact_int_empty laysCompact none c w).mono ?_
  rintro e w' ⟨rfl, rfl⟩
  exact ⟨_, rfl, Kd.R_mono ho0 (fun k hk => .inl hk), hB, Kept.refl _ _⟩
 ·have had : ∃ g, ad = ⟨g, 0, none⟩ := by
   have ho := Kd.own_of_R (enc := Value.int .i64) (h1 := fun _ => rfl) ho0
   rcases ho.2 with ⟨h0, _⟩ | ⟨g, _, _, h0, _⟩
   ·simp at h0
   ·injection h0 with h0; injection h0 with h0; exact ⟨g, h0⟩
  obtain ⟨g, rfl⟩ := had
  obtain ⟨h1, h2, h3, h4, h5, h6, h7⟩ := int_row ho0
  have hle := Lib.compact_length_le l0
  refine (Any.slices_Compact_int laysCompact g 0 c l0 w h7 (by unfold maxLen at h6; omega) h5).mono ?_
  rintro e w' ⟨rfl, q, rfl⟩
  have hr := int_row_put (ok' := fun k_ => (P0_ k_ ∨ w.heap.size ≤ k_)) (ys := Lib.compact l0 ++ List.replicate (l0.length - (Lib.compact l0).length) 0) ho0 q #[] (by simp; omega) hle (.inl h1)
  rw [List.take_left, grow_empty] at hr
  have hb := put_below hB h2 q #[] (Lib.compact l0 ++ List.replicate (l0.length - (Lib.compact l0).length) 0).toArray
  have hk := put_kept (ok := fun k_ => P0_ k_) (w := w) q #[] (Lib.compact l0 ++ List.replicate (l0.length - (Lib.compact l0).length) 0).toArray h1
  rw [grow_empty] at hb hk
  exact ⟨_, rfl, hr, hb, hk⟩
end
/-! ### solve_occurring: function 47 -/
def solve_occurring.l0 : Nat → List Int → List (S61) → Int → Int → Option (List Int)
 | 0, _, _, _, _ => none
 | k + 1, x3, x6, x7, x8 => if x8 < x7 then (if 0 ≤ x8 then (if x8 < (x6.length : Int) then (if x3.length + ((rd_T61 x6 x8).f0).length < 17592186044416 then (solve_occurring.l0 k (x3 ++ ((rd_T61 x6 x8).f0)) x6 x7 (wrap64 (x8 + 1))) else (none)) else (none)) else (none)) else ((slices_Sort_int_int.f x3).bind fun t237 => ((slices_Compact_int_int.f t237).bind fun t238 => (some t238)))
def solve_occurring.f (k : Nat) (l0 : List (S61)) : Option (List Int) := solve_occurring.l0 k ([] : List Int) l0 (l0.length : Int) 0
theorem solve_occurring.mono_l : ∀ k, (∀ y0 y1 y2 y3, LeO (solve_occurring.l0 k y0 y1 y2 y3) (solve_occurring.l0 (k + 1) y0 y1 y2 y3))
 | 0 => fun _ _ _ _ r h => by simp [solve_occurring.l0] at h
 | k + 1 => by
  have ih0 := solve_occurring.mono_l k
  ·intro y0 y1 y2 y3
   unfold solve_occurring.l0
   repeat' first
   | (with_reducible exact ih0 _ _ _ _)
   | (with_reducible exact LeO.refl _)
   | (with_reducible exact LeO.none _)
   | (with_reducible refine LeO.ite ?_ ?_)
   | (with_reducible refine LeO.bind ?_ (fun _ => ?_))
   | exact ih0 _ _ _ _
   | exact LeO.none _
   | refine LeO.ite ?_ ?_
   | refine LeO.bind ?_ (fun _ => ?_)
theorem solve_occurring.mono : ∀ a0 k, LeO (solve_occurring.f k a0) (solve_occurring.f (k + 1) a0) := by
 intro a0 k
 have ih0 := solve_occurring.mono_l k
 unfold solve_occurring.f
 repeat' first
   | (with_reducible exact ih0 _ _ _ _)
   | (with_reducible exact LeO.refl _)
   | (with_reducible exact LeO.none _)
   | (with_reducible refine LeO.ite ?_ ?_)
   | (with_reducible refine LeO.bind ?_ (fun _ => ?_))
   | exact ih0 _ _ _ _
   | exact LeO.none _
   | refine LeO.ite ?_ ?_
   | refine LeO.bind ?_ (fun _ => ?_)
set_option maxHeartbeats 8000000 in
set_option maxRecDepth 100000 in
theorem solve_occurring.calls (k : Nat) (A0 : Option Addr) (c0 : Nat) (l0 : List (S61)) (r : List Int) (w : World) (hr0 : Kd.C k61 w A0 l0.length l0) (hc0 : l0.length ≤ c0) (h : solve_occurring.f k l0 = some r) :
  Calls Try.prog 47 #[.slice A0 l0.length c0] w fun e w' => ∃ v0_ : Value, e = .returned (v0_) ∧ Kd.R (Kd.int .i64) 3 w' w.heap.size (fun _ => True) v0_ r ∧ Below w.heap.size w w' := by
 have hu61 := Try.underlying61
 have hu42 := Try.underlying42
 have HR0 := Aside0.mk hr0
 have HC0 := Aside0.mk hc0
 clear hr0 hc0
 have HB := Aside0.mk (Below.refl w.heap.size w)
 have H : (solve_occurring.l0 k ([] : List Int) l0 (l0.length : Int) 0) = some r := h
 clear h
 have H' := Aside0.mk H
 clear H
 go_enter Try.func47, Try.ntmps47
 go_wp2
 go_loopg [3, 8] k (fun kq v3 v8 w' => ∃ (x3_1 : List Int) (x8_1 : Int), v8 = .int .i64 x8_1 ∧ Aside0 (solve_occurring.l0 kq x3_1 l0 (l0.length : Int) x8_1 = some r) ∧ Aside0 (kq ≤ k) ∧ Aside0 (Kd.R (Kd.int .i64) 3 w' w.heap.size (fun _ => True) v3 x3_1) ∧ Aside0 (Below w.heap.size w w'))
 case atStart => exact ⟨(([] : List Int)), (0), zT, H', ⟨Nat.le_refl _⟩, ⟨by first | exact Kd.R_nil _ _ _ _ _ | exact Kd.N_nil _ _ _ _ _ | exact Kd.V_nil _ _ _ _ _ | exact Kd.Q_nil _ _ _ _ _ | exact Kd.S_nil _ _ _ _ _⟩, ⟨by repeat (first | (with_reducible first | exact HB.out | apply below_alloc | apply pw_below_drewN | apply below_drew1) | exact HB.out)⟩⟩
 case round =>
  clear H'
  obtain ⟨x3_1, x8_1, rfl, HA, HK1, HO_3, HB⟩ := hrel
  cases gk with
  | zero => exact absurd HA.out (by simp [solve_occurring.l0])
  | succ k1 =>
   have H := HA.out
   clear HA
   simp only [solve_occurring.l0] at H
   by_cases c2 : x8_1 < (l0.length : Int)
   ·rw [if_pos c2] at H
    have c2b0 : decide (x8_1 < (l0.length : Int)) = true := decide_eq_true c2
    clear c2
    by_cases c3 : 0 ≤ x8_1
    ·rw [if_pos c3] at H
     have c3b0 : decide (0 ≤ x8_1) = true := decide_eq_true c3
     clear c3
     by_cases c4 : x8_1 < (l0.length : Int)
     ·rw [if_pos c4] at H
      have c4b0 : decide (x8_1 < (l0.length : Int)) = true := decide_eq_true c4
      clear c4
      by_cases c5 : x3_1.length + ((rd_T61 l0 x8_1).f0).length < 17592186044416
      ·rw [if_pos c5] at H
       have LMc5 := Aside0.mk c5
       clear c5
       obtain ⟨y234, hy234⟩ : ∃ y_ : List Int, y_ = (x3_1 ++ ((rd_T61 l0 x8_1).f0)) := ⟨_, rfl⟩
       replace H : (solve_occurring.l0 k1 y234 l0 (l0.length : Int) (wrap64 (x8_1 + 1))) = some r := by first | (rw [hy234]; with_reducible exact H) | (have H2_ := (Option.bind_some _ _).symm.trans H; rw [hy234]; with_reducible exact H2_) | (have H2_ := (Option.bind_some _ _).symm.trans H; with_reducible exact H2_) | with_reducible exact H | (rw [hy234]; exact H) | exact H
       have Ny234 := Aside0.mk hy234
       clear hy234
       have H' := Aside0.mk H
       clear H
       have p232 : 0 ≤ (x8_1 : Int) := of_decide_eq_true zh
       have q232 : x8_1 < (l0.length : Int) := of_decide_eq_true zh
       obtain ⟨ad232, A232_0, c232_0, A232_1, c232_1, e232, hx232_0, hx232_1, hl232_0, hi232_0, hl232_1, hi232_1⟩ := at_T61 HR0.out x8_1 p232 q232
       cases e232
       replace hx232_0 := (HB.out.cell (World.block_lt_of_cell? w _ hx232_0)).trans hx232_0
       replace hx232_1 := (HB.out.cell (World.block_lt_of_cell? w _ hx232_1)).trans hx232_1
       have HR232_0 := Aside0.mk hi232_0
       have HC232_0 := Aside0.mk hl232_0
       clear hi232_0 hl232_0
       have HR232_1 := Aside0.mk hi232_1
       have HC232_1 := Aside0.mk hl232_1
       clear hi232_1 hl232_1
       replace p232 := eq_true p232
       replace q232 := eq_true q232
       go_wp2_with (first | ((with_reducible refine gate_dst (N := 5) rfl ?_); refine box_event ?hg (N := 5) ?hd (cs := #[.slice none 0 0, .slice none 0 0]) (t := 61) ?hr ?_; (case hd => rfl); (case hg => rfl); (case hr => first | (go_simp; done) | (go_simp; rfl)); intro gb233 hg w6 hbox hb; have n0_ := Aside0.mk (Kd.R_below (zR HO_3) hb); have n1_ := Aside0.mk (below_step zB hb); have n2_ := Aside0.mk (hbox); have n3_ := Aside0.mk ((by rw [hg]; exact (below_size zB) : w.heap.size ≤ gb233)); have n4_ := Aside0.mk ((by rw [hg]; exact (below_size zB) : w.heap.size ≤ gb233)); clear HO_3; clear HB; have HO_3 := n0_; have HB := n1_; have BK233 := n2_; have GW233 := n3_; have GE233 := n4_; clear n0_ n1_ n2_ n3_ n4_; clear hb hbox hg; have hcz7_0 : w6.cell? ⟨gb233, 0, none⟩ = some (.slice none 0 0) := (blk_cell BK233.out 0).trans rfl; have hcz7_1 : w6.cell? ⟨gb233, 1, none⟩ = some (.slice none 0 0) := (blk_cell BK233.out 1).trans rfl; have hfz7_0 := blk_frozen BK233.out 0; have hfz7_1 := blk_frozen BK233.out 1) | ((with_reducible refine gate_builtin (b := .append) (xs := #[.tmp 12, .tmp 14]) rfl ?_); at_builtin; refine Kd.R_append_rows (Kd.int .i64) (w0 := w) w.heap.size rfl (.tmp 12) (.tmp 14) 42 3 (.int .i64 0) 8 rfl Try.underlying42 info3 rfl (by decide) (by omega) u3 x3_1 ((rd_T61 l0 x8_1).f0) _ _ _ (fun _ => True) (fun _ => False) rfl rfl ?aO ?aR (fun _ _ h => h) (fun _ h => h.elim) ?aF ?aB ?aS ?aL ?_; (case aR => exact Kd.C_below HR232_0.out zB); (case aB => exact zB); (case aF => exact (fun _ _ => trivial)); (case aO => exact (by (with_reducible repeat (first | apply Kd.R_alloc | apply Kd.R_drewN | apply Kd.R_drew)); exact Kd.R_mono (Kd.R_far (p := ⟨gb233, 1, none⟩) (Kd.R_far (p := ⟨gb233, 0, none⟩) (Kd.R_types HO_3.out BK233.out (by decide)) (fun _ hk => hk.2) (.slice A232_0 ((rd_T61 l0 x8_1).f0).length c232_0)) (fun _ hk => hk.2) (.slice A232_1 ((rd_T61 l0 x8_1).f1).length c232_1)) (fun _ hk => trivial))); (case aS => exact (below_size zB)); (case aL => have := LMc5.out; omega); intro v235 w8 ho hb hg hat; rw [← Ny234.out] at ho; have n0_ := Aside0.mk (blk_grown (g := gb233) (o := .cells #[.slice A232_0 ((rd_T61 l0 x8_1).f0).length c232_0, .slice A232_1 ((rd_T61 l0 x8_1).f1).length c232_1] 61 (0, 0)) (by (with_reducible repeat (first | refine blk_drewN ?_ _ | refine blk_drew ?_ | refine blk_alloc ?_ _)); refine blk_put (cs := #[.slice A232_0 ((rd_T61 l0 x8_1).f0).length c232_0, .slice none 0 0]) ?_ 1 _ rfl; (with_reducible repeat (first | refine blk_drewN ?_ _ | refine blk_drew ?_ | refine blk_alloc ?_ _)); refine blk_put (cs := #[.slice none 0 0, .slice none 0 0]) ?_ 0 _ rfl; (with_reducible repeat (first | refine blk_drewN ?_ _ | refine blk_drew ?_ | refine blk_alloc ?_ _)); exact BK233.out) hg (Kd.R_ne HO_3.out BK233.out (by decide))); have n1_ := Aside0.mk (hb); have n2_ := Aside0.mk (ho); clear BK233; clear HB; clear HO_3; have BK233 := n0_; have HB := n1_; have HO236 := n2_; clear n0_ n1_ n2_; clear ho hb hg hat))
       go_roundg k1
       case measure => have := HK1.out; omega
       case rel => exact ⟨(y234), (wrap64 (x8_1 + 1)), zT, H', ⟨by have := HK1.out; omega⟩, ⟨by (with_reducible repeat (first | apply Kd.R_alloc | apply Kd.R_drewN | apply Kd.R_drew)); exact HO236.out⟩, ⟨by repeat (first | (with_reducible first | exact HB.out | apply below_alloc | apply pw_below_drewN | apply below_drew1 | refine below_set ?_ GE233.out) | exact HB.out)⟩⟩
      ·rw [if_neg c5] at H
       exact absurd H (by simp)
     ·rw [if_neg c4] at H
      exact absurd H (by simp)
    ·rw [if_neg c3] at H
     exact absurd H (by simp)
   ·rw [if_neg c2] at H
    have c2b0 : decide (x8_1 < (l0.length : Int)) = false := decide_eq_false c2
    clear c2
    replace H := Option.bind_eq_some_iff.mp H
    obtain ⟨t237, A90, H⟩ := H
    replace H : ((slices_Compact_int_int.f t237).bind fun t238 => (some t238)) = some r := H
    have A9 := Aside0.mk A90
    clear A90
    replace H := Option.bind_eq_some_iff.mp H
    obtain ⟨t238, A100, H⟩ := H
    replace H : (some t238) = some r := H
    have A10 := Aside0.mk A100
    clear A100
    obtain rfl := Option.some.inj H
    obtain ⟨Ao11, co11, eo11⟩ := Kd.R_slice HO_3.out
    subst eo11
    go_wp2_with (first | ((with_reducible refine gate_callee (f := 38) rfl ?_); refine goesL_ (some 18) rfl rfl Try.func38 zK rfl #[.slice Ao11 x3_1.length co11] rfl zM ?_; (with_reducible refine (slices_Sort_int_int.calls (fun k_ => some k_ = (.slice Ao11 x3_1.length co11 : Value).ownBlock) (.slice Ao11 x3_1.length co11) x3_1 t237 w _ ?side1 ?side2 A9.out).mono ?_); (case side1 => repeat (first | (with_reducible first | exact HB.out | apply below_alloc | apply pw_below_drewN | apply below_drew1) | exact HB.out)); (case side2 => exact Kd.R_tight rfl HO_3.out); rintro e w12 ⟨rfl, hy0, hb, hkp⟩; refine ⟨_, rfl, ?_⟩; have n0_ := Aside0.mk (Kd.R_reok rfl hy0 (fun k_ e_ => HO_3.out.1 k_ e_)); have n1_ := Aside0.mk (hb); clear HO_3; clear HB; have HO_3 := n0_; have HB := n1_; clear n0_ n1_; (try clear hb); (try clear hkp); (try clear hy0)) | ((with_reducible refine gate_callee (f := 84) rfl ?_); refine goesL_ (some 20) rfl rfl Try.func84 zK rfl #[.slice Ao11 x3_1.length co11] rfl zM ?_; (with_reducible refine (slices_Compact_int_int.calls (fun k_ => some k_ = (.slice Ao11 x3_1.length co11 : Value).ownBlock) (.slice Ao11 x3_1.length co11) t237 t238 w _ ?side1 ?side2 A10.out).mono ?_); (case side1 => repeat (first | (with_reducible first | exact HB.out | apply below_alloc | apply pw_below_drewN | apply below_drew1) | exact HB.out)); (case side2 => exact Kd.R_tight rfl HO_3.out); rintro e w13 ⟨v239, rfl, ho0, hb, hkp⟩; refine ⟨_, rfl, ?_⟩; have n0_ := Aside0.mk (Kd.R_mono (ok' := fun k_ => True) ho0 (fun k_ hk_ => trivial)); have n1_ := Aside0.mk (hb); clear HB; clear HO_3; have HO240 := n0_; have HB := n1_; clear n0_ n1_; (try clear hb); (try clear hkp); (try clear ho0)))
    go_ret
    exact ⟨_, by first | rfl | (simp [errW_none, errW_some] <;> rfl) | (simp [*, errW_none, errW_some] <;> rfl), by (with_reducible repeat (first | apply Kd.R_alloc | apply Kd.R_drewN | apply Kd.R_drew)); exact HO240.out, by repeat (first | (with_reducible first | exact HB.out | apply below_alloc | apply pw_below_drewN | apply below_drew1) | exact HB.out)⟩
/-! ### solve_row: function 58 -/
def solve_row.l0 : Nat → Int → Int → List Int → Int → Int → Option (Int)
 | 0, _, _, _, _, _ => none
 | k + 1, x1, x5, x9, x10, x11 => if x11 < x10 then (if 0 ≤ x11 then (if x11 < (x9.length : Int) then (if 0 ≤ (rd x9 x11) then (solve_row.l0 k x1 (Go.bits .or .i64 x5 (shl .i64 (Go.bits .and .i64 (shr .i64 x1 (rd x9 x11)) 1) x11)) x9 x10 (wrap64 (x11 + 1))) else (none)) else (none)) else (none)) else (some x5)
def solve_row.f (k : Nat) (l0_0 : List Int) (l0_1 : List Int) (a1 : Int) : Option (Int) := solve_row.l0 k a1 0 l0_0 (l0_0.length : Int) 0
theorem solve_row.mono_l : ∀ k, (∀ y0 y1 y2 y3 y4, LeO (solve_row.l0 k y0 y1 y2 y3 y4) (solve_row.l0 (k + 1) y0 y1 y2 y3 y4))
 | 0 => fun _ _ _ _ _ r h => by simp [solve_row.l0] at h
 | k + 1 => by
  have ih0 := solve_row.mono_l k
  ·intro y0 y1 y2 y3 y4
   unfold solve_row.l0
   repeat' first
   | (with_reducible exact ih0 _ _ _ _ _)
   | (with_reducible exact LeO.refl _)
   | (with_reducible exact LeO.none _)
   | (with_reducible refine LeO.ite ?_ ?_)
   | (with_reducible refine LeO.bind ?_ (fun _ => ?_))
   | exact ih0 _ _ _ _ _
   | exact LeO.none _
   | refine LeO.ite ?_ ?_
   | refine LeO.bind ?_ (fun _ => ?_)
theorem solve_row.mono : ∀ a0 a1 a2 k, LeO (solve_row.f k a0 a1 a2) (solve_row.f (k + 1) a0 a1 a2) := by
 intro a0 a1 a2 k
 have ih0 := solve_row.mono_l k
 unfold solve_row.f
 repeat' first
   | (with_reducible exact ih0 _ _ _ _ _)
   | (with_reducible exact LeO.refl _)
   | (with_reducible exact LeO.none _)
   | (with_reducible refine LeO.ite ?_ ?_)
   | (with_reducible refine LeO.bind ?_ (fun _ => ?_))
   | exact ih0 _ _ _ _ _
   | exact LeO.none _
   | refine LeO.ite ?_ ?_
   | refine LeO.bind ?_ (fun _ => ?_)
set_option maxHeartbeats 8000000 in
set_option maxRecDepth 100000 in
theorem solve_row.calls (k : Nat) (A0_0 : Option Addr) (c0_0 : Nat) (l0_0 : List Int) (A0_1 : Option Addr) (c0_1 : Nat) (l0_1 : List Int) (a1 : Int) (r : Int) (w : World) (hr0_0 : Kd.C (Kd.int .i64) w A0_0 l0_0.length l0_0) (hc0_0 : l0_0.length ≤ c0_0) (hr0_1 : Kd.C (Kd.int .i64) w A0_1 l0_1.length l0_1) (hc0_1 : l0_1.length ≤ c0_1) (h : solve_row.f k l0_0 l0_1 a1 = some r) :
  Calls Try.prog 58 #[.agg #[.slice A0_0 l0_0.length c0_0, .slice A0_1 l0_1.length c0_1], .int .i64 a1] w fun e w' => e = .returned (.int .i64 r) ∧ Below w.heap.size w w' := by
 have hu61 := Try.underlying61
 have hu42 := Try.underlying42
 have hu3 := Try.underlying3
 have HR0_0 := Aside0.mk hr0_0
 have HC0_0 := Aside0.mk hc0_0
 clear hr0_0 hc0_0
 have HR0_1 := Aside0.mk hr0_1
 have HC0_1 := Aside0.mk hc0_1
 clear hr0_1 hc0_1
 have HB := Aside0.mk (Below.refl w.heap.size w)
 have H : (solve_row.l0 k a1 0 l0_0 (l0_0.length : Int) 0) = some r := h
 clear h
 have H' := Aside0.mk H
 clear H
 go_enter Try.func58, Try.ntmps58
 go_wp2_with (first | ((with_reducible refine gate_dst (N := 2) rfl ?_); refine box_event ?hg (N := 2) ?hd (cs := #[.slice A0_0 l0_0.length c0_0, .slice A0_1 l0_1.length c0_1]) (t := 61) ?hr ?_; (case hd => rfl); (case hg => rfl); (case hr => first | (go_simp; done) | (go_simp; rfl)); intro gb241 hg w3 hbox hb; have n0_ := Aside0.mk (below_step zB hb); have n1_ := Aside0.mk (hbox); have n2_ := Aside0.mk ((by rw [hg]; exact (below_size zB) : w.heap.size ≤ gb241)); have n3_ := Aside0.mk ((by rw [hg]; exact (below_size zB) : w.heap.size ≤ gb241)); clear HB; have HB := n0_; have BK241 := n1_; have GW241 := n2_; have GE241 := n3_; clear n0_ n1_ n2_ n3_; clear hb hbox hg; have hcz4_0 : w3.cell? ⟨gb241, 0, none⟩ = some (.slice A0_0 l0_0.length c0_0) := (blk_cell BK241.out 0).trans rfl; have hcz4_1 : w3.cell? ⟨gb241, 1, none⟩ = some (.slice A0_1 l0_1.length c0_1) := (blk_cell BK241.out 1).trans rfl; have hfz4_0 := blk_frozen BK241.out 0; have hfz4_1 := blk_frozen BK241.out 1))
 go_loopg [5, 11] k (fun kq v5 v11 w' => ∃ (x5_1 : Int) (x11_1 : Int), v5 = .int .i64 x5_1 ∧ v11 = .int .i64 x11_1 ∧ Aside0 (solve_row.l0 kq a1 x5_1 l0_0 (l0_0.length : Int) x11_1 = some r) ∧ Aside0 (kq ≤ k) ∧ Aside0 (w'.heap[gb241]? = some (.cells #[(.slice A0_0 l0_0.length c0_0), (.slice A0_1 l0_1.length c0_1)] 61 (0, 0))) ∧ Aside0 (Below w.heap.size w w'))
 case atStart => exact ⟨(0), (0), zT, zT, H', ⟨Nat.le_refl _⟩, ⟨by (with_reducible repeat (first | refine blk_drewN ?_ _ | refine blk_drew ?_ | refine blk_alloc ?_ _)); exact BK241.out⟩, ⟨by repeat (first | (with_reducible first | exact HB.out | apply below_alloc | apply pw_below_drewN | apply below_drew1 | refine below_set ?_ GE241.out) | exact HB.out)⟩⟩
 case round =>
  clear H'
  try clear hcz4_0
  try clear hcz4_1
  try clear hfz4_0
  try clear hfz4_1
  obtain ⟨x5_1, x11_1, rfl, rfl, HA, HK1, BK241, HB⟩ := hrel
  cases gk with
  | zero => exact absurd HA.out (by simp [solve_row.l0])
  | succ k1 =>
   have H := HA.out
   clear HA
   simp only [solve_row.l0] at H
   by_cases c5 : x11_1 < (l0_0.length : Int)
   ·rw [if_pos c5] at H
    have c5b0 : decide (x11_1 < (l0_0.length : Int)) = true := decide_eq_true c5
    clear c5
    by_cases c6 : 0 ≤ x11_1
    ·rw [if_pos c6] at H
     have c6b0 : decide (0 ≤ x11_1) = true := decide_eq_true c6
     clear c6
     by_cases c7 : x11_1 < (l0_0.length : Int)
     ·rw [if_pos c7] at H
      have c7b0 : decide (x11_1 < (l0_0.length : Int)) = true := decide_eq_true c7
      clear c7
      by_cases c8 : 0 ≤ (rd l0_0 x11_1)
      ·rw [if_pos c8] at H
       have c8b0 := eq_true c8
       have c8b1 : decide (0 ≤ (rd l0_0 x11_1)) = true := decide_eq_true c8
       clear c8
       obtain ⟨ji9, hji9⟩ : ∃ j_ : Int, (shr .i64 a1 (rd l0_0 x11_1)) = j_ := ⟨_, rfl⟩
       replace H : (solve_row.l0 k1 a1 (Go.bits .or .i64 x5_1 (shl .i64 (Go.bits .and .i64 (ji9) 1) x11_1)) l0_0 (l0_0.length : Int) (wrap64 (x11_1 + 1))) = some r := by first | (rw [hji9] at H; exact H) | (simp only [hji9] at H ⊢; exact H)
       have hji9_ : (a1 / 2 ^ min (rd l0_0 x11_1).toNat 64) = ji9 := hji9
       have hji9z : (rd l0_0 x11_1) ≤ 64 → (a1 / 2 ^ (rd l0_0 x11_1).toNat) = ji9 := shr_small hji9
       have c10b0 := eq_true (of_decide_eq_true zh : 0 ≤ x11_1)
       obtain ⟨ji11, hji11⟩ : ∃ j_ : Int, (shl .i64 (Go.bits .and .i64 (ji9) 1) x11_1) = j_ := ⟨_, rfl⟩
       replace H : (solve_row.l0 k1 a1 (Go.bits .or .i64 x5_1 (ji11)) l0_0 (l0_0.length : Int) (wrap64 (x11_1 + 1))) = some r := by first | (rw [hji11] at H; exact H) | (simp only [hji11] at H ⊢; exact H)
       have hji11_ : (IntKind.i64.wrap ((Go.bits .and .i64 (ji9) 1) * 2 ^ min x11_1.toNat 64)) = ji11 := hji11
       have hji11z : x11_1 ≤ 64 → (IntKind.i64.wrap ((Go.bits .and .i64 (ji9) 1) * 2 ^ x11_1.toNat)) = ji11 := shl_small hji11
       have hji11y : (wrap64 ((Go.bits .and .i64 (ji9) 1) * 2 ^ min x11_1.toNat 64)) = ji11 := (i64_w _).symm.trans hji11_
       have hji11x : x11_1 ≤ 64 → (wrap64 ((Go.bits .and .i64 (ji9) 1) * 2 ^ x11_1.toNat)) = ji11 := fun h_ => (i64_w _).symm.trans (hji11z h_)
       have H' := Aside0.mk H
       clear H
       have p242 : 0 ≤ (x11_1 : Int) := of_decide_eq_true zh
       have q242 : x11_1 < (l0_0.length : Int) := of_decide_eq_true zh
       obtain ⟨ad242, e242, hx242_0⟩ := Kd.at_int HR0_0.out x11_1 p242 q242
       cases e242
       replace hx242_0 := (HB.out.cell (World.block_lt_of_cell? w _ hx242_0)).trans hx242_0
       replace p242 := eq_true p242
       replace q242 := eq_true q242
       go_wp2
       go_roundg k1
       case measure => have := HK1.out; omega
       case rel => exact ⟨(Go.bits .or .i64 x5_1 (ji11)), (wrap64 (x11_1 + 1)), (by first | rfl | (simp; done) | (simp only [← hji11] <;> (first | rfl | simp)) | (simp [*]; done)), zT, H', ⟨by have := HK1.out; omega⟩, ⟨by (with_reducible repeat (first | refine blk_drewN ?_ _ | refine blk_drew ?_ | refine blk_alloc ?_ _)); exact BK241.out⟩, ⟨by repeat (first | (with_reducible first | exact HB.out | apply below_alloc | apply pw_below_drewN | apply below_drew1 | refine below_set ?_ GE241.out) | exact HB.out)⟩⟩
      ·rw [if_neg c8] at H
       exact absurd H (by simp)
     ·rw [if_neg c7] at H
      exact absurd H (by simp)
    ·rw [if_neg c6] at H
     exact absurd H (by simp)
   ·rw [if_neg c5] at H
    have c5b0 : decide (x11_1 < (l0_0.length : Int)) = false := decide_eq_false c5
    clear c5
    obtain rfl := Option.some.inj H
    go_wp2
    go_ret
    exact ⟨by first | rfl | (simp [errW_none, errW_some] <;> rfl) | (simp [*, errW_none, errW_some] <;> rfl), by repeat (first | (with_reducible first | exact HB.out | apply below_alloc | apply pw_below_drewN | apply below_drew1 | refine below_set ?_ GE241.out) | exact HB.out)⟩
/-! ### solve_choices_fails_1_v1: function 1000124 -/
def solve_choices_fails_1_v1.f (a0 : Int) (a1_0 : Int) (a2_0 : Int) : Option (Bool) := some ((Go.bits .and .i64 a0 a1_0) == a2_0)
set_option maxHeartbeats 8000000 in
set_option maxRecDepth 100000 in
theorem solve_choices_fails_1_v1.calls (a0 : Int) (gp1_0 : Nat) (a1_0 : Int) (gp2_0 : Nat) (a2_0 : Int) (r : Bool) (w : World) (hb_gp1_0 : w.heap[gp1_0]? = some (.cells #[.int .i64 a1_0] 3 (0, 0))) (hb_gp2_0 : w.heap[gp2_0]? = some (.cells #[.int .i64 a2_0] 3 (0, 0))) (h : solve_choices_fails_1_v1.f a0 a1_0 a2_0 = some r) :
  Calls Try.prog 124 #[.int .i64 a0, .pointer (some ⟨gp1_0, 0, none⟩), .pointer (some ⟨gp2_0, 0, none⟩)] w fun e w' => e = .returned (.bool r) ∧ Drawn0 w w' := by
 have hu3 := Try.underlying3
 have BK243 := Aside0.mk hb_gp1_0
 clear hb_gp1_0
 have BK244 := Aside0.mk hb_gp2_0
 clear hb_gp2_0
 have H : (some ((Go.bits .and .i64 a0 a1_0) == a2_0)) = some r := h
 clear h
 obtain rfl := Option.some.inj H
 have hcz4_0 : w.cell? ⟨gp1_0, 0, none⟩ = some (.int .i64 a1_0) := (blk_cell BK243.out 0).trans rfl
 have hfz4_0 := blk_frozen BK243.out 0
 have hcz5_0 : w.cell? ⟨gp2_0, 0, none⟩ = some (.int .i64 a2_0) := (blk_cell BK244.out 0).trans rfl
 have hfz5_0 := blk_frozen BK244.out 0
 go_enter Try.func124, Try.ntmps124
 go_wp2
 go_ret
 exact ⟨by first | rfl | (simp; done) | (simp [*]; done), by repeat (first | exact Drawn0.refl _ | apply Drawn0.step)⟩
/-! ### slices_IndexFunc_int_int_solve_choices_fails_1: function 1000133 -/
def slices_IndexFunc_int_int_solve_choices_fails_1.l0 : Nat → List Int → Int → Int → Int → Int → Option (Int)
 | 0, _, _, _, _, _ => none
 | k + 1, x0, x7, x8, x246000, x247000 => if x8 < x7 then (if 0 ≤ x8 then (if x8 < (x0.length : Int) then ((solve_choices_fails_1_v1.f (rd x0 x8) x246000 x247000).bind fun t248 => (if t248 = true then (some x8) else (slices_IndexFunc_int_int_solve_choices_fails_1.l0 k x0 x7 (wrap64 (x8 + 1)) x246000 x247000))) else (none)) else (none)) else (some (-1))
def slices_IndexFunc_int_int_solve_choices_fails_1.f (k : Nat) (l0 : List Int) (a1_0 : Int) (a1_1 : Int) : Option (Int) := slices_IndexFunc_int_int_solve_choices_fails_1.l0 k l0 (l0.length : Int) 0 a1_0 a1_1
theorem slices_IndexFunc_int_int_solve_choices_fails_1.mono_l : ∀ k, (∀ y0 y1 y2 y3 y4, LeO (slices_IndexFunc_int_int_solve_choices_fails_1.l0 k y0 y1 y2 y3 y4) (slices_IndexFunc_int_int_solve_choices_fails_1.l0 (k + 1) y0 y1 y2 y3 y4))
 | 0 => fun _ _ _ _ _ r h => by simp [slices_IndexFunc_int_int_solve_choices_fails_1.l0] at h
 | k + 1 => by
  have ih0 := slices_IndexFunc_int_int_solve_choices_fails_1.mono_l k
  ·intro y0 y1 y2 y3 y4
   unfold slices_IndexFunc_int_int_solve_choices_fails_1.l0
   repeat' first
   | (with_reducible exact ih0 _ _ _ _ _)
   | (with_reducible exact LeO.refl _)
   | (with_reducible exact LeO.none _)
   | (with_reducible refine LeO.ite ?_ ?_)
   | (with_reducible refine LeO.bind ?_ (fun _ => ?_))
   | exact ih0 _ _ _ _ _
   | exact LeO.none _
   | refine LeO.ite ?_ ?_
   | refine LeO.bind ?_ (fun _ => ?_)
theorem slices_IndexFunc_int_int_solve_choices_fails_1.mono : ∀ a0 a1 a2 k, LeO (slices_IndexFunc_int_int_solve_choices_fails_1.f k a0 a1 a2) (slices_IndexFunc_int_int_solve_choices_fails_1.f (k + 1) a0 a1 a2) := by
 intro a0 a1 a2 k
 have ih0 := slices_IndexFunc_int_int_solve_choices_fails_1.mono_l k
 unfold slices_IndexFunc_int_int_solve_choices_fails_1.f
 repeat' first
   | (with_reducible exact ih0 _ _ _ _ _)
   | (with_reducible exact LeO.refl _)
   | (with_reducible exact LeO.none _)
   | (with_reducible refine LeO.ite ?_ ?_)
   | (with_reducible refine LeO.bind ?_ (fun _ => ?_))
   | exact ih0 _ _ _ _ _
   | exact LeO.none _
   | refine LeO.ite ?_ ?_
   | refine LeO.bind ?_ (fun _ => ?_)
set_option maxHeartbeats 8000000 in
set_option maxRecDepth 100000 in
theorem slices_IndexFunc_int_int_solve_choices_fails_1.calls (k : Nat) (A0 : Option Addr) (c0 : Nat) (l0 : List Int) (gp1_0 : Nat) (gp1_1 : Nat) (a1_0 : Int) (a1_1 : Int) (r : Int) (w : World) (hr0 : Kd.C (Kd.int .i64) w A0 l0.length l0) (hc0 : l0.length ≤ c0) (hb_gp1_0 : w.heap[gp1_0]? = some (.cells #[.int .i64 a1_0] 3 (0, 0))) (hb_gp1_1 : w.heap[gp1_1]? = some (.cells #[.int .i64 a1_1] 3 (0, 0))) (h : slices_IndexFunc_int_int_solve_choices_fails_1.f k l0 a1_0 a1_1 = some r) :
  Calls Try.prog 133 #[.slice A0 l0.length c0, .func (.func 124) #[] #[.pointer (some ⟨gp1_0, 0, none⟩), .pointer (some ⟨gp1_1, 0, none⟩)]] w fun e w' => e = .returned (.int .i64 r) ∧ Below w.heap.size w w' := by
 have hu3 := Try.underlying3
 have HR0 := Aside0.mk hr0
 have HC0 := Aside0.mk hc0
 clear hr0 hc0
 have BK245 := Aside0.mk hb_gp1_0
 clear hb_gp1_0
 have BK246 := Aside0.mk hb_gp1_1
 clear hb_gp1_1
 have HB := Aside0.mk (Below.refl w.heap.size w)
 have H : (slices_IndexFunc_int_int_solve_choices_fails_1.l0 k l0 (l0.length : Int) 0 a1_0 a1_1) = some r := h
 clear h
 have H' := Aside0.mk H
 clear H
 go_enter Try.func133, Try.ntmps133
 go_wp2
 go_loopg [8] k (fun kq v8 w' => ∃ (x8_1 : Int), v8 = .int .i64 x8_1 ∧ Aside0 (slices_IndexFunc_int_int_solve_choices_fails_1.l0 kq l0 (l0.length : Int) x8_1 a1_0 a1_1 = some r) ∧ Aside0 (kq ≤ k) ∧ Aside0 (w'.heap[gp1_0]? = some (.cells #[.int .i64 a1_0] 3 (0, 0))) ∧ Aside0 (w'.heap[gp1_1]? = some (.cells #[.int .i64 a1_1] 3 (0, 0))) ∧ Aside0 (Below w.heap.size w w'))
 case atStart => exact ⟨(0), zT, H', ⟨Nat.le_refl _⟩, ⟨by (with_reducible repeat (first | refine blk_drewN ?_ _ | refine blk_drew ?_ | refine blk_alloc ?_ _)); exact BK245.out⟩, ⟨by (with_reducible repeat (first | refine blk_drewN ?_ _ | refine blk_drew ?_ | refine blk_alloc ?_ _)); exact BK246.out⟩, ⟨by repeat (first | (with_reducible first | exact HB.out | apply below_alloc | apply pw_below_drewN | apply below_drew1 | refine below_set ?_ GE245.out | refine below_set ?_ GE246.out) | exact HB.out)⟩⟩
 case round =>
  clear H'
  obtain ⟨x8_1, rfl, HA, HK1, BK245, BK246, HB⟩ := hrel
  cases gk with
  | zero => exact absurd HA.out (by simp [slices_IndexFunc_int_int_solve_choices_fails_1.l0])
  | succ k1 =>
   have H := HA.out
   clear HA
   simp only [slices_IndexFunc_int_int_solve_choices_fails_1.l0] at H
   by_cases c3 : x8_1 < (l0.length : Int)
   ·rw [if_pos c3] at H
    have c3b0 : decide (x8_1 < (l0.length : Int)) = true := decide_eq_true c3
    clear c3
    by_cases c4 : 0 ≤ x8_1
    ·rw [if_pos c4] at H
     have c4b0 : decide (0 ≤ x8_1) = true := decide_eq_true c4
     clear c4
     by_cases c5 : x8_1 < (l0.length : Int)
     ·rw [if_pos c5] at H
      have c5b0 : decide (x8_1 < (l0.length : Int)) = true := decide_eq_true c5
      clear c5
      replace H := Option.bind_eq_some_iff.mp H
      obtain ⟨t248, A60, H⟩ := H
      replace H : (if t248 = true then (some x8_1) else (slices_IndexFunc_int_int_solve_choices_fails_1.l0 k1 l0 (l0.length : Int) (wrap64 (x8_1 + 1)) a1_0 a1_1)) = some r := H
      have A6 := Aside0.mk A60
      clear A60
      have HC7 := Aside0.mk H
      clear H
      have p247 : 0 ≤ (x8_1 : Int) := of_decide_eq_true zh
      have q247 : x8_1 < (l0.length : Int) := of_decide_eq_true zh
      obtain ⟨ad247, e247, hx247_0⟩ := Kd.at_int HR0.out x8_1 p247 q247
      cases e247
      replace hx247_0 := (HB.out.cell (World.block_lt_of_cell? w _ hx247_0)).trans hx247_0
      replace p247 := eq_true p247
      replace q247 := eq_true q247
      go_upto_if 16 with (first | (go_at_call 124; (with_reducible refine (solve_choices_fails_1_v1.calls (rd l0 x8_1) gp1_0 a1_0 gp1_1 a1_1 t248 _ ?side1 ?side2 A6.out).mono ?_); (case side1 => (with_reducible repeat (first | refine blk_drewN ?_ _ | refine blk_drew ?_ | refine blk_alloc ?_ _)); exact BK245.out); (case side2 => (with_reducible repeat (first | refine blk_drewN ?_ _ | refine blk_drew ?_ | refine blk_alloc ?_ _)); exact BK246.out); rintro e w' ⟨rfl, ⟨nd, rfl⟩⟩))
      (try simp only [Act.put, List.setIfInBounds_toArray, List.set_cons_zero, List.set_cons_succ])
      have H := HC7.out
      clear HC7
      by_cases c8 : t248 = true
      ·subst c8
       have H1 : (some x8_1) = some r := by rw [if_pos rfl] at H; exact H
       clear H
       have H := H1
       clear H1
       obtain rfl := Option.some.inj H
       go_wp2
       go_ret
       exact ⟨by first | rfl | (simp [errW_none, errW_some] <;> rfl) | (simp [*, errW_none, errW_some] <;> rfl), by repeat (first | (with_reducible first | exact HB.out | apply below_alloc | apply pw_below_drewN | apply below_drew1 | refine below_set ?_ GE245.out | refine below_set ?_ GE246.out) | exact HB.out)⟩
      ·replace c8 := Bool.eq_false_iff.mpr c8
       subst c8
       have H1 : (slices_IndexFunc_int_int_solve_choices_fails_1.l0 k1 l0 (l0.length : Int) (wrap64 (x8_1 + 1)) a1_0 a1_1) = some r := by rw [if_neg (show ¬ (false = true) by decide)] at H; exact H
       clear H
       have H := H1
       clear H1
       have H' := Aside0.mk H
       clear H
       go_wp2
       go_roundg k1
       case measure => have := HK1.out; omega
       case rel => exact ⟨(wrap64 (x8_1 + 1)), zT, H', ⟨by have := HK1.out; omega⟩, ⟨by (with_reducible repeat (first | refine blk_drewN ?_ _ | refine blk_drew ?_ | refine blk_alloc ?_ _)); exact BK245.out⟩, ⟨by (with_reducible repeat (first | refine blk_drewN ?_ _ | refine blk_drew ?_ | refine blk_alloc ?_ _)); exact BK246.out⟩, ⟨by repeat (first | (with_reducible first | exact HB.out | apply below_alloc | apply pw_below_drewN | apply below_drew1 | refine below_set ?_ GE245.out | refine below_set ?_ GE246.out) | exact HB.out)⟩⟩
     ·rw [if_neg c5] at H
      exact absurd H (by simp)
    ·rw [if_neg c4] at H
     exact absurd H (by simp)
   ·rw [if_neg c3] at H
    have c3b0 : decide (x8_1 < (l0.length : Int)) = false := decide_eq_false c3
    clear c3
    obtain rfl := Option.some.inj H
    go_wp2
    go_ret
    exact ⟨by first | rfl | (simp [errW_none, errW_some] <;> rfl) | (simp [*, errW_none, errW_some] <;> rfl), by repeat (first | (with_reducible first | exact HB.out | apply below_alloc | apply pw_below_drewN | apply below_drew1 | refine below_set ?_ GE245.out | refine below_set ?_ GE246.out) | exact HB.out)⟩
/-! ### slices_ContainsFunc_int_int_solve_choices_fails_1: function 1000123 -/
def slices_ContainsFunc_int_int_solve_choices_fails_1.f (k : Nat) (l0 : List Int) (a1_0 : Int) (a1_1 : Int) : Option (Bool) := (slices_IndexFunc_int_int_solve_choices_fails_1.f k l0 a1_0 a1_1).bind fun t251 => (some (decide (t251 ≥ 0)))
theorem slices_ContainsFunc_int_int_solve_choices_fails_1.mono : ∀ a0 a1 a2 k, LeO (slices_ContainsFunc_int_int_solve_choices_fails_1.f k a0 a1 a2) (slices_ContainsFunc_int_int_solve_choices_fails_1.f (k + 1) a0 a1 a2) := by
 intro a0 a1 a2 k
 unfold slices_ContainsFunc_int_int_solve_choices_fails_1.f
 repeat' first
   | (with_reducible exact slices_IndexFunc_int_int_solve_choices_fails_1.mono _ _ _ _)
   | (with_reducible exact LeO.refl _)
   | (with_reducible exact LeO.none _)
   | (with_reducible refine LeO.ite ?_ ?_)
   | (with_reducible refine LeO.bind ?_ (fun _ => ?_))
   | exact slices_IndexFunc_int_int_solve_choices_fails_1.mono _ _ _ _
   | exact LeO.none _
   | refine LeO.ite ?_ ?_
   | refine LeO.bind ?_ (fun _ => ?_)
set_option maxHeartbeats 8000000 in
set_option maxRecDepth 100000 in
theorem slices_ContainsFunc_int_int_solve_choices_fails_1.calls (k : Nat) (A0 : Option Addr) (c0 : Nat) (l0 : List Int) (gp1_0 : Nat) (gp1_1 : Nat) (a1_0 : Int) (a1_1 : Int) (r : Bool) (w : World) (hr0 : Kd.C (Kd.int .i64) w A0 l0.length l0) (hc0 : l0.length ≤ c0) (hb_gp1_0 : w.heap[gp1_0]? = some (.cells #[.int .i64 a1_0] 3 (0, 0))) (hb_gp1_1 : w.heap[gp1_1]? = some (.cells #[.int .i64 a1_1] 3 (0, 0))) (h : slices_ContainsFunc_int_int_solve_choices_fails_1.f k l0 a1_0 a1_1 = some r) :
  Calls Try.prog 123 #[.slice A0 l0.length c0, .func (.func 124) #[] #[.pointer (some ⟨gp1_0, 0, none⟩), .pointer (some ⟨gp1_1, 0, none⟩)]] w fun e w' => e = .returned (.bool r) ∧ Below w.heap.size w w' := by
 have HR0 := Aside0.mk hr0
 have HC0 := Aside0.mk hc0
 clear hr0 hc0
 have BK249 := Aside0.mk hb_gp1_0
 clear hb_gp1_0
 have BK250 := Aside0.mk hb_gp1_1
 clear hb_gp1_1
 have HB := Aside0.mk (Below.refl w.heap.size w)
 have H : ((slices_IndexFunc_int_int_solve_choices_fails_1.f k l0 a1_0 a1_1).bind fun t251 => (some (decide (t251 ≥ 0)))) = some r := h
 clear h
 replace H := Option.bind_eq_some_iff.mp H
 obtain ⟨t251, A30, H⟩ := H
 replace H : (some (decide (t251 ≥ 0))) = some r := H
 have A3 := Aside0.mk A30
 clear A30
 obtain rfl := Option.some.inj H
 go_enter Try.func123, Try.ntmps123
 go_wp2_with (first | ((with_reducible refine gate_callee (f := 133) rfl ?_); refine goesL_ (some 7) rfl rfl Try.func133 zK rfl #[.slice A0 l0.length c0, .func (.func 124) #[] #[.pointer (some ⟨gp1_0, 0, none⟩), .pointer (some ⟨gp1_1, 0, none⟩)]] rfl zM ?_; (with_reducible refine (slices_IndexFunc_int_int_solve_choices_fails_1.calls k _ _ l0 gp1_0 gp1_1 a1_0 a1_1 t251 _ ?side1 ?side2 ?side3 ?side4 A3.out).mono ?_); (case side1 => repeat (first | exact HR0.out | (with_reducible refine Kd.C_alloc ?_ _) | (with_reducible refine Kd.C_drewN ?_ _) | (with_reducible refine Kd.C_drew ?_))); (case side2 => exact HC0.out); (case side3 => (with_reducible repeat (first | refine blk_drewN ?_ _ | refine blk_drew ?_ | refine blk_alloc ?_ _)); exact BK249.out); (case side4 => (with_reducible repeat (first | refine blk_drewN ?_ _ | refine blk_drew ?_ | refine blk_alloc ?_ _)); exact BK250.out); rintro e w4 ⟨rfl, hb⟩; refine ⟨_, rfl, ?_⟩; have n0_ := Aside0.mk (blk_below (g := gp1_0) (o := .cells #[.int .i64 a1_0] 3 (0, 0)) (zk BK249) hb); have n1_ := Aside0.mk (blk_below (g := gp1_1) (o := .cells #[.int .i64 a1_1] 3 (0, 0)) (zk BK250) hb); have n2_ := Aside0.mk (below_step zB hb); clear BK249; clear BK250; clear HB; have BK249 := n0_; have BK250 := n1_; have HB := n2_; clear n0_ n1_ n2_; (try clear hb); (try clear hb2); (try clear hk); (try clear hi)))
 go_ret
 exact ⟨by first | rfl | (simp [errW_none, errW_some] <;> rfl) | (simp [*, errW_none, errW_some] <;> rfl), by repeat (first | (with_reducible first | exact HB.out | apply below_alloc | apply pw_below_drewN | apply below_drew1 | refine below_set ?_ GE249.out | refine below_set ?_ GE250.out) | exact HB.out)⟩
end Go.Proofs.Ytbagnalcabdlhaa.S
