-- Written by wip/tools/myprint.py, a program of this session's.
import Derived.Test.YthcfmdkhkikbcaaD0
namespace Go.Proofs.Ythcfmdkhkikbcaa.D
open Go.RowKit Go.Proofs.YthcfmdkhkikbcaaW.PrintWords Go.Proofs.YthcfmdkhkikbcaaW.PrintLast Go.Proofs.YthcfmdkhkikbcaaW.PrintMore
attribute [local go_sem] max2_int min2_int max_two min_two max_three min_three max_four min_four   -- for this text's walks alone
set_option linter.unusedVariables false
set_option linter.unusedSimpArgs false
/-! ### table_ascending: function 53 -/
mutual
def table_ascending.l0 : Nat → List Int → List Int → Int → Int → Option (Int)
 | 0, _, _, _, _ => none
 | k + 1, x0, x8, x9, x10 => if x10 < x9 then (if 0 ≤ x10 then (if x10 < (x8.length : Int) then (if (rd x8 x10) < 0 then (table_ascending.j1 k x0 x10 (rd x8 x10) x8 x9 x10 true) else (table_ascending.j1 k x0 x10 (rd x8 x10) x8 x9 x10 (decide ((rd x8 x10) ≥ 24)))) else (none)) else (none)) else (some 0)
def table_ascending.j1 : Nat → List Int → Int → Int → List Int → Int → Int → Bool → Option (Int)
 | 0, _, _, _, _, _, _, _ => none
 | k + 1, x0, x3, x4, x8, x9, x10, x20 => if x20 = true then (some 6) else (if x3 > 0 then (if 0 ≤ (wrap64 (x3 - 1)) then (if (wrap64 (x3 - 1)) < (x0.length : Int) then (if (rd x0 (wrap64 (x3 - 1))) ≥ x4 then (some 18) else (table_ascending.l0 k x0 x8 x9 (wrap64 (x10 + 1)))) else (none)) else (none)) else (table_ascending.l0 k x0 x8 x9 (wrap64 (x10 + 1))))
end
def table_ascending.f (k : Nat) (l0 : List Int) : Option (Int) := if (l0.length : Int) > 10 then (some 3) else (table_ascending.l0 k l0 l0 (l0.length : Int) 0)
theorem table_ascending.mono_l : ∀ k, (∀ y0 y1 y2 y3, LeO (table_ascending.l0 k y0 y1 y2 y3) (table_ascending.l0 (k + 1) y0 y1 y2 y3)) ∧ (∀ y0 y1 y2 y3 y4 y5 y6, LeO (table_ascending.j1 k y0 y1 y2 y3 y4 y5 y6) (table_ascending.j1 (k + 1) y0 y1 y2 y3 y4 y5 y6))
 | 0 => ⟨fun _ _ _ _ r h => by simp [table_ascending.l0] at h, fun _ _ _ _ _ _ _ r h => by simp [table_ascending.j1] at h⟩
 | k + 1 => by
  obtain ⟨ih0, ih1⟩ := table_ascending.mono_l k
  refine ⟨?_, ?_⟩
  ·intro y0 y1 y2 y3
   unfold table_ascending.l0
   repeat' first
   | (with_reducible exact ih0 _ _ _ _)
   | (with_reducible exact ih1 _ _ _ _ _ _ _)
   | (with_reducible exact LeO.refl _)
   | (with_reducible exact LeO.none _)
   | (with_reducible refine LeO.ite ?_ ?_)
   | (with_reducible refine LeO.bind ?_ (fun _ => ?_))
   | exact ih0 _ _ _ _
   | exact ih1 _ _ _ _ _ _ _
   | exact LeO.none _
   | refine LeO.ite ?_ ?_
   | refine LeO.bind ?_ (fun _ => ?_)
  ·intro y0 y1 y2 y3 y4 y5 y6
   unfold table_ascending.j1
   repeat' first
   | (with_reducible exact ih0 _ _ _ _)
   | (with_reducible exact ih1 _ _ _ _ _ _ _)
   | (with_reducible exact LeO.refl _)
   | (with_reducible exact LeO.none _)
   | (with_reducible refine LeO.ite ?_ ?_)
   | (with_reducible refine LeO.bind ?_ (fun _ => ?_))
   | exact ih0 _ _ _ _
   | exact ih1 _ _ _ _ _ _ _
   | exact LeO.none _
   | refine LeO.ite ?_ ?_
   | refine LeO.bind ?_ (fun _ => ?_)
theorem table_ascending.mono : ∀ a0 k, LeO (table_ascending.f k a0) (table_ascending.f (k + 1) a0) := by
 intro a0 k
 obtain ⟨ih0, ih1⟩ := table_ascending.mono_l k
 unfold table_ascending.f
 repeat' first
   | (with_reducible exact ih0 _ _ _ _)
   | (with_reducible exact ih1 _ _ _ _ _ _ _)
   | (with_reducible exact LeO.refl _)
   | (with_reducible exact LeO.none _)
   | (with_reducible refine LeO.ite ?_ ?_)
   | (with_reducible refine LeO.bind ?_ (fun _ => ?_))
   | exact ih0 _ _ _ _
   | exact ih1 _ _ _ _ _ _ _
   | exact LeO.none _
   | refine LeO.ite ?_ ?_
   | refine LeO.bind ?_ (fun _ => ?_)
set_option maxHeartbeats 8000000 in
set_option maxRecDepth 100000 in
theorem table_ascending.calls (k : Nat) (A0 : Option Addr) (c0 : Nat) (l0 : List Int) (r : Int) (w : World) (hr0 : Kd.C (Kd.int .i64) w A0 l0.length l0) (hc0 : l0.length ≤ c0) (h : table_ascending.f k l0 = some r) :
  Calls Try.prog 53 #[.slice A0 l0.length c0] w fun e w' => e = .returned (.int .i64 r) ∧ Drawn0 w w' := by
 have hu3 := Try.underlying3
 have HR0 := Aside0.mk hr0
 have HC0 := Aside0.mk hc0
 clear hr0 hc0
 have H : (if (l0.length : Int) > 10 then (some 3) else (table_ascending.l0 k l0 l0 (l0.length : Int) 0)) = some r := h
 clear h
 by_cases c2 : (l0.length : Int) > 10
 ·rw [if_pos c2] at H
  have c2b0 : decide (10 < (l0.length : Int)) = true := decide_eq_true c2
  have c2b1 : decide (10 < l0.length) = true := decide_eq_true (by omega)
  clear c2
  obtain rfl := Option.some.inj H
  go_enter Try.func53, Try.ntmps53
  go_wp2
  go_ret
  exact ⟨by first | rfl | (simp; done) | (simp [*]; done), by repeat (first | exact Drawn0.refl _ | apply Drawn0.step)⟩
 ·rw [if_neg c2] at H
  have c2b0 : decide (10 < (l0.length : Int)) = false := decide_eq_false c2
  have c2b1 : decide (10 < l0.length) = false := decide_eq_false (by omega)
  clear c2
  have H' := Aside0.mk H
  clear H
  go_enter Try.func53, Try.ntmps53
  go_wp2
  go_loopg [10] k (fun kq v10 w' => ∃ (x10_1 : Int), v10 = .int .i64 x10_1 ∧ Aside0 (table_ascending.l0 kq l0 l0 (l0.length : Int) x10_1 = some r) ∧ Aside0 (kq ≤ k) ∧ Drawn0 w w')
  case atStart => exact ⟨(0), zT, H', ⟨Nat.le_refl _⟩, by repeat (first | exact Drawn0.refl _ | apply Drawn0.step)⟩
  case round =>
   clear H'
   try clear c2
   try clear c2b0
   try clear c2b1
   obtain ⟨x10_1, rfl, HA, HK1, ⟨m1, rfl⟩⟩ := hrel
   cases gk with
   | zero => exact absurd HA.out (by simp [table_ascending.l0])
   | succ k1 =>
    have H := HA.out
    clear HA
    simp only [table_ascending.l0] at H
    by_cases c3 : x10_1 < (l0.length : Int)
    ·rw [if_pos c3] at H
     have c3b0 : decide (x10_1 < (l0.length : Int)) = true := decide_eq_true c3
     clear c3
     by_cases c4 : 0 ≤ x10_1
     ·rw [if_pos c4] at H
      have c4b0 : decide (0 ≤ x10_1) = true := decide_eq_true c4
      clear c4
      by_cases c5 : x10_1 < (l0.length : Int)
      ·rw [if_pos c5] at H
       have c5b0 : decide (x10_1 < (l0.length : Int)) = true := decide_eq_true c5
       clear c5
       have HC6 := Aside0.mk H
       clear H
       have p101 : 0 ≤ (x10_1 : Int) := of_decide_eq_true zh
       have q101 : x10_1 < (l0.length : Int) := of_decide_eq_true zh
       obtain ⟨ad101, e101, hx101_0⟩ := Kd.at_int HR0.out x10_1 p101 q101
       cases e101
       replace p101 := eq_true p101
       replace q101 := eq_true q101
       go_upto_region 6 with (fail)
       go_cut [20] (fun v20 wc => ∃ (kq : Nat) (x20_5 : Bool), v20 = .bool x20_5 ∧ Aside0 (table_ascending.j1 kq l0 x10_1 (rd l0 x10_1) l0 (l0.length : Int) x10_1 x20_5 = some r) ∧ Aside0 (kq ≤ k1) ∧ Drawn0 w wc)
       case first =>
        have H := HC6.out
        clear HC6
        by_cases c7 : (rd l0 x10_1) < 0
        ·rw [if_pos c7] at H
         have c7b0 : decide ((rd l0 x10_1) < 0) = true := decide_eq_true c7
         clear c7
         (first | rw [c7b0] | (simp only [i64_w, i32_w]; rw [c7b0]) | skip)
         have H' := Aside0.mk H
         clear H
         go_wp2
         go_meet
         case rel => exact ⟨_, (true), zT, H', ⟨by have := HK1.out; first | omega | exact Nat.le_refl _⟩, by repeat (first | exact Drawn0.refl _ | apply Drawn0.step)⟩
        ·rw [if_neg c7] at H
         have c7b0 : decide ((rd l0 x10_1) < 0) = false := decide_eq_false c7
         clear c7
         (first | rw [c7b0] | (simp only [i64_w, i32_w]; rw [c7b0]) | skip)
         have H' := Aside0.mk H
         clear H
         go_wp2
         go_meet
         case rel => exact ⟨_, (decide ((rd l0 x10_1) ≥ 24)), zT, H', ⟨by have := HK1.out; first | omega | exact Nat.le_refl _⟩, by repeat (first | exact Drawn0.refl _ | apply Drawn0.step)⟩
       case rest =>
        clear HC6
        try clear c2
        try clear c2b0
        try clear c2b1
        try clear c3
        try clear c3b0
        try clear c4
        try clear c4b0
        try clear c5
        try clear c5b0
        try clear hx101_0
        try clear p101
        try clear q101
        obtain ⟨kq, x20_5, rfl, HA, HJ5, ⟨mc5, rfl⟩⟩ := hcut
        cases kq with
        | zero => exact absurd HA.out (by simp [table_ascending.j1])
        | succ kj5 =>
         have H := HA.out
         clear HA
         simp only [table_ascending.j1] at H
         by_cases c8 : x20_5 = true
         ·subst c8
          have H1 : (some 6) = some r := by rw [if_pos rfl] at H; exact H
          clear H
          have H := H1
          clear H1
          obtain rfl := Option.some.inj H
          go_wp2
          go_ret
          exact ⟨by first | rfl | (simp; done) | (simp [*]; done), by repeat (first | exact Drawn0.refl _ | apply Drawn0.step)⟩
         ·replace c8 := Bool.eq_false_iff.mpr c8
          subst c8
          have H1 : (if x10_1 > 0 then (if 0 ≤ (wrap64 (x10_1 - 1)) then (if (wrap64 (x10_1 - 1)) < (l0.length : Int) then (if (rd l0 (wrap64 (x10_1 - 1))) ≥ (rd l0 x10_1) then (some 18) else (table_ascending.l0 kj5 l0 l0 (l0.length : Int) (wrap64 (x10_1 + 1)))) else (none)) else (none)) else (table_ascending.l0 kj5 l0 l0 (l0.length : Int) (wrap64 (x10_1 + 1)))) = some r := by rw [if_neg (show ¬ (false = true) by decide)] at H; exact H
          clear H
          have H := H1
          clear H1
          by_cases c9 : x10_1 > 0
          ·rw [if_pos c9] at H
           have c9b0 : decide (0 < x10_1) = true := decide_eq_true c9
           clear c9
           obtain ⟨ji10, hji10⟩ : ∃ j_ : Int, (wrap64 (x10_1 - 1)) = j_ := ⟨_, rfl⟩
           replace H : (if 0 ≤ (ji10) then (if (ji10) < (l0.length : Int) then (if (rd l0 (ji10)) ≥ (rd l0 x10_1) then (some 18) else (table_ascending.l0 kj5 l0 l0 (l0.length : Int) (wrap64 (x10_1 + 1)))) else (none)) else (none)) = some r := by first | (rw [hji10] at H; exact H) | (simp only [hji10] at H ⊢; exact H)
           have hji10w : (IntKind.i64.wrap (x10_1 - 1)) = ji10 := (i64_w _).trans hji10
           by_cases c11 : 0 ≤ (ji10)
           ·rw [if_pos c11] at H
            have c11b0 : decide (0 ≤ (ji10)) = true := decide_eq_true c11
            clear c11
            by_cases c12 : (ji10) < (l0.length : Int)
            ·rw [if_pos c12] at H
             have c12b0 : decide ((ji10) < (l0.length : Int)) = true := decide_eq_true c12
             clear c12
             by_cases c13 : (rd l0 (ji10)) ≥ (rd l0 x10_1)
             ·rw [if_pos c13] at H
              have c13b0 : decide ((rd l0 x10_1) ≤ (rd l0 (ji10))) = true := decide_eq_true c13
              clear c13
              obtain rfl := Option.some.inj H
              have p102 : 0 ≤ ((ji10) : Int) := of_decide_eq_true zh
              have q102 : (ji10) < (l0.length : Int) := of_decide_eq_true zh
              obtain ⟨ad102, e102, hx102_0⟩ := Kd.at_int HR0.out (ji10) p102 q102
              obtain rfl : ad101 = ad102 := (by injection e102)
              replace p102 := eq_true p102
              replace q102 := eq_true q102
              go_wp2
              go_ret
              exact ⟨by first | rfl | (simp; done) | (simp only [← hji10] <;> (first | rfl | simp)) | (simp [*]; done), by repeat (first | exact Drawn0.refl _ | apply Drawn0.step)⟩
             ·rw [if_neg c13] at H
              have c13b0 : decide ((rd l0 x10_1) ≤ (rd l0 (ji10))) = false := decide_eq_false c13
              clear c13
              have H' := Aside0.mk H
              clear H
              have p102 : 0 ≤ ((ji10) : Int) := of_decide_eq_true zh
              have q102 : (ji10) < (l0.length : Int) := of_decide_eq_true zh
              obtain ⟨ad102, e102, hx102_0⟩ := Kd.at_int HR0.out (ji10) p102 q102
              obtain rfl : ad101 = ad102 := (by injection e102)
              replace p102 := eq_true p102
              replace q102 := eq_true q102
              go_wp2
              go_roundg kj5
              case measure => have := HK1.out; have := HJ5.out; omega
              case rel => exact ⟨(wrap64 (x10_1 + 1)), zT, H', ⟨by have := HK1.out; have := HJ5.out; omega⟩, by repeat (first | exact Drawn0.refl _ | apply Drawn0.step)⟩
            ·rw [if_neg c12] at H
             exact absurd H (by simp)
           ·rw [if_neg c11] at H
            exact absurd H (by simp)
          ·rw [if_neg c9] at H
           have c9b0 : decide (0 < x10_1) = false := decide_eq_false c9
           clear c9
           have H' := Aside0.mk H
           clear H
           go_wp2
           go_roundg kj5
           case measure => have := HK1.out; have := HJ5.out; omega
           case rel => exact ⟨(wrap64 (x10_1 + 1)), zT, H', ⟨by have := HK1.out; have := HJ5.out; omega⟩, by repeat (first | exact Drawn0.refl _ | apply Drawn0.step)⟩
      ·rw [if_neg c5] at H
       exact absurd H (by simp)
     ·rw [if_neg c4] at H
      exact absurd H (by simp)
    ·rw [if_neg c3] at H
     have c3b0 : decide (x10_1 < (l0.length : Int)) = false := decide_eq_false c3
     clear c3
     obtain rfl := Option.some.inj H
     go_wp2
     go_ret
     exact ⟨by first | rfl | (simp; done) | (simp [*]; done), by repeat (first | exact Drawn0.refl _ | apply Drawn0.step)⟩
/-! ### table_Valid: function 25 -/
mutual
def table_Valid.l0 : Nat → List Int → Int → Int → List Int → List Int → Option (Int)
 | 0, _, _, _, _, _ => none
 | k + 1, x13, x14, x15, x104000, x104001 => if x15 < x14 then (if 0 ≤ x15 then (if x15 < (x13.length : Int) then (if (rd x13 x15) < 0 then (table_Valid.j1 k x15 (rd x13 x15) x13 x14 x15 true x104000 x104001) else (table_Valid.j1 k x15 (rd x13 x15) x13 x14 x15 (decide ((rd x13 x15) ≥ (shl .i64 1 (x104000.length : Int)))) x104000 x104001)) else (none)) else (none)) else (some 0)
def table_Valid.j1 : Nat → Int → Int → List Int → Int → Int → Bool → List Int → List Int → Option (Int)
 | 0, _, _, _, _, _, _, _, _ => none
 | k + 1, x4, x5, x13, x14, x15, x29, x104000, x104001 => if x29 = true then (some 6) else (if x4 > 0 then (if 0 ≤ (wrap64 (x4 - 1)) then (if (wrap64 (x4 - 1)) < (x104001.length : Int) then (if (rd x104001 (wrap64 (x4 - 1))) ≥ x5 then (some 18) else (table_Valid.l0 k x13 x14 (wrap64 (x15 + 1)) x104000 x104001)) else (none)) else (none)) else (table_Valid.l0 k x13 x14 (wrap64 (x15 + 1)) x104000 x104001))
end
def table_Valid.f (k : Nat) (l0_0 : List Int) (l0_1 : List Int) : Option (Int) := (table_ascending.f k l0_0).bind fun t104 => (if t104 = 0 then (table_Valid.l0 k l0_1 (l0_1.length : Int) 0 l0_0 l0_1) else (some t104))
theorem table_Valid.mono_l : ∀ k, (∀ y0 y1 y2 y3 y4, LeO (table_Valid.l0 k y0 y1 y2 y3 y4) (table_Valid.l0 (k + 1) y0 y1 y2 y3 y4)) ∧ (∀ y0 y1 y2 y3 y4 y5 y6 y7, LeO (table_Valid.j1 k y0 y1 y2 y3 y4 y5 y6 y7) (table_Valid.j1 (k + 1) y0 y1 y2 y3 y4 y5 y6 y7))
 | 0 => ⟨fun _ _ _ _ _ r h => by simp [table_Valid.l0] at h, fun _ _ _ _ _ _ _ _ r h => by simp [table_Valid.j1] at h⟩
 | k + 1 => by
  obtain ⟨ih0, ih1⟩ := table_Valid.mono_l k
  refine ⟨?_, ?_⟩
  ·intro y0 y1 y2 y3 y4
   unfold table_Valid.l0
   repeat' first
   | (with_reducible exact ih0 _ _ _ _ _)
   | (with_reducible exact ih1 _ _ _ _ _ _ _ _)
   | (with_reducible exact table_ascending.mono _ _)
   | (with_reducible exact LeO.refl _)
   | (with_reducible exact LeO.none _)
   | (with_reducible refine LeO.ite ?_ ?_)
   | (with_reducible refine LeO.bind ?_ (fun _ => ?_))
   | exact ih0 _ _ _ _ _
   | exact ih1 _ _ _ _ _ _ _ _
   | exact table_ascending.mono _ _
   | exact LeO.none _
   | refine LeO.ite ?_ ?_
   | refine LeO.bind ?_ (fun _ => ?_)
  ·intro y0 y1 y2 y3 y4 y5 y6 y7
   unfold table_Valid.j1
   repeat' first
   | (with_reducible exact ih0 _ _ _ _ _)
   | (with_reducible exact ih1 _ _ _ _ _ _ _ _)
   | (with_reducible exact table_ascending.mono _ _)
   | (with_reducible exact LeO.refl _)
   | (with_reducible exact LeO.none _)
   | (with_reducible refine LeO.ite ?_ ?_)
   | (with_reducible refine LeO.bind ?_ (fun _ => ?_))
   | exact ih0 _ _ _ _ _
   | exact ih1 _ _ _ _ _ _ _ _
   | exact table_ascending.mono _ _
   | exact LeO.none _
   | refine LeO.ite ?_ ?_
   | refine LeO.bind ?_ (fun _ => ?_)
theorem table_Valid.mono : ∀ a0 a1 k, LeO (table_Valid.f k a0 a1) (table_Valid.f (k + 1) a0 a1) := by
 intro a0 a1 k
 obtain ⟨ih0, ih1⟩ := table_Valid.mono_l k
 unfold table_Valid.f
 repeat' first
   | (with_reducible exact ih0 _ _ _ _ _)
   | (with_reducible exact ih1 _ _ _ _ _ _ _ _)
   | (with_reducible exact table_ascending.mono _ _)
   | (with_reducible exact LeO.refl _)
   | (with_reducible exact LeO.none _)
   | (with_reducible refine LeO.ite ?_ ?_)
   | (with_reducible refine LeO.bind ?_ (fun _ => ?_))
   | exact ih0 _ _ _ _ _
   | exact ih1 _ _ _ _ _ _ _ _
   | exact table_ascending.mono _ _
   | exact LeO.none _
   | refine LeO.ite ?_ ?_
   | refine LeO.bind ?_ (fun _ => ?_)
set_option maxHeartbeats 8000000 in
set_option maxRecDepth 100000 in
theorem table_Valid.calls (k : Nat) (A0_0 : Option Addr) (c0_0 : Nat) (l0_0 : List Int) (A0_1 : Option Addr) (c0_1 : Nat) (l0_1 : List Int) (r : Int) (w : World) (hr0_0 : Kd.C (Kd.int .i64) w A0_0 l0_0.length l0_0) (hc0_0 : l0_0.length ≤ c0_0) (hr0_1 : Kd.C (Kd.int .i64) w A0_1 l0_1.length l0_1) (hc0_1 : l0_1.length ≤ c0_1) (h : table_Valid.f k l0_0 l0_1 = some r) :
  Calls Try.prog 25 #[.agg #[.slice A0_0 l0_0.length c0_0, .slice A0_1 l0_1.length c0_1]] w fun e w' => e = .returned (.int .i64 r) ∧ Below w.heap.size w w' := by
 have hu29 := Try.underlying29
 have hu27 := Try.underlying27
 have hu3 := Try.underlying3
 have HR0_0 := Aside0.mk hr0_0
 have HC0_0 := Aside0.mk hc0_0
 clear hr0_0 hc0_0
 have HR0_1 := Aside0.mk hr0_1
 have HC0_1 := Aside0.mk hc0_1
 clear hr0_1 hc0_1
 have HB := Aside0.mk (Below.refl w.heap.size w)
 have H : ((table_ascending.f k l0_0).bind fun t104 => (if t104 = 0 then (table_Valid.l0 k l0_1 (l0_1.length : Int) 0 l0_0 l0_1) else (some t104))) = some r := h
 clear h
 replace H := Option.bind_eq_some_iff.mp H
 obtain ⟨t104, A20, H⟩ := H
 replace H : (if t104 = 0 then (table_Valid.l0 k l0_1 (l0_1.length : Int) 0 l0_0 l0_1) else (some t104)) = some r := H
 have A2 := Aside0.mk A20
 clear A20
 have HC3 := Aside0.mk H
 clear H
 go_enter Try.func25, Try.ntmps25
 go_upto_if 10 with (first | ((with_reducible refine gate_dst (N := 1) rfl ?_); (try (refine gate_guard (by rfl) ?_; dsimp only)); refine box_event ?hg (N := 1) ?hd (cs := #[.slice A0_0 l0_0.length c0_0, .slice A0_1 l0_1.length c0_1]) (t := 29) ?hr ?_; (case hd => rfl); (case hg => rfl); (case hr => first | (go_simp; done) | (go_simp; rfl)); intro gb103 hg w4 hbox hb; have n0_ := Aside0.mk (below_step zB hb); have n1_ := Aside0.mk (hbox); have n2_ := Aside0.mk ((by rw [hg]; exact (below_size zB) : w.heap.size ≤ gb103)); have n3_ := Aside0.mk ((by rw [hg]; exact (below_size zB) : w.heap.size ≤ gb103)); clear HB; have HB := n0_; have BK103 := n1_; have GW103 := n2_; have GE103 := n3_; clear n0_ n1_ n2_ n3_; clear hb hbox hg; have hcz5_0 : w4.cell? ⟨gb103, 0, none⟩ = some (.slice A0_0 l0_0.length c0_0) := (blk_cell BK103.out 0).trans rfl; have hcz5_1 : w4.cell? ⟨gb103, 1, none⟩ = some (.slice A0_1 l0_1.length c0_1) := (blk_cell BK103.out 1).trans rfl; have hfz5_0 := blk_frozen BK103.out 0; have hfz5_1 := blk_frozen BK103.out 1) | ((with_reducible refine gate_callee (f := 53) rfl ?_); refine goesL_ (some 8) rfl rfl Try.func53 zK rfl #[.slice A0_0 l0_0.length c0_0] rfl zM ?_; (with_reducible refine (table_ascending.calls k _ _ l0_0 t104 _ ?side1 ?side2 A2.out).mono ?_); (case side1 => repeat (first | exact (Kd.C_below HR0_0.out HB.out) | (with_reducible refine Kd.C_alloc ?_ _) | (with_reducible refine Kd.C_drewN ?_ _) | (with_reducible refine Kd.C_drew ?_))); (case side2 => exact HC0_0.out); rintro e w' ⟨rfl, ⟨nd, rfl⟩⟩; refine ⟨_, rfl, ?_⟩))
 (try simp only [Act.put, List.setIfInBounds_toArray, List.set_cons_zero, List.set_cons_succ])
 have H := HC3.out
 clear HC3
 by_cases c6 : t104 = 0
 ·rw [if_pos c6] at H
  have c6b0 : (t104 == 0) = true := beq_iff_eq.mpr c6
  have c6b1 : (t104 != 0) = false := bne_eq_false_iff_eq.mpr c6
  clear c6
  (first | rw [c6b0] | (simp only [i64_w, i32_w]; rw [c6b0]) | skip)
  (try rw [c6b1])
  have H' := Aside0.mk H
  clear H
  have hcz7_0 : w4.cell? ⟨gb103, 0, none⟩ = some (.slice A0_0 l0_0.length c0_0) := (blk_cell BK103.out 0).trans rfl
  have hcz7_1 : w4.cell? ⟨gb103, 1, none⟩ = some (.slice A0_1 l0_1.length c0_1) := (blk_cell BK103.out 1).trans rfl
  have hfz7_0 := blk_frozen BK103.out 0
  have hfz7_1 := blk_frozen BK103.out 1
  go_wp2
  go_loopg [15] k (fun kq v15 w' => ∃ (x15_1 : Int), v15 = .int .i64 x15_1 ∧ Aside0 (table_Valid.l0 kq l0_1 (l0_1.length : Int) x15_1 l0_0 l0_1 = some r) ∧ Aside0 (kq ≤ k) ∧ Aside0 (w'.heap[gb103]? = some (.cells #[(.slice A0_0 l0_0.length c0_0), (.slice A0_1 l0_1.length c0_1)] 29 (0, 0))) ∧ Aside0 (Below w.heap.size w w'))
  case atStart => exact ⟨(0), zT, H', ⟨Nat.le_refl _⟩, ⟨by (with_reducible repeat (first | refine blk_drewN ?_ _ | refine blk_drew ?_ | refine blk_alloc ?_ _)); exact BK103.out⟩, ⟨by repeat (first | (with_reducible first | exact HB.out | apply below_alloc | apply pw_below_drewN | apply below_drew1 | refine below_set ?_ GE103.out) | exact HB.out)⟩⟩
  case round =>
   clear H'
   try clear c6
   try clear c6b0
   try clear c6b1
   try clear hcz5_0
   try clear hcz5_1
   try clear hcz7_0
   try clear hcz7_1
   try clear hfz5_0
   try clear hfz5_1
   try clear hfz7_0
   try clear hfz7_1
   obtain ⟨x15_1, rfl, HA, HK1, BK103, HB⟩ := hrel
   cases gk with
   | zero => exact absurd HA.out (by simp [table_Valid.l0])
   | succ k1 =>
    have H := HA.out
    clear HA
    simp only [table_Valid.l0] at H
    by_cases c8 : x15_1 < (l0_1.length : Int)
    ·rw [if_pos c8] at H
     have c8b0 : decide (x15_1 < (l0_1.length : Int)) = true := decide_eq_true c8
     clear c8
     by_cases c9 : 0 ≤ x15_1
     ·rw [if_pos c9] at H
      have c9b0 : decide (0 ≤ x15_1) = true := decide_eq_true c9
      clear c9
      by_cases c10 : x15_1 < (l0_1.length : Int)
      ·rw [if_pos c10] at H
       have c10b0 : decide (x15_1 < (l0_1.length : Int)) = true := decide_eq_true c10
       clear c10
       have HC11 := Aside0.mk H
       clear H
       have p105 : 0 ≤ (x15_1 : Int) := of_decide_eq_true zh
       have q105 : x15_1 < (l0_1.length : Int) := of_decide_eq_true zh
       obtain ⟨ad105, e105, hx105_0⟩ := Kd.at_int HR0_1.out x15_1 p105 q105
       cases e105
       replace hx105_0 := (HB.out.cell (World.block_lt_of_cell? w _ hx105_0)).trans hx105_0
       replace p105 := eq_true p105
       replace q105 := eq_true q105
       go_upto_region 7 with (fail)
       go_cut [29] (fun v29 wc => ∃ (kq : Nat) (x29_10 : Bool), v29 = .bool x29_10 ∧ Aside0 (table_Valid.j1 kq x15_1 (rd l0_1 x15_1) l0_1 (l0_1.length : Int) x15_1 x29_10 l0_0 l0_1 = some r) ∧ Aside0 (kq ≤ k1) ∧ Aside0 (wc.heap[gb103]? = some (.cells #[(.slice A0_0 l0_0.length c0_0), (.slice (some ad105) l0_1.length c0_1)] 29 (0, 0))) ∧ Aside0 (Below w.heap.size w wc))
       case first =>
        have H := HC11.out
        clear HC11
        by_cases c12 : (rd l0_1 x15_1) < 0
        ·rw [if_pos c12] at H
         have c12b0 : decide ((rd l0_1 x15_1) < 0) = true := decide_eq_true c12
         clear c12
         (first | rw [c12b0] | (simp only [i64_w, i32_w]; rw [c12b0]) | skip)
         have H' := Aside0.mk H
         clear H
         go_wp2
         go_meet
         case rel => exact ⟨_, (true), zT, H', ⟨by have := HK1.out; first | omega | exact Nat.le_refl _⟩, ⟨by (with_reducible repeat (first | refine blk_drewN ?_ _ | refine blk_drew ?_ | refine blk_alloc ?_ _)); exact BK103.out⟩, ⟨by repeat (first | (with_reducible first | exact HB.out | apply below_alloc | apply pw_below_drewN | apply below_drew1 | refine below_set ?_ GE103.out) | exact HB.out)⟩⟩
        ·rw [if_neg c12] at H
         have c12b0 : decide ((rd l0_1 x15_1) < 0) = false := decide_eq_false c12
         clear c12
         (first | rw [c12b0] | (simp only [i64_w, i32_w]; rw [c12b0]) | skip)
         obtain ⟨ji13, hji13⟩ : ∃ j_ : Int, (shl .i64 1 (l0_0.length : Int)) = j_ := ⟨_, rfl⟩
         replace H : (table_Valid.j1 k1 x15_1 (rd l0_1 x15_1) l0_1 (l0_1.length : Int) x15_1 (decide ((rd l0_1 x15_1) ≥ (ji13))) l0_0 l0_1) = some r := by first | (rw [hji13] at H; exact H) | (simp only [hji13] at H ⊢; exact H)
         have hji13_ : (IntKind.i64.wrap (1 * 2 ^ min (l0_0.length : Int).toNat 64)) = ji13 := hji13
         have hji13z : (l0_0.length : Int) ≤ 64 → (IntKind.i64.wrap (1 * 2 ^ (l0_0.length : Int).toNat)) = ji13 := shl_small hji13
         have hji13p : (IntKind.i64.wrap (1 * 2 ^ min l0_0.length 64)) = ji13 := hji13_
         have hji13q : (l0_0.length : Int) ≤ 64 → (IntKind.i64.wrap (1 * 2 ^ l0_0.length)) = ji13 := hji13z
         have hji13r : (IntKind.i64.wrap (2 ^ min l0_0.length 64)) = ji13 := by have h_ := hji13p; rw [Int.one_mul] at h_; exact h_
         have hji13s : (l0_0.length : Int) ≤ 64 → (IntKind.i64.wrap (2 ^ l0_0.length)) = ji13 := fun hle_ => by have h_ := hji13q hle_; rw [Int.one_mul] at h_; exact h_
         have hji13u : (IntKind.i64.wrap (2 ^ min (l0_0.length : Int).toNat 64)) = ji13 := by have h_ := hji13_; rw [Int.one_mul] at h_; exact h_
         have hji13v : (l0_0.length : Int) ≤ 64 → (IntKind.i64.wrap (2 ^ (l0_0.length : Int).toNat)) = ji13 := fun hle_ => by have h_ := hji13z hle_; rw [Int.one_mul] at h_; exact h_
         have hji13y : (wrap64 (1 * 2 ^ min (l0_0.length : Int).toNat 64)) = ji13 := (i64_w _).symm.trans hji13_
         have hji13x : (l0_0.length : Int) ≤ 64 → (wrap64 (1 * 2 ^ (l0_0.length : Int).toNat)) = ji13 := fun h_ => (i64_w _).symm.trans (hji13z h_)
         have H' := Aside0.mk H
         clear H
         have hcz14_0 : wr.cell? ⟨gb103, 0, none⟩ = some (.slice A0_0 l0_0.length c0_0) := (blk_cell BK103.out 0).trans rfl
         have hcz14_1 : wr.cell? ⟨gb103, 1, none⟩ = some (.slice (some ad105) l0_1.length c0_1) := (blk_cell BK103.out 1).trans rfl
         have hfz14_0 := blk_frozen BK103.out 0
         have hfz14_1 := blk_frozen BK103.out 1
         go_wp2
         go_meet
         case rel => exact ⟨_, (decide ((rd l0_1 x15_1) ≥ (ji13))), (by first | rfl | (simp; done) | (simp only [← hji13] <;> (first | rfl | simp)) | (simp [*]; done)), H', ⟨by have := HK1.out; first | omega | exact Nat.le_refl _⟩, ⟨by (with_reducible repeat (first | refine blk_drewN ?_ _ | refine blk_drew ?_ | refine blk_alloc ?_ _)); exact BK103.out⟩, ⟨by repeat (first | (with_reducible first | exact HB.out | apply below_alloc | apply pw_below_drewN | apply below_drew1 | refine below_set ?_ GE103.out) | exact HB.out)⟩⟩
       case rest =>
        clear HC11
        try clear c6
        try clear c6b0
        try clear c6b1
        try clear c8
        try clear c8b0
        try clear c9
        try clear c9b0
        try clear c10
        try clear c10b0
        try clear hcz5_0
        try clear hcz5_1
        try clear hcz7_0
        try clear hcz7_1
        try clear hfz5_0
        try clear hfz5_1
        try clear hfz7_0
        try clear hfz7_1
        try clear hx105_0
        try clear p105
        try clear q105
        obtain ⟨kq, x29_10, rfl, HA, HJ10, BK103, HB⟩ := hcut
        cases kq with
        | zero => exact absurd HA.out (by simp [table_Valid.j1])
        | succ kj10 =>
         have H := HA.out
         clear HA
         simp only [table_Valid.j1] at H
         by_cases c15 : x29_10 = true
         ·subst c15
          have H1 : (some 6) = some r := by rw [if_pos rfl] at H; exact H
          clear H
          have H := H1
          clear H1
          obtain rfl := Option.some.inj H
          go_wp2
          go_ret
          exact ⟨by first | rfl | (simp [errW_none, errW_some] <;> rfl) | (simp [*, errW_none, errW_some] <;> rfl), by repeat (first | (with_reducible first | exact HB.out | apply below_alloc | apply pw_below_drewN | apply below_drew1 | refine below_set ?_ GE103.out) | exact HB.out)⟩
         ·replace c15 := Bool.eq_false_iff.mpr c15
          subst c15
          have H1 : (if x15_1 > 0 then (if 0 ≤ (wrap64 (x15_1 - 1)) then (if (wrap64 (x15_1 - 1)) < (l0_1.length : Int) then (if (rd l0_1 (wrap64 (x15_1 - 1))) ≥ (rd l0_1 x15_1) then (some 18) else (table_Valid.l0 kj10 l0_1 (l0_1.length : Int) (wrap64 (x15_1 + 1)) l0_0 l0_1)) else (none)) else (none)) else (table_Valid.l0 kj10 l0_1 (l0_1.length : Int) (wrap64 (x15_1 + 1)) l0_0 l0_1)) = some r := by rw [if_neg (show ¬ (false = true) by decide)] at H; exact H
          clear H
          have H := H1
          clear H1
          by_cases c16 : x15_1 > 0
          ·rw [if_pos c16] at H
           have c16b0 : decide (0 < x15_1) = true := decide_eq_true c16
           clear c16
           obtain ⟨ji17, hji17⟩ : ∃ j_ : Int, (wrap64 (x15_1 - 1)) = j_ := ⟨_, rfl⟩
           replace H : (if 0 ≤ (ji17) then (if (ji17) < (l0_1.length : Int) then (if (rd l0_1 (ji17)) ≥ (rd l0_1 x15_1) then (some 18) else (table_Valid.l0 kj10 l0_1 (l0_1.length : Int) (wrap64 (x15_1 + 1)) l0_0 l0_1)) else (none)) else (none)) = some r := by first | (rw [hji17] at H; exact H) | (simp only [hji17] at H ⊢; exact H)
           have hji17w : (IntKind.i64.wrap (x15_1 - 1)) = ji17 := (i64_w _).trans hji17
           by_cases c18 : 0 ≤ (ji17)
           ·rw [if_pos c18] at H
            have c18b0 : decide (0 ≤ (ji17)) = true := decide_eq_true c18
            clear c18
            by_cases c19 : (ji17) < (l0_1.length : Int)
            ·rw [if_pos c19] at H
             have c19b0 : decide ((ji17) < (l0_1.length : Int)) = true := decide_eq_true c19
             clear c19
             by_cases c20 : (rd l0_1 (ji17)) ≥ (rd l0_1 x15_1)
             ·rw [if_pos c20] at H
              have c20b0 : decide ((rd l0_1 x15_1) ≤ (rd l0_1 (ji17))) = true := decide_eq_true c20
              clear c20
              obtain rfl := Option.some.inj H
              have hcz21_0 : wc.cell? ⟨gb103, 0, none⟩ = some (.slice A0_0 l0_0.length c0_0) := (blk_cell BK103.out 0).trans rfl
              have hcz21_1 : wc.cell? ⟨gb103, 1, none⟩ = some (.slice (some ad105) l0_1.length c0_1) := (blk_cell BK103.out 1).trans rfl
              have hfz21_0 := blk_frozen BK103.out 0
              have hfz21_1 := blk_frozen BK103.out 1
              have p106 : 0 ≤ ((ji17) : Int) := of_decide_eq_true zh
              have q106 : (ji17) < (l0_1.length : Int) := of_decide_eq_true zh
              obtain ⟨ad106, e106, hx106_0⟩ := Kd.at_int HR0_1.out (ji17) p106 q106
              obtain rfl : ad105 = ad106 := (by injection e106)
              replace hx106_0 := (HB.out.cell (World.block_lt_of_cell? w _ hx106_0)).trans hx106_0
              replace p106 := eq_true p106
              replace q106 := eq_true q106
              go_wp2
              go_ret
              exact ⟨by first | rfl | (simp [errW_none, errW_some] <;> rfl) | (simp only [← hji17]; first | rfl | (simp [errW_none, errW_some] <;> rfl)) | (simp [*, errW_none, errW_some] <;> rfl), by repeat (first | (with_reducible first | exact HB.out | apply below_alloc | apply pw_below_drewN | apply below_drew1 | refine below_set ?_ GE103.out) | exact HB.out)⟩
             ·rw [if_neg c20] at H
              have c20b0 : decide ((rd l0_1 x15_1) ≤ (rd l0_1 (ji17))) = false := decide_eq_false c20
              clear c20
              have H' := Aside0.mk H
              clear H
              have hcz22_0 : wc.cell? ⟨gb103, 0, none⟩ = some (.slice A0_0 l0_0.length c0_0) := (blk_cell BK103.out 0).trans rfl
              have hcz22_1 : wc.cell? ⟨gb103, 1, none⟩ = some (.slice (some ad105) l0_1.length c0_1) := (blk_cell BK103.out 1).trans rfl
              have hfz22_0 := blk_frozen BK103.out 0
              have hfz22_1 := blk_frozen BK103.out 1
              have p106 : 0 ≤ ((ji17) : Int) := of_decide_eq_true zh
              have q106 : (ji17) < (l0_1.length : Int) := of_decide_eq_true zh
              obtain ⟨ad106, e106, hx106_0⟩ := Kd.at_int HR0_1.out (ji17) p106 q106
              obtain rfl : ad105 = ad106 := (by injection e106)
              replace hx106_0 := (HB.out.cell (World.block_lt_of_cell? w _ hx106_0)).trans hx106_0
              replace p106 := eq_true p106
              replace q106 := eq_true q106
              go_wp2
              go_roundg kj10
              case measure => have := HK1.out; have := HJ10.out; omega
              case rel => exact ⟨(wrap64 (x15_1 + 1)), zT, H', ⟨by have := HK1.out; have := HJ10.out; omega⟩, ⟨by (with_reducible repeat (first | refine blk_drewN ?_ _ | refine blk_drew ?_ | refine blk_alloc ?_ _)); exact BK103.out⟩, ⟨by repeat (first | (with_reducible first | exact HB.out | apply below_alloc | apply pw_below_drewN | apply below_drew1 | refine below_set ?_ GE103.out) | exact HB.out)⟩⟩
            ·rw [if_neg c19] at H
             exact absurd H (by simp)
           ·rw [if_neg c18] at H
            exact absurd H (by simp)
          ·rw [if_neg c16] at H
           have c16b0 : decide (0 < x15_1) = false := decide_eq_false c16
           clear c16
           have H' := Aside0.mk H
           clear H
           go_wp2
           go_roundg kj10
           case measure => have := HK1.out; have := HJ10.out; omega
           case rel => exact ⟨(wrap64 (x15_1 + 1)), zT, H', ⟨by have := HK1.out; have := HJ10.out; omega⟩, ⟨by (with_reducible repeat (first | refine blk_drewN ?_ _ | refine blk_drew ?_ | refine blk_alloc ?_ _)); exact BK103.out⟩, ⟨by repeat (first | (with_reducible first | exact HB.out | apply below_alloc | apply pw_below_drewN | apply below_drew1 | refine below_set ?_ GE103.out) | exact HB.out)⟩⟩
      ·rw [if_neg c10] at H
       exact absurd H (by simp)
     ·rw [if_neg c9] at H
      exact absurd H (by simp)
    ·rw [if_neg c8] at H
     have c8b0 : decide (x15_1 < (l0_1.length : Int)) = false := decide_eq_false c8
     clear c8
     obtain rfl := Option.some.inj H
     go_wp2
     go_ret
     exact ⟨by first | rfl | (simp [errW_none, errW_some] <;> rfl) | (simp [*, errW_none, errW_some] <;> rfl), by repeat (first | (with_reducible first | exact HB.out | apply below_alloc | apply pw_below_drewN | apply below_drew1 | refine below_set ?_ GE103.out) | exact HB.out)⟩
 ·rw [if_neg c6] at H
  have c6b0 : (t104 == 0) = false := beq_eq_false_iff_ne.mpr c6
  have c6b1 : (t104 != 0) = true := bne_iff_ne.mpr c6
  (first | rw [c6b0] | (simp only [i64_w, i32_w]; rw [c6b0]) | skip)
  (try rw [c6b1])
  obtain rfl := Option.some.inj H
  go_wp2
  go_ret
  exact ⟨by first | rfl | (simp [errW_none, errW_some] <;> rfl) | (simp [*, errW_none, errW_some] <;> rfl), by repeat (first | (with_reducible first | exact HB.out | apply below_alloc | apply pw_below_drewN | apply below_drew1 | refine below_set ?_ GE103.out) | exact HB.out)⟩
/-! ### slices_Clone_int_int: function 42 -/
def slices_Clone_int_int.f (l0 : List Int) : Option (List Int) := (some (([] : List Int) : List Int)).bind fun y107 => (if y107.length + l0.length < 17592186044416 then (some (y107 ++ l0)) else (none))
set_option maxHeartbeats 8000000 in
set_option maxRecDepth 100000 in
theorem slices_Clone_int_int.calls (A0 : Option Addr) (c0 : Nat) (l0 : List Int) (r : List Int) (w : World) (hr0 : Kd.C (Kd.int .i64) w A0 l0.length l0) (hc0 : l0.length ≤ c0) (h : slices_Clone_int_int.f l0 = some r) :
  Calls Try.prog 42 #[.slice A0 l0.length c0] w fun e w' => ∃ v0_ : Value, e = .returned (v0_) ∧ Kd.R (Kd.int .i64) 3 w' w.heap.size (fun _ => True) v0_ r ∧ Below w.heap.size w w' := by
 have HR0 := Aside0.mk hr0
 have HC0 := Aside0.mk hc0
 clear hr0 hc0
 have HB := Aside0.mk (Below.refl w.heap.size w)
 have H : ((some (([] : List Int) : List Int)).bind fun y107 => (if y107.length + l0.length < 17592186044416 then (some (y107 ++ l0)) else (none))) = some r := h
 clear h
 have hnq_ : ∀ (w : World) (a : Option Addr) (n c n' c' : Nat), (binOp .eql 27 (.slice a n c) (.slice none n' c')).run Try.prog w = .ok (.bool a.isNone) w := fun w a n c n' c' => Lib.run_eql_slice_nil w _ _ a n c n' c' Try.underlying27
 rcases A0 with _ | adn0
 ·obtain rfl : l0 = [] := (by rcases l0 with _ | ⟨x_, xs_⟩; (· rfl); (· obtain ⟨_, _, e_, _⟩ := Kd.C_get HR0.out 0 0 (by omega) (by simp); cases e_))
  simp only [List.length_nil, List.nil_append] at H
  (first | rw [if_pos (by omega)] at H | simp at H)
  try simp only [Option.some.injEq] at H
  subst H
  go_enter Try.func42, Try.ntmps42
  go_wp2
  go_ret
  first | exact ⟨_, rfl, Kd.R_nil _ _ _ _ _, Below.refl _ _⟩ | exact ⟨_, rfl, Kd.S_nil _ _ _ _ _, Below.refl _ _⟩ | exact ⟨_, rfl, Kd.V_nil _ _ _ _ _, Below.refl _ _⟩ | exact ⟨_, rfl, Kd.N_nil _ _ _ _ _, Below.refl _ _⟩
 ·replace H := H
  obtain ⟨y107, hy107⟩ : ∃ y_ : List Int, y_ = (([] : List Int)) := ⟨_, rfl⟩
  replace H : (if y107.length + l0.length < 17592186044416 then (some (y107 ++ l0)) else (none)) = some r := by first | (rw [hy107]; with_reducible exact H) | (have H2_ := (Option.bind_some _ _).symm.trans H; rw [hy107]; with_reducible exact H2_) | (have H2_ := (Option.bind_some _ _).symm.trans H; with_reducible exact H2_) | with_reducible exact H | (rw [hy107]; exact H) | exact H
  have Ny107 := Aside0.mk hy107
  clear hy107
  by_cases c2 : y107.length + l0.length < 17592186044416
  ·rw [if_pos c2] at H
   have LMc2 := Aside0.mk c2
   clear c2
   obtain ⟨y110, hy110⟩ : ∃ y_ : List Int, y_ = (y107 ++ l0) := ⟨_, rfl⟩
   replace H : (some y110) = some r := by first | (rw [hy110]; with_reducible exact H) | (have H2_ := (Option.bind_some _ _).symm.trans H; rw [hy110]; with_reducible exact H2_) | (have H2_ := (Option.bind_some _ _).symm.trans H; with_reducible exact H2_) | with_reducible exact H | (rw [hy110]; exact H) | exact H
   have Ny110 := Aside0.mk hy110
   clear hy110
   obtain rfl := Option.some.inj H
   go_enter Try.func42, Try.ntmps42
   go_wp2_with (first | ((with_reducible refine gate_dst (N := 5) rfl ?_); refine Kd.R_lit (Kd.int .i64) _ 3 ?hg (N := 5) ?hd (xs := ([] : List Int)) (inner := []) (ok := fun _ => True) (okp := fun _ => True) ?hr ?hp (fun _ hk => hk) trivial (Below.refl _ _) (Nat.le_refl _) (by simp) ?_; (case hd => rfl); (case hg => rfl); (case hr => first | (go_simp; done) | (go_simp; rfl)); (case hp => exact (Reps.none _ _)); intro v108 w3 ho4 hb hg_ hnew_; clear hg_ hnew_; (first | rw [← Ny107.out] at ho4 | (simp only [Int.reduceToNat] at ho4; rw [← Ny107.out] at ho4)); have n0_ := Aside0.mk (Kd.R_lower ho4 (below_size zB)); have n1_ := Aside0.mk (below_step zB hb); clear HB; have HO109 := n0_; have HB := n1_; clear n0_ n1_; clear hb ho4) | ((with_reducible refine gate_builtin (b := .append) (xs := #[.tmp 5, .tmp 6]) rfl ?_); at_builtin; refine Kd.R_append_rows (Kd.int .i64) (w0 := w) w.heap.size rfl (.tmp 5) (.tmp 6) 27 3 (.int .i64 0) 8 rfl Try.underlying27 info3 rfl (by decide) (by omega) v108 y107 l0 _ _ _ (fun _ => True) (fun _ => False) rfl rfl ?aO ?aR (fun _ _ h => h) (fun _ h => h.elim) ?aF ?aB ?aS ?aL ?_; (case aR => repeat (first | exact (Kd.C_below HR0.out HB.out) | (with_reducible refine Kd.C_alloc ?_ _) | (with_reducible refine Kd.C_drewN ?_ _) | (with_reducible refine Kd.C_drew ?_))); (case aB => exact zB); (case aF => exact (fun _ _ => trivial)); (case aO => exact (zR HO109)); (case aS => exact (below_size zB)); (case aL => have := LMc2.out; omega); intro v111 w5 ho hb hg hat; rw [← Ny110.out] at ho; have n0_ := Aside0.mk (hb); have n1_ := Aside0.mk (ho); clear HB; clear HO109; have HB := n0_; have HO112 := n1_; clear n0_ n1_; clear ho hb hg hat))
   go_ret
   exact ⟨_, by first | rfl | (simp [errW_none, errW_some] <;> rfl) | (simp [*, errW_none, errW_some] <;> rfl), by (with_reducible repeat (first | apply Kd.R_alloc | apply Kd.R_drewN | apply Kd.R_drew)); exact HO112.out, by repeat (first | (with_reducible first | exact HB.out | apply below_alloc | apply pw_below_drewN | apply below_drew1) | exact HB.out)⟩
  ·rw [if_neg c2] at H
   exact absurd H (by simp)
/-! ### table_assignment: function 69 -/
def table_assignment.l0 : Nat → Int → Int → List Int → Int → Int → Option (Int)
 | 0, _, _, _, _, _ => none
 | k + 1, x1, x5, x8, x9, x10 => if x10 < x9 then (if 0 ≤ x10 then (if x10 < (x8.length : Int) then (if 0 ≤ (rd x8 x10) then (table_assignment.l0 k x1 (Go.bits .or .i64 x5 (shl .i64 (Go.bits .and .i64 (shr .i64 x1 x10) 1) (rd x8 x10))) x8 x9 (wrap64 (x10 + 1))) else (none)) else (none)) else (none)) else (some x5)
def table_assignment.f (k : Nat) (l0 : List Int) (a1 : Int) : Option (Int) := table_assignment.l0 k a1 0 l0 (l0.length : Int) 0
theorem table_assignment.mono_l : ∀ k, (∀ y0 y1 y2 y3 y4, LeO (table_assignment.l0 k y0 y1 y2 y3 y4) (table_assignment.l0 (k + 1) y0 y1 y2 y3 y4))
 | 0 => fun _ _ _ _ _ r h => by simp [table_assignment.l0] at h
 | k + 1 => by
  have ih0 := table_assignment.mono_l k
  ·intro y0 y1 y2 y3 y4
   unfold table_assignment.l0
   repeat' first
   | (with_reducible exact ih0 _ _ _ _ _)
   | (with_reducible exact LeO.refl _)
   | (with_reducible exact LeO.none _)
   | (with_reducible refine LeO.ite ?_ ?_)
   | (with_reducible refine LeO.bind ?_ (fun _ => ?_))
   | exact ih0 _ _ _ _ _
   | exact LeO.none _
   | refine LeO.ite ?_ ?_
   | refine LeO.bind ?_ (fun _ => ?_)
theorem table_assignment.mono : ∀ a0 a1 k, LeO (table_assignment.f k a0 a1) (table_assignment.f (k + 1) a0 a1) := by
 intro a0 a1 k
 have ih0 := table_assignment.mono_l k
 unfold table_assignment.f
 repeat' first
   | (with_reducible exact ih0 _ _ _ _ _)
   | (with_reducible exact LeO.refl _)
   | (with_reducible exact LeO.none _)
   | (with_reducible refine LeO.ite ?_ ?_)
   | (with_reducible refine LeO.bind ?_ (fun _ => ?_))
   | exact ih0 _ _ _ _ _
   | exact LeO.none _
   | refine LeO.ite ?_ ?_
   | refine LeO.bind ?_ (fun _ => ?_)
set_option maxHeartbeats 8000000 in
set_option maxRecDepth 100000 in
theorem table_assignment.calls (k : Nat) (A0 : Option Addr) (c0 : Nat) (l0 : List Int) (a1 : Int) (r : Int) (w : World) (hr0 : Kd.C (Kd.int .i64) w A0 l0.length l0) (hc0 : l0.length ≤ c0) (h : table_assignment.f k l0 a1 = some r) :
  Calls Try.prog 69 #[.slice A0 l0.length c0, .int .i64 a1] w fun e w' => e = .returned (.int .i64 r) ∧ Drawn0 w w' := by
 have hu3 := Try.underlying3
 have HR0 := Aside0.mk hr0
 have HC0 := Aside0.mk hc0
 clear hr0 hc0
 have H : (table_assignment.l0 k a1 0 l0 (l0.length : Int) 0) = some r := h
 clear h
 have H' := Aside0.mk H
 clear H
 go_enter Try.func69, Try.ntmps69
 go_wp2
 go_loopg [5, 10] k (fun kq v5 v10 w' => ∃ (x5_1 : Int) (x10_1 : Int), v5 = .int .i64 x5_1 ∧ v10 = .int .i64 x10_1 ∧ Aside0 (table_assignment.l0 kq a1 x5_1 l0 (l0.length : Int) x10_1 = some r) ∧ Aside0 (kq ≤ k) ∧ Drawn0 w w')
 case atStart => exact ⟨(0), (0), zT, zT, H', ⟨Nat.le_refl _⟩, by repeat (first | exact Drawn0.refl _ | apply Drawn0.step)⟩
 case round =>
  clear H'
  obtain ⟨x5_1, x10_1, rfl, rfl, HA, HK1, ⟨m1, rfl⟩⟩ := hrel
  cases gk with
  | zero => exact absurd HA.out (by simp [table_assignment.l0])
  | succ k1 =>
   have H := HA.out
   clear HA
   simp only [table_assignment.l0] at H
   by_cases c3 : x10_1 < (l0.length : Int)
   ·rw [if_pos c3] at H
    have c3b0 : decide (x10_1 < (l0.length : Int)) = true := decide_eq_true c3
    clear c3
    by_cases c4 : 0 ≤ x10_1
    ·rw [if_pos c4] at H
     have c4b0 : decide (0 ≤ x10_1) = true := decide_eq_true c4
     clear c4
     by_cases c5 : x10_1 < (l0.length : Int)
     ·rw [if_pos c5] at H
      have c5b0 : decide (x10_1 < (l0.length : Int)) = true := decide_eq_true c5
      clear c5
      have c6b0 := eq_true (of_decide_eq_true zh : 0 ≤ x10_1)
      obtain ⟨ji7, hji7⟩ : ∃ j_ : Int, (shr .i64 a1 x10_1) = j_ := ⟨_, rfl⟩
      replace H : (if 0 ≤ (rd l0 x10_1) then (table_assignment.l0 k1 a1 (Go.bits .or .i64 x5_1 (shl .i64 (Go.bits .and .i64 (ji7) 1) (rd l0 x10_1))) l0 (l0.length : Int) (wrap64 (x10_1 + 1))) else (none)) = some r := by first | (rw [hji7] at H; exact H) | (simp only [hji7] at H ⊢; exact H)
      have hji7_ : (a1 / 2 ^ min x10_1.toNat 64) = ji7 := hji7
      have hji7z : x10_1 ≤ 64 → (a1 / 2 ^ x10_1.toNat) = ji7 := shr_small hji7
      by_cases c8 : 0 ≤ (rd l0 x10_1)
      ·rw [if_pos c8] at H
       have c8b0 := eq_true c8
       have c8b1 : decide (0 ≤ (rd l0 x10_1)) = true := decide_eq_true c8
       clear c8
       obtain ⟨ji9, hji9⟩ : ∃ j_ : Int, (shl .i64 (Go.bits .and .i64 (ji7) 1) (rd l0 x10_1)) = j_ := ⟨_, rfl⟩
       replace H : (table_assignment.l0 k1 a1 (Go.bits .or .i64 x5_1 (ji9)) l0 (l0.length : Int) (wrap64 (x10_1 + 1))) = some r := by first | (rw [hji9] at H; exact H) | (simp only [hji9] at H ⊢; exact H)
       have hji9_ : (IntKind.i64.wrap ((Go.bits .and .i64 (ji7) 1) * 2 ^ min (rd l0 x10_1).toNat 64)) = ji9 := hji9
       have hji9z : (rd l0 x10_1) ≤ 64 → (IntKind.i64.wrap ((Go.bits .and .i64 (ji7) 1) * 2 ^ (rd l0 x10_1).toNat)) = ji9 := shl_small hji9
       have hji9y : (wrap64 ((Go.bits .and .i64 (ji7) 1) * 2 ^ min (rd l0 x10_1).toNat 64)) = ji9 := (i64_w _).symm.trans hji9_
       have hji9x : (rd l0 x10_1) ≤ 64 → (wrap64 ((Go.bits .and .i64 (ji7) 1) * 2 ^ (rd l0 x10_1).toNat)) = ji9 := fun h_ => (i64_w _).symm.trans (hji9z h_)
       have H' := Aside0.mk H
       clear H
       have p113 : 0 ≤ (x10_1 : Int) := of_decide_eq_true zh
       have q113 : x10_1 < (l0.length : Int) := of_decide_eq_true zh
       obtain ⟨ad113, e113, hx113_0⟩ := Kd.at_int HR0.out x10_1 p113 q113
       cases e113
       replace p113 := eq_true p113
       replace q113 := eq_true q113
       go_wp2
       go_roundg k1
       case measure => have := HK1.out; omega
       case rel => exact ⟨(Go.bits .or .i64 x5_1 (ji9)), (wrap64 (x10_1 + 1)), (by first | rfl | (simp; done) | (simp only [← hji9] <;> (first | rfl | simp)) | (simp [*]; done)), zT, H', ⟨by have := HK1.out; omega⟩, by repeat (first | exact Drawn0.refl _ | apply Drawn0.step)⟩
      ·rw [if_neg c8] at H
       exact absurd H (by simp)
     ·rw [if_neg c5] at H
      exact absurd H (by simp)
    ·rw [if_neg c4] at H
     exact absurd H (by simp)
   ·rw [if_neg c3] at H
    have c3b0 : decide (x10_1 < (l0.length : Int)) = false := decide_eq_false c3
    clear c3
    obtain rfl := Option.some.inj H
    go_wp2
    go_ret
    exact ⟨by first | rfl | (simp; done) | (simp [*]; done), by repeat (first | exact Drawn0.refl _ | apply Drawn0.step)⟩
/-! ### cmp_isNaN_int: function 96 -/
def cmp_isNaN_int.f (a0 : Int) : Option (Bool) := some (a0 != a0)
set_option maxHeartbeats 8000000 in
set_option maxRecDepth 100000 in
theorem cmp_isNaN_int.calls (a0 : Int) (r : Bool) (w : World) (h : cmp_isNaN_int.f a0 = some r) :
  Calls Try.prog 96 #[.int .i64 a0] w fun e w' => e = .returned (.bool r) ∧ Drawn0 w w' := by
 have H : (some (a0 != a0)) = some r := h
 clear h
 obtain rfl := Option.some.inj H
 go_enter Try.func96, Try.ntmps96
 go_wp2
 go_ret
 exact ⟨by first | rfl | (simp; done) | (simp [*]; done), by repeat (first | exact Drawn0.refl _ | apply Drawn0.step)⟩
/-! ### cmp_Less_int: function 83 -/
def cmp_Less_int.f (a0 : Int) (a1 : Int) : Option (Bool) := (cmp_isNaN_int.f a0).bind fun t114 => (if t114 = true then ((cmp_isNaN_int.f a1).bind fun t115 => (if t115 = true then (some (decide (a0 < a1))) else (some true))) else (some (decide (a0 < a1))))
set_option maxHeartbeats 8000000 in
set_option maxRecDepth 100000 in
theorem cmp_Less_int.calls (a0 : Int) (a1 : Int) (r : Bool) (w : World) (h : cmp_Less_int.f a0 a1 = some r) :
  Calls Try.prog 83 #[.int .i64 a0, .int .i64 a1] w fun e w' => e = .returned (.bool r) ∧ Drawn0 w w' := by
 have H : ((cmp_isNaN_int.f a0).bind fun t114 => (if t114 = true then ((cmp_isNaN_int.f a1).bind fun t115 => (if t115 = true then (some (decide (a0 < a1))) else (some true))) else (some (decide (a0 < a1))))) = some r := h
 clear h
 replace H := Option.bind_eq_some_iff.mp H
 obtain ⟨t114, A30, H⟩ := H
 replace H : (if t114 = true then ((cmp_isNaN_int.f a1).bind fun t115 => (if t115 = true then (some (decide (a0 < a1))) else (some true))) else (some (decide (a0 < a1)))) = some r := H
 have A3 := Aside0.mk A30
 clear A30
 by_cases c4 : t114 = true
 ·subst c4
  have H1 : ((cmp_isNaN_int.f a1).bind fun t115 => (if t115 = true then (some (decide (a0 < a1))) else (some true))) = some r := by rw [if_pos rfl] at H; exact H
  clear H
  have H := H1
  clear H1
  replace H := Option.bind_eq_some_iff.mp H
  obtain ⟨t115, A50, H⟩ := H
  replace H : (if t115 = true then (some (decide (a0 < a1))) else (some true)) = some r := H
  have A5 := Aside0.mk A50
  clear A50
  by_cases c6 : t115 = true
  ·subst c6
   have H1 : (some (decide (a0 < a1))) = some r := by rw [if_pos rfl] at H; exact H
   clear H
   have H := H1
   clear H1
   obtain rfl := Option.some.inj H
   go_enter Try.func83, Try.ntmps83
   go_wp2_with (first | ((with_reducible refine gate_callee (f := 96) rfl ?_); refine goesL_ (some 6) rfl rfl Try.func96 zK rfl #[.int .i64 a0] rfl zM ?_; (with_reducible refine (cmp_isNaN_int.calls a0 true _ A3.out).mono ?_); rintro e w' ⟨rfl, ⟨nd, rfl⟩⟩; refine ⟨_, rfl, ?_⟩) | (go_at_call 96; (with_reducible refine (cmp_isNaN_int.calls a1 true _ A5.out).mono ?_); rintro e w' ⟨rfl, ⟨nd, rfl⟩⟩))
   go_ret
   exact ⟨by first | rfl | (simp; done) | (simp [*]; done), by repeat (first | exact Drawn0.refl _ | apply Drawn0.step)⟩
  ·replace c6 := Bool.eq_false_iff.mpr c6
   subst c6
   have H1 : (some true) = some r := by rw [if_neg (show ¬ (false = true) by decide)] at H; exact H
   clear H
   have H := H1
   clear H1
   obtain rfl := Option.some.inj H
   go_enter Try.func83, Try.ntmps83
   go_wp2_with (first | ((with_reducible refine gate_callee (f := 96) rfl ?_); refine goesL_ (some 6) rfl rfl Try.func96 zK rfl #[.int .i64 a0] rfl zM ?_; (with_reducible refine (cmp_isNaN_int.calls a0 true _ A3.out).mono ?_); rintro e w' ⟨rfl, ⟨nd, rfl⟩⟩; refine ⟨_, rfl, ?_⟩) | (go_at_call 96; (with_reducible refine (cmp_isNaN_int.calls a1 false _ A5.out).mono ?_); rintro e w' ⟨rfl, ⟨nd, rfl⟩⟩))
   go_ret
   exact ⟨by first | rfl | (simp; done) | (simp [*]; done), by repeat (first | exact Drawn0.refl _ | apply Drawn0.step)⟩
 ·replace c4 := Bool.eq_false_iff.mpr c4
  subst c4
  have H1 : (some (decide (a0 < a1))) = some r := by rw [if_neg (show ¬ (false = true) by decide)] at H; exact H
  clear H
  have H := H1
  clear H1
  obtain rfl := Option.some.inj H
  go_enter Try.func83, Try.ntmps83
  go_wp2_with (first | ((with_reducible refine gate_callee (f := 96) rfl ?_); refine goesL_ (some 6) rfl rfl Try.func96 zK rfl #[.int .i64 a0] rfl zM ?_; (with_reducible refine (cmp_isNaN_int.calls a0 false _ A3.out).mono ?_); rintro e w' ⟨rfl, ⟨nd, rfl⟩⟩; refine ⟨_, rfl, ?_⟩))
  go_ret
  exact ⟨by first | rfl | (simp; done) | (simp [*]; done), by repeat (first | exact Drawn0.refl _ | apply Drawn0.step)⟩
/-! ### slices_Sort_int_int: function 70 -/
section
open Go.Sort Go.Shelf
def slices_Sort_int_int.f (l0 : List Int) : Option (List Int) := if l0.length < 4611686018427387904 then some (l0.mergeSort fun x y => decide (x ≤ y)) else none
theorem slices_Sort_int_int.calls (P0_ : Nat → Prop) (u9000_ : Value) (l0 : List Int) (r : List Int) (w0 w : World) (hB : Below w0.heap.size w0 w) (ho0 : Kd.R (Kd.int .i64) 3 w w0.heap.size P0_ u9000_ l0) (h : slices_Sort_int_int.f l0 = some r) :
 Calls Try.prog 70 #[u9000_] w fun e w' => e = .returned (.tuple #[]) ∧ Kd.R (Kd.int .i64) 3 w' w0.heap.size (fun k_ => (P0_ k_ ∨ w.heap.size ≤ k_)) u9000_ r ∧ Below w0.heap.size w0 w' ∧ Kept w w' (fun k_ => P0_ k_) := by
 unfold slices_Sort_int_int.f at h
 by_cases hsz : l0.length < 4611686018427387904
 case neg => rw [if_neg hsz] at h; exact absurd h (by simp)
 rw [if_pos hsz] at h
 obtain rfl := Option.some.inj h
 obtain ⟨A, c, rfl⟩ := Kd.R_slice ho0
 rcases A with _ | ad
 ·have hl : l0 = [] := by
   rcases l0 with _ | ⟨x, xs⟩
   ·rfl
   ·have ho := Kd.own_of_R (enc := Value.int .i64) (h1 := fun _ => rfl) ho0
    rcases ho.2 with ⟨_, h0⟩ | ⟨_, _, _, h0, _⟩
    ·simp at h0
    ·simp at h0
  subst hl
  refine (Any.slices_Sort_int_none laysSort none c w).mono ?_
  rintro e w' ⟨rfl, rfl⟩
  exact ⟨rfl, by rw [List.mergeSort_nil]; exact Kd.R_mono ho0 (fun k hk => .inl hk), hB, Kept.refl _ _⟩
 ·have had : ∃ g, ad = ⟨g, 0, none⟩ := by
   have ho := Kd.own_of_R (enc := Value.int .i64) (h1 := fun _ => rfl) ho0
   rcases ho.2 with ⟨h0, _⟩ | ⟨g, _, _, h0, _⟩
   ·simp at h0
   ·injection h0 with h0; injection h0 with h0; exact ⟨g, h0⟩
  obtain ⟨g, rfl⟩ := had
  obtain ⟨h1, h2, h3, h4, h5, h6, h7⟩ := int_row ho0
  refine (Any.slices_Sort_int laysSort g 0 c l0 w h7 h3 hsz).mono ?_
  rintro e w' ⟨rfl, n, os, rfl⟩
  have hl : (l0.mergeSort fun x y => decide (x ≤ y)).length = l0.length := List.length_mergeSort l0
  have hr := int_row_put (ok' := fun k_ => (P0_ k_ ∨ w.heap.size ≤ k_)) ho0 n os hl (Nat.le_refl _) (.inl h1)
  rw [List.take_of_length_le (by omega)] at hr
  exact ⟨rfl, hr, put_below hB h2 n os _, put_kept (ok := fun k_ => P0_ k_) n os _ h1⟩
end
/-! ### slices_Compact_int_int: function 71 -/
section
open Go.Sort Go.Shelf
def slices_Compact_int_int.f (l0 : List Int) : Option (List Int) := some (Lib.compact l0)
theorem slices_Compact_int_int.calls (P0_ : Nat → Prop) (u9000_ : Value) (l0 : List Int) (r : List Int) (w0 w : World) (hB : Below w0.heap.size w0 w) (ho0 : Kd.R (Kd.int .i64) 3 w w0.heap.size P0_ u9000_ l0) (h : slices_Compact_int_int.f l0 = some r) :
 Calls Try.prog 71 #[u9000_] w fun e w' => ∃ v0_ : Value, e = .returned (v0_) ∧ Kd.R (Kd.int .i64) 3 w' w0.heap.size (fun k_ => (P0_ k_ ∨ w.heap.size ≤ k_)) v0_ r ∧ Below w0.heap.size w0 w' ∧ Kept w w' (fun k_ => P0_ k_) := by
 obtain rfl := Option.some.inj h
 obtain ⟨A, c, rfl⟩ := Kd.R_slice ho0
 rcases A with _ | ad
 ·have hl : l0 = [] := by
   rcases l0 with _ | ⟨x, xs⟩
   ·rfl
   ·have ho := Kd.own_of_R (enc := Value.int .i64) (h1 := fun _ => rfl) ho0
    rcases ho.2 with ⟨_, h0⟩ | ⟨_, _, _, h0, _⟩
    ·simp at h0
    ·simp at h0
  subst hl
  refine (Any.slices_Compact_int_empty laysCompact none c w).mono ?_
  rintro e w' ⟨rfl, rfl⟩
  exact ⟨_, rfl, Kd.R_mono ho0 (fun k hk => .inl hk), hB, Kept.refl _ _⟩
 ·have had : ∃ g, ad = ⟨g, 0, none⟩ := by
   have ho := Kd.own_of_R (enc := Value.int .i64) (h1 := fun _ => rfl) ho0
   rcases ho.2 with ⟨h0, _⟩ | ⟨g, _, _, h0, _⟩
   ·simp at h0
   ·injection h0 with h0; injection h0 with h0; exact ⟨g, h0⟩
  obtain ⟨g, rfl⟩ := had
  obtain ⟨h1, h2, h3, h4, h5, h6, h7⟩ := int_row ho0
  have hle := Lib.compact_length_le l0
  refine (Any.slices_Compact_int laysCompact g 0 c l0 w h7 (by unfold maxLen at h6; omega) h5).mono ?_
  rintro e w' ⟨rfl, q, rfl⟩
  have hr := int_row_put (ok' := fun k_ => (P0_ k_ ∨ w.heap.size ≤ k_)) (ys := Lib.compact l0 ++ List.replicate (l0.length - (Lib.compact l0).length) 0) ho0 q #[] (by simp; omega) hle (.inl h1)
  rw [List.take_left, grow_empty] at hr
  have hb := put_below hB h2 q #[] (Lib.compact l0 ++ List.replicate (l0.length - (Lib.compact l0).length) 0).toArray
  have hk := put_kept (ok := fun k_ => P0_ k_) (w := w) q #[] (Lib.compact l0 ++ List.replicate (l0.length - (Lib.compact l0).length) 0).toArray h1
  rw [grow_empty] at hb hk
  exact ⟨_, rfl, hr, hb, hk⟩
end
/-! ### slices_Grow_int_int: function 85 -/
section
open Go.Sort Go.Shelf
def slices_Grow_int_int.f (l0 : List Int) (a1 : Int) : Option (List Int) := if 0 ≤ a1 then (if l0.length + (a1 : Int).toNat ≤ 17592186044416 then some l0 else none) else none
theorem slices_Grow_int_int.calls (P0_ : Nat → Prop) (u9000_ : Value) (l0 : List Int) (a1 : Int) (r : List Int) (w0 w : World) (hB : Below w0.heap.size w0 w) (ho0 : Kd.R (Kd.int .i64) 3 w w0.heap.size P0_ u9000_ l0) (h : slices_Grow_int_int.f l0 a1 = some r) :
 Calls Try.prog 85 #[u9000_, .int .i64 a1] w fun e w' => ∃ v0_ : Value, e = .returned (v0_) ∧ Kd.R (Kd.int .i64) 3 w' w0.heap.size (fun k_ => (P0_ k_ ∨ w.heap.size ≤ k_)) v0_ r ∧ Below w0.heap.size w0 w' ∧ Kept w w' (fun k_ => P0_ k_) := by
 unfold slices_Grow_int_int.f at h
 by_cases h0 : 0 ≤ a1
 ·rw [if_pos h0] at h
  by_cases h1 : l0.length + (a1 : Int).toNat ≤ 17592186044416
  ·rw [if_pos h1] at h
   obtain rfl := Option.some.inj h
   obtain ⟨n, rfl⟩ : ∃ n : Nat, a1 = (n : Int) := ⟨a1.toNat, by omega⟩
   rw [Int.toNat_natCast] at h1
   obtain ⟨A, c, rfl⟩ := Kd.R_slice ho0
   have ho := Kd.own_of_R (enc := Value.int .i64) (h1 := fun _ => rfl) ho0
   have hlc : l0.length ≤ c ∧ c ≤ maxLen := by
    rcases ho.2 with ⟨e1, e2⟩ | ⟨g, cap, cur, e1, _, _, e2, e3, _⟩
    ·injection e1 with _ _ e3
     subst e3
     exact ⟨by omega, by unfold maxLen; omega⟩
    ·injection e1 with _ _ e4
     subst e4
     exact ⟨e2, e3⟩
   have hm := hlc.2
   unfold maxLen at hm
   by_cases hroom : l0.length + n ≤ c
   ·refine (Any8.slices_Grow_room laysGrow A l0.length c n w hlc.1 (by omega) (by omega) hroom).mono ?_
    rintro e w' ⟨rfl, rfl⟩
    exact ⟨_, rfl, Kd.R_mono ho0 (fun k hk => .inl hk), hB, Kept.refl _ _⟩
   ·obtain ⟨cs, hcl, hnil, hcs, htk⟩ : ∃ cs : List Value, cs.length = c ∧ (A = none → c = 0) ∧ (∀ a, A = some a → ∀ j v, cs[j]? = some v → w.cell? (a.add j) = some v) ∧ cs.take l0.length = l0.map (Value.int .i64) := by
     rcases ho.2 with ⟨e1, e2⟩ | ⟨g, cap, cur, e1, _, hg, e2, e3, e4, e5⟩
     ·injection e1 with e1 e4 e3
      subst e1 e3
      have hl : l0 = [] := List.eq_nil_of_length_eq_zero e2
      subst hl
      exact ⟨[], rfl, fun _ => rfl, fun a ha => by simp at ha, rfl⟩
     ·injection e1 with e1 _ e6
      subst e1 e6
      refine ⟨cur.toList, by simpa using e4, fun h => by simp at h, fun a ha j v hv => ?_, by simpa [encs] using e5⟩
      obtain rfl := Option.some.inj ha
      have hadd : (⟨g, 0, none⟩ : Addr).add j = ⟨g, j, none⟩ := by
       unfold Addr.add
       split
       ·rename_i hj; rw [hj]
       ·simp
      rw [hadd]
      exact (blk_cell hg j).trans (by simpa using hv)
    have hi0 := info3
    obtain ⟨i0, hi, hz, hs, hby⟩ := info_parts hi0
    refine (Any8.slices_Grow_grow laysGrow i0 (.int .i64 0) hi hz (by omega) A l0.length c n cs w hlc.1 (by omega) (by rw [hby]; omega) (by omega) (by rw [hcl, hs, Nat.mul_one]) hnil hcs).mono ?_
    rintro e w' ⟨rfl, rfl⟩
    have hgc := grownCap_ge w (l0.length + n) c (laysGrow_ren.t 25)
    have hgm := grownCap_le_maxLen w (l0.length + n) c (laysGrow_ren.t 25) (by unfold maxLen; omega)
    have hlt : l0.length ≤ cs.length := by omega
    refine ⟨_, rfl, Kd.R_of_own (enc := Value.int .i64) (h1 := fun _ => rfl) ⟨by simp [encs], .inr ⟨w.heap.size, _, _, rfl, hB.size, blk_new w.drew _, by omega, hgm, ?_, ?_⟩⟩ (fun k hk => ?_), (hB.drew).alloc hB.size _, ((Kept.refl w _).drew).alloc _⟩
    ·simp only [Array.size_append, List.size_toArray, size_zeroCells]
     show cs.length + (l0.length + n - c) * 1 + (grownCap w (l0.length + n) c (laysGrow_ren.t 25) - (l0.length + n)) * 1 = _
     omega
    ·simp only [Array.toList_append, Nat.mul_one]
     rw [List.append_assoc, List.take_append_of_le_length hlt, htk]
     rfl
    ·simp [Value.ownBlock] at hk
     exact .inr (by omega)
  ·rw [if_neg h1] at h; exact absurd h (by simp)
 ·rw [if_neg h0] at h; exact absurd h (by simp)
end
/-! ### slices_Concat_int_int: function 79 -/
mutual
def slices_Concat_int_int.l0 : Nat → List (List Int) → Int → List (List Int) → Int → Int → Option (List Int)
 | 0, _, _, _, _, _ => none
 | k + 1, x0, x3, x9, x10, x11 => if x11 < x10 then (if 0 ≤ x11 then (if x11 < (x9.length : Int) then (if (wrap64 (x3 + ((rd_L1 x9 x11).length : Int))) < 0 then (none) else (slices_Concat_int_int.l0 k x0 (wrap64 (x3 + ((rd_L1 x9 x11).length : Int))) x9 x10 (wrap64 (x11 + 1)))) else (none)) else (none)) else ((slices_Grow_int_int.f ([] : List Int) x3).bind fun t237 => (slices_Concat_int_int.l1 k t237 x0 (x0.length : Int) 0))
def slices_Concat_int_int.l1 : Nat → List Int → List (List Int) → Int → Int → Option (List Int)
 | 0, _, _, _, _ => none
 | k + 1, x6, x25, x26, x27 => if x27 < x26 then (if 0 ≤ x27 then (if x27 < (x25.length : Int) then (if x6.length + (rd_L1 x25 x27).length < 17592186044416 then (slices_Concat_int_int.l1 k (x6 ++ (rd_L1 x25 x27)) x25 x26 (wrap64 (x27 + 1))) else (none)) else (none)) else (none)) else (some x6)
end
def slices_Concat_int_int.f (k : Nat) (l0 : List (List Int)) : Option (List Int) := slices_Concat_int_int.l0 k l0 0 l0 (l0.length : Int) 0
theorem slices_Concat_int_int.mono_l : ∀ k, (∀ y0 y1 y2 y3 y4, LeO (slices_Concat_int_int.l0 k y0 y1 y2 y3 y4) (slices_Concat_int_int.l0 (k + 1) y0 y1 y2 y3 y4)) ∧ (∀ y0 y1 y2 y3, LeO (slices_Concat_int_int.l1 k y0 y1 y2 y3) (slices_Concat_int_int.l1 (k + 1) y0 y1 y2 y3))
 | 0 => ⟨fun _ _ _ _ _ r h => by simp [slices_Concat_int_int.l0] at h, fun _ _ _ _ r h => by simp [slices_Concat_int_int.l1] at h⟩
 | k + 1 => by
  obtain ⟨ih0, ih1⟩ := slices_Concat_int_int.mono_l k
  refine ⟨?_, ?_⟩
  ·intro y0 y1 y2 y3 y4
   unfold slices_Concat_int_int.l0
   repeat' first
   | (with_reducible exact ih0 _ _ _ _ _)
   | (with_reducible exact ih1 _ _ _ _)
   | (with_reducible exact LeO.refl _)
   | (with_reducible exact LeO.none _)
   | (with_reducible refine LeO.ite ?_ ?_)
   | (with_reducible refine LeO.bind ?_ (fun _ => ?_))
   | exact ih0 _ _ _ _ _
   | exact ih1 _ _ _ _
   | exact LeO.none _
   | refine LeO.ite ?_ ?_
   | refine LeO.bind ?_ (fun _ => ?_)
  ·intro y0 y1 y2 y3
   unfold slices_Concat_int_int.l1
   repeat' first
   | (with_reducible exact ih0 _ _ _ _ _)
   | (with_reducible exact ih1 _ _ _ _)
   | (with_reducible exact LeO.refl _)
   | (with_reducible exact LeO.none _)
   | (with_reducible refine LeO.ite ?_ ?_)
   | (with_reducible refine LeO.bind ?_ (fun _ => ?_))
   | exact ih0 _ _ _ _ _
   | exact ih1 _ _ _ _
   | exact LeO.none _
   | refine LeO.ite ?_ ?_
   | refine LeO.bind ?_ (fun _ => ?_)
theorem slices_Concat_int_int.mono : ∀ a0 k, LeO (slices_Concat_int_int.f k a0) (slices_Concat_int_int.f (k + 1) a0) := by
 intro a0 k
 obtain ⟨ih0, ih1⟩ := slices_Concat_int_int.mono_l k
 unfold slices_Concat_int_int.f
 repeat' first
   | (with_reducible exact ih0 _ _ _ _ _)
   | (with_reducible exact ih1 _ _ _ _)
   | (with_reducible exact LeO.refl _)
   | (with_reducible exact LeO.none _)
   | (with_reducible refine LeO.ite ?_ ?_)
   | (with_reducible refine LeO.bind ?_ (fun _ => ?_))
   | exact ih0 _ _ _ _ _
   | exact ih1 _ _ _ _
   | exact LeO.none _
   | refine LeO.ite ?_ ?_
   | refine LeO.bind ?_ (fun _ => ?_)
set_option maxHeartbeats 8000000 in
set_option maxRecDepth 100000 in
theorem slices_Concat_int_int.calls (k : Nat) (A0 : Option Addr) (c0 : Nat) (l0 : List (List Int)) (r : List Int) (w : World) (hr0 : Kd.C (Kd.slice 3 (Kd.int .i64)) w A0 l0.length l0) (hc0 : l0.length ≤ c0) (h : slices_Concat_int_int.f k l0 = some r) :
  Calls Try.prog 79 #[.slice A0 l0.length c0] w fun e w' => ∃ v0_ : Value, e = .returned (v0_) ∧ Kd.R (Kd.int .i64) 3 w' w.heap.size (fun _ => True) v0_ r ∧ Below w.heap.size w w' := by
 have hu27 := Try.underlying27
 have HR0 := Aside0.mk hr0
 have HC0 := Aside0.mk hc0
 clear hr0 hc0
 have HB := Aside0.mk (Below.refl w.heap.size w)
 have H : (slices_Concat_int_int.l0 k l0 0 l0 (l0.length : Int) 0) = some r := h
 clear h
 have H' := Aside0.mk H
 clear H
 go_enter Try.func79, Try.ntmps79
 go_wp2
 go_loopg [3, 11] k (fun kq v3 v11 w' => ∃ (x3_1 : Int) (x11_1 : Int), v3 = .int .i64 x3_1 ∧ v11 = .int .i64 x11_1 ∧ Aside0 (slices_Concat_int_int.l0 kq l0 x3_1 l0 (l0.length : Int) x11_1 = some r) ∧ Aside0 (kq ≤ k) ∧ Aside0 (Below w.heap.size w w'))
 case atStart => exact ⟨(0), (0), zT, zT, H', ⟨Nat.le_refl _⟩, ⟨by repeat (first | (with_reducible first | exact HB.out | apply below_alloc | apply pw_below_drewN | apply below_drew1) | exact HB.out)⟩⟩
 case round =>
  clear H'
  obtain ⟨x3_1, x11_1, rfl, rfl, HA, HK1, HB⟩ := hrel
  cases gk with
  | zero => exact absurd HA.out (by simp [slices_Concat_int_int.l0])
  | succ k1 =>
   have H := HA.out
   clear HA
   simp only [slices_Concat_int_int.l0] at H
   by_cases c2 : x11_1 < (l0.length : Int)
   ·rw [if_pos c2] at H
    have c2b0 : decide (x11_1 < (l0.length : Int)) = true := decide_eq_true c2
    clear c2
    by_cases c3 : 0 ≤ x11_1
    ·rw [if_pos c3] at H
     have c3b0 : decide (0 ≤ x11_1) = true := decide_eq_true c3
     clear c3
     by_cases c4 : x11_1 < (l0.length : Int)
     ·rw [if_pos c4] at H
      have c4b0 : decide (x11_1 < (l0.length : Int)) = true := decide_eq_true c4
      clear c4
      by_cases c5 : (wrap64 (x3_1 + ((rd_L1 l0 x11_1).length : Int))) < 0
      ·rw [if_pos c5] at H
       exact absurd H (by simp)
      ·rw [if_neg c5] at H
       have c5b0 : decide ((wrap64 (x3_1 + ((rd_L1 l0 x11_1).length : Int))) < 0) = false := decide_eq_false c5
       clear c5
       have H' := Aside0.mk H
       clear H
       have p236 : 0 ≤ (x11_1 : Int) := of_decide_eq_true zh
       have q236 : x11_1 < (l0.length : Int) := of_decide_eq_true zh
       obtain ⟨ad236, A236_0, c236_0, e236, hx236_0, hl236_0, hi236_0⟩ := at_L1 HR0.out x11_1 p236 q236
       cases e236
       replace hx236_0 := (HB.out.cell (World.block_lt_of_cell? w _ hx236_0)).trans hx236_0
       have HR236_0 := Aside0.mk hi236_0
       have HC236_0 := Aside0.mk hl236_0
       clear hi236_0 hl236_0
       replace p236 := eq_true p236
       replace q236 := eq_true q236
       go_wp2
       go_roundg k1
       case measure => have := HK1.out; omega
       case rel => exact ⟨(wrap64 (x3_1 + ((rd_L1 l0 x11_1).length : Int))), (wrap64 (x11_1 + 1)), zT, zT, H', ⟨by have := HK1.out; omega⟩, ⟨by repeat (first | (with_reducible first | exact HB.out | apply below_alloc | apply pw_below_drewN | apply below_drew1) | exact HB.out)⟩⟩
     ·rw [if_neg c4] at H
      exact absurd H (by simp)
    ·rw [if_neg c3] at H
     exact absurd H (by simp)
   ·rw [if_neg c2] at H
    have c2b0 : decide (x11_1 < (l0.length : Int)) = false := decide_eq_false c2
    clear c2
    replace H := Option.bind_eq_some_iff.mp H
    obtain ⟨t237, A60, H⟩ := H
    replace H : (slices_Concat_int_int.l1 k1 t237 l0 (l0.length : Int) 0) = some r := H
    have A6 := Aside0.mk A60
    clear A60
    have H' := Aside0.mk H
    clear H
    go_wp2_with (first | ((with_reducible refine gate_callee (f := 85) rfl ?_); refine goesL_ (some 24) rfl rfl Try.func85 zK rfl #[.slice none 0 0, .int .i64 x3_1] rfl zM ?_; (refine (slices_Grow_int_int.calls (fun k_ => some k_ = (.slice none 0 0 : Value).ownBlock) (.slice none 0 0) ([] : List Int) x3_1 t237 w _ ?side1 ?side2 A6.out).mono ?_); (case side1 => repeat (first | (with_reducible first | exact HB.out | apply below_alloc | apply pw_below_drewN | apply below_drew1) | exact HB.out)); (case side2 => exact Kd.R_nil _ _ _ _ _); rintro e w7 ⟨v238, rfl, ho0, hb, hkp⟩; refine ⟨_, rfl, ?_⟩; have n0_ := Aside0.mk (Kd.R_mono (ok' := fun k_ => True) ho0 (fun k_ hk_ => trivial)); have n1_ := Aside0.mk (hb); clear HB; have HO239 := n0_; have HB := n1_; clear n0_ n1_; (try clear hb); (try clear hkp); (try clear ho0)))
    go_loopg [6, 27] k1 (fun kq v6 v27 w' => ∃ (x6_2 : List Int) (x27_2 : Int), v27 = .int .i64 x27_2 ∧ Aside0 (slices_Concat_int_int.l1 kq x6_2 l0 (l0.length : Int) x27_2 = some r) ∧ Aside0 (kq ≤ k1) ∧ Aside0 (Kd.R (Kd.int .i64) 3 w' w.heap.size (fun _ => True) v6 x6_2) ∧ Aside0 (Below w.heap.size w w'))
    case atStart => exact ⟨(t237), (0), zT, H', ⟨Nat.le_refl _⟩, ⟨by (with_reducible repeat (first | apply Kd.R_alloc | apply Kd.R_drewN | apply Kd.R_drew)); exact HO239.out⟩, ⟨by repeat (first | (with_reducible first | exact HB.out | apply below_alloc | apply pw_below_drewN | apply below_drew1) | exact HB.out)⟩⟩
    case round =>
     clear H'
     try clear c2
     try clear c2b0
     obtain ⟨x6_2, x27_2, rfl, HA, HK2, HO_6, HB⟩ := hrel
     cases gk with
     | zero => exact absurd HA.out (by simp [slices_Concat_int_int.l1])
     | succ k2 =>
      have H := HA.out
      clear HA
      simp only [slices_Concat_int_int.l1] at H
      by_cases c8 : x27_2 < (l0.length : Int)
      ·rw [if_pos c8] at H
       have c8b0 : decide (x27_2 < (l0.length : Int)) = true := decide_eq_true c8
       clear c8
       by_cases c9 : 0 ≤ x27_2
       ·rw [if_pos c9] at H
        have c9b0 : decide (0 ≤ x27_2) = true := decide_eq_true c9
        clear c9
        by_cases c10 : x27_2 < (l0.length : Int)
        ·rw [if_pos c10] at H
         have c10b0 : decide (x27_2 < (l0.length : Int)) = true := decide_eq_true c10
         clear c10
         by_cases c11 : x6_2.length + (rd_L1 l0 x27_2).length < 17592186044416
         ·rw [if_pos c11] at H
          have LMc11 := Aside0.mk c11
          clear c11
          obtain ⟨y241, hy241⟩ : ∃ y_ : List Int, y_ = (x6_2 ++ (rd_L1 l0 x27_2)) := ⟨_, rfl⟩
          replace H : (slices_Concat_int_int.l1 k2 y241 l0 (l0.length : Int) (wrap64 (x27_2 + 1))) = some r := by first | (rw [hy241]; with_reducible exact H) | (have H2_ := (Option.bind_some _ _).symm.trans H; rw [hy241]; with_reducible exact H2_) | (have H2_ := (Option.bind_some _ _).symm.trans H; with_reducible exact H2_) | with_reducible exact H | (rw [hy241]; exact H) | exact H
          have Ny241 := Aside0.mk hy241
          clear hy241
          have H' := Aside0.mk H
          clear H
          have p240 : 0 ≤ (x27_2 : Int) := of_decide_eq_true zh
          have q240 : x27_2 < (l0.length : Int) := of_decide_eq_true zh
          obtain ⟨ad240, A240_0, c240_0, e240, hx240_0, hl240_0, hi240_0⟩ := at_L1 HR0.out x27_2 p240 q240
          cases e240
          replace hx240_0 := (HB.out.cell (World.block_lt_of_cell? w _ hx240_0)).trans hx240_0
          have HR240_0 := Aside0.mk hi240_0
          have HC240_0 := Aside0.mk hl240_0
          clear hi240_0 hl240_0
          replace p240 := eq_true p240
          replace q240 := eq_true q240
          go_wp2_with (first | ((with_reducible refine gate_builtin (b := .append) (xs := #[.tmp 31, .tmp 32]) rfl ?_); at_builtin; refine Kd.R_append_rows (Kd.int .i64) (w0 := w) w.heap.size rfl (.tmp 31) (.tmp 32) 27 3 (.int .i64 0) 8 rfl Try.underlying27 info3 rfl (by decide) (by omega) u6 x6_2 (rd_L1 l0 x27_2) _ _ _ (fun _ => True) (fun _ => False) rfl rfl ?aO ?aR (fun _ _ h => h) (fun _ h => h.elim) ?aF ?aB ?aS ?aL ?_; (case aR => repeat (first | exact (Kd.C_below HR240_0.out HB.out) | (with_reducible refine Kd.C_alloc ?_ _) | (with_reducible refine Kd.C_drewN ?_ _) | (with_reducible refine Kd.C_drew ?_))); (case aB => exact zB); (case aF => exact (fun _ _ => trivial)); (case aO => exact (zR HO_6)); (case aS => exact (below_size zB)); (case aL => have := LMc11.out; omega); intro v242 w12 ho hb hg hat; rw [← Ny241.out] at ho; have n0_ := Aside0.mk (hb); have n1_ := Aside0.mk (ho); clear HB; clear HO_6; have HB := n0_; have HO243 := n1_; clear n0_ n1_; clear ho hb hg hat))
          go_roundg k2
          case measure => have := HK1.out; have := HK2.out; omega
          case rel => exact ⟨(y241), (wrap64 (x27_2 + 1)), zT, H', ⟨by have := HK1.out; have := HK2.out; omega⟩, ⟨by (with_reducible repeat (first | apply Kd.R_alloc | apply Kd.R_drewN | apply Kd.R_drew)); exact HO243.out⟩, ⟨by repeat (first | (with_reducible first | exact HB.out | apply below_alloc | apply pw_below_drewN | apply below_drew1) | exact HB.out)⟩⟩
         ·rw [if_neg c11] at H
          exact absurd H (by simp)
        ·rw [if_neg c10] at H
         exact absurd H (by simp)
       ·rw [if_neg c9] at H
        exact absurd H (by simp)
      ·rw [if_neg c8] at H
       have c8b0 : decide (x27_2 < (l0.length : Int)) = false := decide_eq_false c8
       clear c8
       obtain rfl := Option.some.inj H
       go_wp2
       go_ret
       exact ⟨_, by first | rfl | (simp [errW_none, errW_some] <;> rfl) | (simp [*, errW_none, errW_some] <;> rfl), by (with_reducible repeat (first | apply Kd.R_alloc | apply Kd.R_drewN | apply Kd.R_drew)); exact HO_6.out, by repeat (first | (with_reducible first | exact HB.out | apply below_alloc | apply pw_below_drewN | apply below_drew1) | exact HB.out)⟩
/-! ### table_all: function 64 -/
def table_all.f (k : Nat) (l0 : List Int) (l1 : List Int) : Option (List Int) := (slices_Concat_int_int.f k (([l0, l1] : List (List Int)))).bind fun t247 => ((slices_Sort_int_int.f t247).bind fun t250 => ((slices_Compact_int_int.f t250).bind fun t251 => (some t251)))
theorem table_all.mono : ∀ a0 a1 k, LeO (table_all.f k a0 a1) (table_all.f (k + 1) a0 a1) := by
 intro a0 a1 k
 unfold table_all.f
 repeat' first
   | (with_reducible exact slices_Concat_int_int.mono _ _)
   | (with_reducible exact LeO.refl _)
   | (with_reducible exact LeO.none _)
   | (with_reducible refine LeO.ite ?_ ?_)
   | (with_reducible refine LeO.bind ?_ (fun _ => ?_))
   | exact slices_Concat_int_int.mono _ _
   | exact LeO.none _
   | refine LeO.ite ?_ ?_
   | refine LeO.bind ?_ (fun _ => ?_)
set_option maxHeartbeats 8000000 in
set_option maxRecDepth 100000 in
theorem table_all.calls (k : Nat) (P0_ : Nat → Prop) (A0 : Option Addr) (c0 : Nat) (l0 : List Int) (P1_ : Nat → Prop) (A1 : Option Addr) (c1 : Nat) (l1 : List Int) (r : List Int) (w : World) (hs0 : Kd.V (Kd.int .i64) 3 w w.heap.size (fun k_ => P0_ k_) (.slice A0 l0.length c0) l0) (hs1 : Kd.V (Kd.int .i64) 3 w w.heap.size (fun k_ => P1_ k_) (.slice A1 l1.length c1) l1) (h : table_all.f k l0 l1 = some r) :
  Calls Try.prog 64 #[.slice A0 l0.length c0, .slice A1 l1.length c1] w fun e w' => ∃ v0_ : Value, e = .returned (v0_) ∧ Kd.R (Kd.int .i64) 3 w' w.heap.size (fun k_ => (w.heap.size ≤ k_)) v0_ r ∧ Below w.heap.size w w' := by
 have HO0 := Aside0.mk (show Kd.V (Kd.int .i64) 3 w w.heap.size (fun k_ => ((P0_ k_ ∨ P1_ k_) ∨ w.heap.size ≤ k_)) (.slice A0 l0.length c0) l0 from Kd.V_mono hs0 (fun k_ hk => .inl (.inl hk)))
 have HO1 := Aside0.mk (show Kd.V (Kd.int .i64) 3 w w.heap.size (fun k_ => ((P0_ k_ ∨ P1_ k_) ∨ w.heap.size ≤ k_)) (.slice A1 l1.length c1) l1 from Kd.V_mono hs1 (fun k_ hk => .inl (.inr hk)))
 have HB := Aside0.mk (Below.refl w.heap.size w)
 have H : ((slices_Concat_int_int.f k (([l0, l1] : List (List Int)))).bind fun t247 => ((slices_Sort_int_int.f t247).bind fun t250 => ((slices_Compact_int_int.f t250).bind fun t251 => (some t251)))) = some r := h
 clear h
 obtain ⟨y244, hy244⟩ : ∃ y_ : List (List Int), y_ = (([l0, l1] : List (List Int))) := ⟨_, rfl⟩
 replace H : ((slices_Concat_int_int.f k y244).bind fun t247 => ((slices_Sort_int_int.f t247).bind fun t250 => ((slices_Compact_int_int.f t250).bind fun t251 => (some t251)))) = some r := by first | (rw [hy244]; with_reducible exact H) | (have H2_ := (Option.bind_some _ _).symm.trans H; rw [hy244]; with_reducible exact H2_) | (have H2_ := (Option.bind_some _ _).symm.trans H; with_reducible exact H2_) | with_reducible exact H | (rw [hy244]; exact H) | exact H
 have Ny244 := Aside0.mk hy244
 clear hy244
 replace H := Option.bind_eq_some_iff.mp H
 obtain ⟨t247, A30, H⟩ := H
 replace H : ((slices_Sort_int_int.f t247).bind fun t250 => ((slices_Compact_int_int.f t250).bind fun t251 => (some t251))) = some r := H
 have A3 := Aside0.mk A30
 clear A30
 replace H := Option.bind_eq_some_iff.mp H
 obtain ⟨t250, A40, H⟩ := H
 replace H : ((slices_Compact_int_int.f t250).bind fun t251 => (some t251)) = some r := H
 have A4 := Aside0.mk A40
 clear A40
 replace H := Option.bind_eq_some_iff.mp H
 obtain ⟨t251, A50, H⟩ := H
 replace H : (some t251) = some r := H
 have A5 := Aside0.mk A50
 clear A50
 obtain rfl := Option.some.inj H
 go_enter Try.func64, Try.ntmps64
 go_wp2_with (first | ((with_reducible refine gate_dst (N := 8) rfl ?_); refine Kd.N_lit (Kd.slice 3 (Kd.int .i64)) _ 27 ?hg (N' := 8) ?hd (xs := ([l0, l1] : List (List Int))) (inner := [.slice A0 l0.length c0, .slice A1 l1.length c1]) (ok := (fun k_ => ((P0_ k_ ∨ P1_ k_) ∨ w.heap.size ≤ k_))) (okp := (fun k_ => ((P0_ k_ ∨ P1_ k_) ∨ w.heap.size ≤ k_))) ?hr ?hp (fun _ hk => hk) ((show ∀ k_, w.heap.size ≤ k_ → (fun k_ => ((P0_ k_ ∨ P1_ k_) ∨ w.heap.size ≤ k_)) k_ from fun k_ hk => (.inr (Nat.le_trans (below_size zB) hk))) _ (Nat.le_refl _)) (Below.refl _ _) (Nat.le_refl _) (by simp) ?_; (case hd => rfl); (case hg => rfl); (case hr => first | (go_simp; done) | (go_simp; rfl)); (case hp => exact (Reps.one (show Kd.FK (Kd.slice 3 (Kd.int .i64)) _ _ l0 [.slice A0 l0.length c0] from (Kd.FK_slice_mk (Kd.V_reads' (Kd.V_mono (ok' := (fun k_ => ((P0_ k_ ∨ P1_ k_) ∨ w.heap.size ≤ k_))) (HO0.out) (fun k_ hk => hk))).2.1 (Kd.V_F (Kd.V_mono (ok' := (fun k_ => ((P0_ k_ ∨ P1_ k_) ∨ w.heap.size ≤ k_))) (HO0.out) (fun k_ hk => hk))))) (Reps.one (show Kd.FK (Kd.slice 3 (Kd.int .i64)) _ _ l1 [.slice A1 l1.length c1] from (Kd.FK_slice_mk (Kd.V_reads' (Kd.V_mono (ok' := (fun k_ => ((P0_ k_ ∨ P1_ k_) ∨ w.heap.size ≤ k_))) (HO1.out) (fun k_ hk => hk))).2.1 (Kd.V_F (Kd.V_mono (ok' := (fun k_ => ((P0_ k_ ∨ P1_ k_) ∨ w.heap.size ≤ k_))) (HO1.out) (fun k_ hk => hk))))) (Reps.none _ _)))); intro v245 w6 ho7 hb hg_ hnew_; clear hg_ hnew_; (first | rw [← Ny244.out] at ho7 | (simp only [Int.reduceToNat] at ho7; rw [← Ny244.out] at ho7)); have n0_ := Aside0.mk (Kd.V_elder' (zV HO0) (Kd.N_base ho7) hb); have n1_ := Aside0.mk (Kd.V_elder' (zV HO1) (Kd.N_base ho7) hb); have n2_ := Aside0.mk (Kd.N_lower ho7 (below_size zB)); have n3_ := Aside0.mk (below_step zB hb); clear HO0; clear HO1; clear HB; have HO0 := n0_; have HO1 := n1_; have HO246 := n2_; have HB := n3_; clear n0_ n1_ n2_ n3_; clear hb ho7; obtain ⟨Ao8, co8, eo8⟩ := Kd.N_slice HO246.out; subst eo8) | ((with_reducible refine gate_callee (f := 79) rfl ?_); refine goesL_ (some 9) rfl rfl Try.func79 zK rfl #[.slice Ao8 y244.length co8] rfl zM ?_; (with_reducible refine (slices_Concat_int_int.calls k _ _ y244 t247 _ ?side1 ?side2 A3.out).mono ?_); (case side1 => repeat (first | exact (Kd.N_reads' HO246.out).2.2 | (with_reducible refine Kd.C_alloc ?_ _) | (with_reducible refine Kd.C_drewN ?_ _) | (with_reducible refine Kd.C_drew ?_))); (case side2 => exact (Kd.N_reads' HO246.out).2.1); rintro e w9 ⟨v248, rfl, ho0, hb⟩; refine ⟨_, rfl, ?_⟩; have n0_ := Aside0.mk (Kd.V_elder' (zV HO0) (Kd.R_base ho0) hb); have n1_ := Aside0.mk (Kd.V_elder' (zV HO1) (Kd.R_base ho0) hb); have n2_ := Aside0.mk (Kd.N_elder' (zN HO246) (Kd.R_base ho0) hb); have n3_ := Aside0.mk (Kd.R_lower (Kd.R_newM (M := fun k_ => (w.heap.size ≤ k_)) ho0 (below_size zB) (fun k_ h_ => h_)) (below_size zB)); have n4_ := Aside0.mk (below_step zB hb); clear HO0; clear HO1; clear HO246; clear HB; have HO0 := n0_; have HO1 := n1_; have HO246 := n2_; have HO249 := n3_; have HB := n4_; clear n0_ n1_ n2_ n3_ n4_; (try clear hb); (try clear hb2); (try clear hk); (try clear hi); (try clear ho0); obtain ⟨Ao10, co10, eo10⟩ := Kd.R_slice HO249.out; subst eo10) | ((with_reducible refine gate_callee (f := 70) rfl ?_); refine goesL_ (some 11) rfl rfl Try.func70 zK rfl #[.slice Ao10 t247.length co10] rfl zM ?_; (with_reducible refine (slices_Sort_int_int.calls (fun k_ => some k_ = (.slice Ao10 t247.length co10 : Value).ownBlock) (.slice Ao10 t247.length co10) t247 t250 w _ ?side1 ?side2 A4.out).mono ?_); (case side1 => repeat (first | (with_reducible first | exact HB.out | apply below_alloc | apply pw_below_drewN | apply below_drew1) | exact HB.out)); (case side2 => exact Kd.R_tight rfl HO249.out); rintro e w11 ⟨rfl, hy0, hb, hkp⟩; refine ⟨_, rfl, ?_⟩; have n0_ := Aside0.mk (Kd.V_mono (ok' := fun k_ => ((P0_ k_ ∨ P1_ k_) ∨ w.heap.size ≤ k_) ∧ some k_ ≠ (.slice Ao8 y244.length co8 : Value).ownBlock ∧ some k_ ≠ (.slice Ao10 t247.length co10 : Value).ownBlock) (Kd.V_keptB (HO0.out) hkp (fun k_ hk_ hs_ => (hk_.2) hs_)) (fun k_ hk_ => ⟨hk_.1.1.1, hk_.1.1.2, hk_.1.2⟩)); have n1_ := Aside0.mk (Kd.V_mono (ok' := fun k_ => ((P0_ k_ ∨ P1_ k_) ∨ w.heap.size ≤ k_) ∧ some k_ ≠ (.slice Ao8 y244.length co8 : Value).ownBlock ∧ some k_ ≠ (.slice Ao10 t247.length co10 : Value).ownBlock) (Kd.V_keptB (HO1.out) hkp (fun k_ hk_ hs_ => (hk_.2) hs_)) (fun k_ hk_ => ⟨hk_.1.1.1, hk_.1.1.2, hk_.1.2⟩)); have n2_ := Aside0.mk (Kd.N_mono (ok' := fun k_ => ((P0_ k_ ∨ P1_ k_) ∨ w.heap.size ≤ k_) ∧ some k_ ≠ (.slice Ao10 t247.length co10 : Value).ownBlock) (Kd.N_keptB (HO246.out) hkp (fun k_ hk_ hs_ => (hk_.2) hs_)) (fun k_ hk_ => ⟨hk_.1.1, hk_.1.2⟩)); have n3_ := Aside0.mk (Kd.R_reok rfl hy0 (fun k_ e_ => HO249.out.1 k_ e_)); have n4_ := Aside0.mk (hb); clear HO0; clear HO1; clear HO246; clear HO249; clear HB; have HO0 := n0_; have HO1 := n1_; have HO246 := n2_; have HO249 := n3_; have HB := n4_; clear n0_ n1_ n2_ n3_ n4_; (try clear hb); (try clear hkp); (try clear hy0)) | ((with_reducible refine gate_callee (f := 71) rfl ?_); refine goesL_ (some 13) rfl rfl Try.func71 zK rfl #[.slice Ao10 t247.length co10] rfl zM ?_; (with_reducible refine (slices_Compact_int_int.calls (fun k_ => some k_ = (.slice Ao10 t247.length co10 : Value).ownBlock) (.slice Ao10 t247.length co10) t250 t251 w _ ?side1 ?side2 A5.out).mono ?_); (case side1 => repeat (first | (with_reducible first | exact HB.out | apply below_alloc | apply pw_below_drewN | apply below_drew1) | exact HB.out)); (case side2 => exact Kd.R_tight rfl HO249.out); rintro e w12 ⟨v252, rfl, ho0, hb, hkp⟩; refine ⟨_, rfl, ?_⟩; have n0_ := Aside0.mk (Kd.V_mono (ok' := fun k_ => ((P0_ k_ ∨ P1_ k_) ∨ w.heap.size ≤ k_) ∧ some k_ ≠ (.slice Ao8 y244.length co8 : Value).ownBlock ∧ some k_ ≠ (v252 : Value).ownBlock) (Kd.V_keptB (HO0.out) hkp (fun k_ hk_ hs_ => (hk_.2.2) hs_)) (fun k_ hk_ => ⟨hk_.1.1, hk_.1.2.1, fun e_ => Or.elim (ho0.1 k_ e_.symm) (fun hs_ => hk_.2.1 hs_) (fun hn_ => Nat.not_le.2 hk_.2.2 hn_)⟩)); have n1_ := Aside0.mk (Kd.V_mono (ok' := fun k_ => ((P0_ k_ ∨ P1_ k_) ∨ w.heap.size ≤ k_) ∧ some k_ ≠ (.slice Ao8 y244.length co8 : Value).ownBlock ∧ some k_ ≠ (v252 : Value).ownBlock) (Kd.V_keptB (HO1.out) hkp (fun k_ hk_ hs_ => (hk_.2.2) hs_)) (fun k_ hk_ => ⟨hk_.1.1, hk_.1.2.1, fun e_ => Or.elim (ho0.1 k_ e_.symm) (fun hs_ => hk_.2.1 hs_) (fun hn_ => Nat.not_le.2 hk_.2.2 hn_)⟩)); have n2_ := Aside0.mk (Kd.N_mono (ok' := fun k_ => ((P0_ k_ ∨ P1_ k_) ∨ w.heap.size ≤ k_) ∧ some k_ ≠ (v252 : Value).ownBlock) (Kd.N_keptB (HO246.out) hkp (fun k_ hk_ hs_ => (hk_.2) hs_)) (fun k_ hk_ => ⟨hk_.1.1, fun e_ => Or.elim (ho0.1 k_ e_.symm) (fun hs_ => hk_.2.1 hs_) (fun hn_ => Nat.not_le.2 hk_.2.2 hn_)⟩)); have n3_ := Aside0.mk (Kd.R_mono (ok' := fun k_ => (w.heap.size ≤ k_)) ho0 (fun k_ hk_ => Or.elim hk_ (fun hs_ => (HO249.out.1 k_ (hs_).symm).1) (fun hn_ => (Nat.le_trans (below_size zB) hn_)))); have n4_ := Aside0.mk (hb); clear HO0; clear HO1; clear HO246; clear HB; clear HO249; have HO0 := n0_; have HO1 := n1_; have HO246 := n2_; have HO253 := n3_; have HB := n4_; clear n0_ n1_ n2_ n3_ n4_; (try clear hb); (try clear hkp); (try clear ho0)))
 go_ret
 exact ⟨_, by first | rfl | (simp [errW_none, errW_some] <;> rfl) | (simp [*, errW_none, errW_some] <;> rfl), by (with_reducible repeat (first | apply Kd.R_alloc | apply Kd.R_drewN | apply Kd.R_drew)); exact HO253.out, by repeat (first | (with_reducible first | exact HB.out | apply below_alloc | apply pw_below_drewN | apply below_drew1) | exact HB.out)⟩
/-! ### table_row: function 68 -/
def table_row.l0 : Nat → Int → Int → List Int → Int → Int → Option (Int)
 | 0, _, _, _, _, _ => none
 | k + 1, x1, x5, x8, x9, x10 => if x10 < x9 then (if 0 ≤ x10 then (if x10 < (x8.length : Int) then (if 0 ≤ (rd x8 x10) then (table_row.l0 k x1 (Go.bits .or .i64 x5 (shl .i64 (Go.bits .and .i64 (shr .i64 x1 (rd x8 x10)) 1) x10)) x8 x9 (wrap64 (x10 + 1))) else (none)) else (none)) else (none)) else (some x5)
def table_row.f (k : Nat) (l0 : List Int) (a1 : Int) : Option (Int) := table_row.l0 k a1 0 l0 (l0.length : Int) 0
theorem table_row.mono_l : ∀ k, (∀ y0 y1 y2 y3 y4, LeO (table_row.l0 k y0 y1 y2 y3 y4) (table_row.l0 (k + 1) y0 y1 y2 y3 y4))
 | 0 => fun _ _ _ _ _ r h => by simp [table_row.l0] at h
 | k + 1 => by
  have ih0 := table_row.mono_l k
  ·intro y0 y1 y2 y3 y4
   unfold table_row.l0
   repeat' first
   | (with_reducible exact ih0 _ _ _ _ _)
   | (with_reducible exact LeO.refl _)
   | (with_reducible exact LeO.none _)
   | (with_reducible refine LeO.ite ?_ ?_)
   | (with_reducible refine LeO.bind ?_ (fun _ => ?_))
   | exact ih0 _ _ _ _ _
   | exact LeO.none _
   | refine LeO.ite ?_ ?_
   | refine LeO.bind ?_ (fun _ => ?_)
theorem table_row.mono : ∀ a0 a1 k, LeO (table_row.f k a0 a1) (table_row.f (k + 1) a0 a1) := by
 intro a0 a1 k
 have ih0 := table_row.mono_l k
 unfold table_row.f
 repeat' first
   | (with_reducible exact ih0 _ _ _ _ _)
   | (with_reducible exact LeO.refl _)
   | (with_reducible exact LeO.none _)
   | (with_reducible refine LeO.ite ?_ ?_)
   | (with_reducible refine LeO.bind ?_ (fun _ => ?_))
   | exact ih0 _ _ _ _ _
   | exact LeO.none _
   | refine LeO.ite ?_ ?_
   | refine LeO.bind ?_ (fun _ => ?_)
set_option maxHeartbeats 8000000 in
set_option maxRecDepth 100000 in
theorem table_row.calls (k : Nat) (A0 : Option Addr) (c0 : Nat) (l0 : List Int) (a1 : Int) (r : Int) (w : World) (hr0 : Kd.C (Kd.int .i64) w A0 l0.length l0) (hc0 : l0.length ≤ c0) (h : table_row.f k l0 a1 = some r) :
  Calls Try.prog 68 #[.slice A0 l0.length c0, .int .i64 a1] w fun e w' => e = .returned (.int .i64 r) ∧ Drawn0 w w' := by
 have hu3 := Try.underlying3
 have HR0 := Aside0.mk hr0
 have HC0 := Aside0.mk hc0
 clear hr0 hc0
 have H : (table_row.l0 k a1 0 l0 (l0.length : Int) 0) = some r := h
 clear h
 have H' := Aside0.mk H
 clear H
 go_enter Try.func68, Try.ntmps68
 go_wp2
 go_loopg [5, 10] k (fun kq v5 v10 w' => ∃ (x5_1 : Int) (x10_1 : Int), v5 = .int .i64 x5_1 ∧ v10 = .int .i64 x10_1 ∧ Aside0 (table_row.l0 kq a1 x5_1 l0 (l0.length : Int) x10_1 = some r) ∧ Aside0 (kq ≤ k) ∧ Drawn0 w w')
 case atStart => exact ⟨(0), (0), zT, zT, H', ⟨Nat.le_refl _⟩, by repeat (first | exact Drawn0.refl _ | apply Drawn0.step)⟩
 case round =>
  clear H'
  obtain ⟨x5_1, x10_1, rfl, rfl, HA, HK1, ⟨m1, rfl⟩⟩ := hrel
  cases gk with
  | zero => exact absurd HA.out (by simp [table_row.l0])
  | succ k1 =>
   have H := HA.out
   clear HA
   simp only [table_row.l0] at H
   by_cases c3 : x10_1 < (l0.length : Int)
   ·rw [if_pos c3] at H
    have c3b0 : decide (x10_1 < (l0.length : Int)) = true := decide_eq_true c3
    clear c3
    by_cases c4 : 0 ≤ x10_1
    ·rw [if_pos c4] at H
     have c4b0 : decide (0 ≤ x10_1) = true := decide_eq_true c4
     clear c4
     by_cases c5 : x10_1 < (l0.length : Int)
     ·rw [if_pos c5] at H
      have c5b0 : decide (x10_1 < (l0.length : Int)) = true := decide_eq_true c5
      clear c5
      by_cases c6 : 0 ≤ (rd l0 x10_1)
      ·rw [if_pos c6] at H
       have c6b0 := eq_true c6
       have c6b1 : decide (0 ≤ (rd l0 x10_1)) = true := decide_eq_true c6
       clear c6
       obtain ⟨ji7, hji7⟩ : ∃ j_ : Int, (shr .i64 a1 (rd l0 x10_1)) = j_ := ⟨_, rfl⟩
       replace H : (table_row.l0 k1 a1 (Go.bits .or .i64 x5_1 (shl .i64 (Go.bits .and .i64 (ji7) 1) x10_1)) l0 (l0.length : Int) (wrap64 (x10_1 + 1))) = some r := by first | (rw [hji7] at H; exact H) | (simp only [hji7] at H ⊢; exact H)
       have hji7_ : (a1 / 2 ^ min (rd l0 x10_1).toNat 64) = ji7 := hji7
       have hji7z : (rd l0 x10_1) ≤ 64 → (a1 / 2 ^ (rd l0 x10_1).toNat) = ji7 := shr_small hji7
       have c8b0 := eq_true (of_decide_eq_true zh : 0 ≤ x10_1)
       obtain ⟨ji9, hji9⟩ : ∃ j_ : Int, (shl .i64 (Go.bits .and .i64 (ji7) 1) x10_1) = j_ := ⟨_, rfl⟩
       replace H : (table_row.l0 k1 a1 (Go.bits .or .i64 x5_1 (ji9)) l0 (l0.length : Int) (wrap64 (x10_1 + 1))) = some r := by first | (rw [hji9] at H; exact H) | (simp only [hji9] at H ⊢; exact H)
       have hji9_ : (IntKind.i64.wrap ((Go.bits .and .i64 (ji7) 1) * 2 ^ min x10_1.toNat 64)) = ji9 := hji9
       have hji9z : x10_1 ≤ 64 → (IntKind.i64.wrap ((Go.bits .and .i64 (ji7) 1) * 2 ^ x10_1.toNat)) = ji9 := shl_small hji9
       have hji9y : (wrap64 ((Go.bits .and .i64 (ji7) 1) * 2 ^ min x10_1.toNat 64)) = ji9 := (i64_w _).symm.trans hji9_
       have hji9x : x10_1 ≤ 64 → (wrap64 ((Go.bits .and .i64 (ji7) 1) * 2 ^ x10_1.toNat)) = ji9 := fun h_ => (i64_w _).symm.trans (hji9z h_)
       have H' := Aside0.mk H
       clear H
       have p254 : 0 ≤ (x10_1 : Int) := of_decide_eq_true zh
       have q254 : x10_1 < (l0.length : Int) := of_decide_eq_true zh
       obtain ⟨ad254, e254, hx254_0⟩ := Kd.at_int HR0.out x10_1 p254 q254
       cases e254
       replace p254 := eq_true p254
       replace q254 := eq_true q254
       go_wp2
       go_roundg k1
       case measure => have := HK1.out; omega
       case rel => exact ⟨(Go.bits .or .i64 x5_1 (ji9)), (wrap64 (x10_1 + 1)), (by first | rfl | (simp; done) | (simp only [← hji9] <;> (first | rfl | simp)) | (simp [*]; done)), zT, H', ⟨by have := HK1.out; omega⟩, by repeat (first | exact Drawn0.refl _ | apply Drawn0.step)⟩
      ·rw [if_neg c6] at H
       exact absurd H (by simp)
     ·rw [if_neg c5] at H
      exact absurd H (by simp)
    ·rw [if_neg c4] at H
     exact absurd H (by simp)
   ·rw [if_neg c3] at H
    have c3b0 : decide (x10_1 < (l0.length : Int)) = false := decide_eq_false c3
    clear c3
    obtain rfl := Option.some.inj H
    go_wp2
    go_ret
    exact ⟨by first | rfl | (simp; done) | (simp [*]; done), by repeat (first | exact Drawn0.refl _ | apply Drawn0.step)⟩
/-! ### slices_isNaN_int: function 84 -/
def slices_isNaN_int.f (a0 : Int) : Option (Bool) := some (a0 != a0)
set_option maxHeartbeats 8000000 in
set_option maxRecDepth 100000 in
theorem slices_isNaN_int.calls (a0 : Int) (r : Bool) (w : World) (h : slices_isNaN_int.f a0 = some r) :
  Calls Try.prog 84 #[.int .i64 a0] w fun e w' => e = .returned (.bool r) ∧ Drawn0 w w' := by
 have H : (some (a0 != a0)) = some r := h
 clear h
 obtain rfl := Option.some.inj H
 go_enter Try.func84, Try.ntmps84
 go_wp2
 go_ret
 exact ⟨by first | rfl | (simp; done) | (simp [*]; done), by repeat (first | exact Drawn0.refl _ | apply Drawn0.step)⟩
/-! ### slices_BinarySearch_int_int: function 74 -/
def slices_BinarySearch_int_int.l0 : Nat → List Int → Int → Int → Int → Int → Option (Int × Bool)
 | 0, _, _, _, _, _ => none
 | k + 1, x0, x1, x6, x7, x8 => if x7 < x8 then (if 0 ≤ (wrap64 ((IntKind.u64.wrap (wrap64 (x7 + x8))) / 2)) then (if (wrap64 ((IntKind.u64.wrap (wrap64 (x7 + x8))) / 2)) < (x0.length : Int) then ((cmp_Less_int.f (rd x0 (wrap64 ((IntKind.u64.wrap (wrap64 (x7 + x8))) / 2))) x1).bind fun t256 => (if t256 = true then (slices_BinarySearch_int_int.l0 k x0 x1 x6 (wrap64 ((wrap64 ((IntKind.u64.wrap (wrap64 (x7 + x8))) / 2)) + 1)) x8) else (slices_BinarySearch_int_int.l0 k x0 x1 x6 x7 (wrap64 ((IntKind.u64.wrap (wrap64 (x7 + x8))) / 2))))) else (none)) else (none)) else (if x7 < x6 then (if 0 ≤ x7 then (if x7 < (x0.length : Int) then (if (rd x0 x7) = x1 then (some (x7, true)) else ((slices_isNaN_int.f (rd x0 x7)).bind fun t259 => (if t259 = true then ((slices_isNaN_int.f x1).bind fun t260 => (some (x7, t260))) else (some (x7, false))))) else (none)) else (none)) else (some (x7, false)))
def slices_BinarySearch_int_int.f (k : Nat) (l0 : List Int) (a1 : Int) : Option (Int × Bool) := slices_BinarySearch_int_int.l0 k l0 a1 (l0.length : Int) 0 (l0.length : Int)
theorem slices_BinarySearch_int_int.mono_l : ∀ k, (∀ y0 y1 y2 y3 y4, LeO (slices_BinarySearch_int_int.l0 k y0 y1 y2 y3 y4) (slices_BinarySearch_int_int.l0 (k + 1) y0 y1 y2 y3 y4))
 | 0 => fun _ _ _ _ _ r h => by simp [slices_BinarySearch_int_int.l0] at h
 | k + 1 => by
  have ih0 := slices_BinarySearch_int_int.mono_l k
  ·intro y0 y1 y2 y3 y4
   unfold slices_BinarySearch_int_int.l0
   repeat' first
   | (with_reducible exact ih0 _ _ _ _ _)
   | (with_reducible exact LeO.refl _)
   | (with_reducible exact LeO.none _)
   | (with_reducible refine LeO.ite ?_ ?_)
   | (with_reducible refine LeO.bind ?_ (fun _ => ?_))
   | exact ih0 _ _ _ _ _
   | exact LeO.none _
   | refine LeO.ite ?_ ?_
   | refine LeO.bind ?_ (fun _ => ?_)
theorem slices_BinarySearch_int_int.mono : ∀ a0 a1 k, LeO (slices_BinarySearch_int_int.f k a0 a1) (slices_BinarySearch_int_int.f (k + 1) a0 a1) := by
 intro a0 a1 k
 have ih0 := slices_BinarySearch_int_int.mono_l k
 unfold slices_BinarySearch_int_int.f
 repeat' first
   | (with_reducible exact ih0 _ _ _ _ _)
   | (with_reducible exact LeO.refl _)
   | (with_reducible exact LeO.none _)
   | (with_reducible refine LeO.ite ?_ ?_)
   | (with_reducible refine LeO.bind ?_ (fun _ => ?_))
   | exact ih0 _ _ _ _ _
   | exact LeO.none _
   | refine LeO.ite ?_ ?_
   | refine LeO.bind ?_ (fun _ => ?_)
set_option maxHeartbeats 8000000 in
set_option maxRecDepth 100000 in
theorem slices_BinarySearch_int_int.calls (k : Nat) (A0 : Option Addr) (c0 : Nat) (l0 : List Int) (a1 : Int) (r1 : Int) (r2 : Bool) (w : World) (hr0 : Kd.C (Kd.int .i64) w A0 l0.length l0) (hc0 : l0.length ≤ c0) (h : slices_BinarySearch_int_int.f k l0 a1 = some (r1, r2)) :
  Calls Try.prog 74 #[.slice A0 l0.length c0, .int .i64 a1] w fun e w' => e = .returned (.tuple #[.int .i64 r1, .bool r2]) ∧ Drawn0 w w' := by
 have hu3 := Try.underlying3
 have HR0 := Aside0.mk hr0
 have HC0 := Aside0.mk hc0
 clear hr0 hc0
 have H : (slices_BinarySearch_int_int.l0 k l0 a1 (l0.length : Int) 0 (l0.length : Int)) = some (r1, r2) := h
 clear h
 have H' := Aside0.mk H
 clear H
 go_enter Try.func74, Try.ntmps74
 go_wp2
 go_loopg [7, 8] k (fun kq v7 v8 w' => ∃ (x7_1 : Int) (x8_1 : Int), v7 = .int .i64 x7_1 ∧ v8 = .int .i64 x8_1 ∧ Aside0 (slices_BinarySearch_int_int.l0 kq l0 a1 (l0.length : Int) x7_1 x8_1 = some (r1, r2)) ∧ Aside0 (kq ≤ k) ∧ Drawn0 w w')
 case atStart => exact ⟨(0), ((l0.length : Int)), zT, zT, H', ⟨Nat.le_refl _⟩, by repeat (first | exact Drawn0.refl _ | apply Drawn0.step)⟩
 case round =>
  clear H'
  obtain ⟨x7_1, x8_1, rfl, rfl, HA, HK1, ⟨m1, rfl⟩⟩ := hrel
  cases gk with
  | zero => exact absurd HA.out (by simp [slices_BinarySearch_int_int.l0])
  | succ k1 =>
   have H := HA.out
   clear HA
   simp only [slices_BinarySearch_int_int.l0] at H
   by_cases c3 : x7_1 < x8_1
   ·rw [if_pos c3] at H
    have c3b0 : decide (x7_1 < x8_1) = true := decide_eq_true c3
    clear c3
    obtain ⟨ji4, hji4⟩ : ∃ j_ : Int, (wrap64 ((IntKind.u64.wrap (wrap64 (x7_1 + x8_1))) / 2)) = j_ := ⟨_, rfl⟩
    replace H : (if 0 ≤ (ji4) then (if (ji4) < (l0.length : Int) then ((cmp_Less_int.f (rd l0 (ji4)) a1).bind fun t256 => (if t256 = true then (slices_BinarySearch_int_int.l0 k1 l0 a1 (l0.length : Int) (wrap64 ((ji4) + 1)) x8_1) else (slices_BinarySearch_int_int.l0 k1 l0 a1 (l0.length : Int) x7_1 ji4))) else (none)) else (none)) = some (r1, r2) := by first | (rw [hji4] at H; exact H) | (simp only [hji4] at H ⊢; exact H)
    have hji4w : (IntKind.i64.wrap ((IntKind.u64.wrap (wrap64 (x7_1 + x8_1))) / 2)) = ji4 := (i64_w _).trans hji4
    by_cases c5 : 0 ≤ (ji4)
    ·rw [if_pos c5] at H
     have c5b0 : decide (0 ≤ (ji4)) = true := decide_eq_true c5
     clear c5
     by_cases c6 : (ji4) < (l0.length : Int)
     ·rw [if_pos c6] at H
      have c6b0 : decide ((ji4) < (l0.length : Int)) = true := decide_eq_true c6
      clear c6
      replace H := Option.bind_eq_some_iff.mp H
      obtain ⟨t256, A70, H⟩ := H
      replace H : (if t256 = true then (slices_BinarySearch_int_int.l0 k1 l0 a1 (l0.length : Int) (wrap64 ((ji4) + 1)) x8_1) else (slices_BinarySearch_int_int.l0 k1 l0 a1 (l0.length : Int) x7_1 ji4)) = some (r1, r2) := H
      have A7 := Aside0.mk A70
      clear A70
      have HC8 := Aside0.mk H
      clear H
      have p255 : 0 ≤ ((ji4) : Int) := of_decide_eq_true zh
      have q255 : (ji4) < (l0.length : Int) := of_decide_eq_true zh
      obtain ⟨ad255, e255, hx255_0⟩ := Kd.at_int HR0.out (ji4) p255 q255
      cases e255
      replace p255 := eq_true p255
      replace q255 := eq_true q255
      go_upto_if 27 with (first | ((with_reducible refine gate_callee (f := 83) rfl ?_); refine goesL_ (some 27) rfl rfl Try.func83 zK rfl #[.int .i64 (rd l0 (ji4)), .int .i64 a1] rfl (by (try simp only [List.map_toArray, List.map_cons, List.map_nil]); first | done | (simp only [hji4]; rfl) | rfl | (simp only [List.length_drop, List.length_take]; rfl)) ?_; (with_reducible refine (cmp_Less_int.calls (rd l0 (ji4)) a1 t256 _ A7.out).mono ?_); rintro e w' ⟨rfl, ⟨nd, rfl⟩⟩; refine ⟨_, rfl, ?_⟩))
      (try simp only [Act.put, List.setIfInBounds_toArray, List.set_cons_zero, List.set_cons_succ])
      have H := HC8.out
      clear HC8
      by_cases c9 : t256 = true
      ·subst c9
       have H1 : (slices_BinarySearch_int_int.l0 k1 l0 a1 (l0.length : Int) (wrap64 ((ji4) + 1)) x8_1) = some (r1, r2) := by rw [if_pos rfl] at H; exact H
       clear H
       have H := H1
       clear H1
       have H' := Aside0.mk H
       clear H
       go_wp2
       go_roundg k1
       case measure => have := HK1.out; omega
       case rel => exact ⟨(wrap64 ((ji4) + 1)), (x8_1), (by first | rfl | (simp; done) | (simp only [← hji4] <;> (first | rfl | simp)) | (simp [*]; done)), zT, H', ⟨by have := HK1.out; omega⟩, by repeat (first | exact Drawn0.refl _ | apply Drawn0.step)⟩
      ·replace c9 := Bool.eq_false_iff.mpr c9
       subst c9
       have H1 : (slices_BinarySearch_int_int.l0 k1 l0 a1 (l0.length : Int) x7_1 ji4) = some (r1, r2) := by rw [if_neg (show ¬ (false = true) by decide)] at H; exact H
       clear H
       have H := H1
       clear H1
       have H' := Aside0.mk H
       clear H
       go_wp2
       go_roundg k1
       case measure => have := HK1.out; omega
       case rel => exact ⟨(x7_1), (ji4), zT, (by first | rfl | (simp; done) | (simp only [← hji4] <;> (first | rfl | simp)) | (simp [*]; done)), H', ⟨by have := HK1.out; omega⟩, by repeat (first | exact Drawn0.refl _ | apply Drawn0.step)⟩
     ·rw [if_neg c6] at H
      exact absurd H (by simp)
    ·rw [if_neg c5] at H
     exact absurd H (by simp)
   ·rw [if_neg c3] at H
    have c3b0 : decide (x7_1 < x8_1) = false := decide_eq_false c3
    clear c3
    by_cases c10 : x7_1 < (l0.length : Int)
    ·rw [if_pos c10] at H
     have c10b0 : decide (x7_1 < (l0.length : Int)) = true := decide_eq_true c10
     clear c10
     by_cases c11 : 0 ≤ x7_1
     ·rw [if_pos c11] at H
      have c11b0 : decide (0 ≤ x7_1) = true := decide_eq_true c11
      clear c11
      by_cases c12 : x7_1 < (l0.length : Int)
      ·rw [if_pos c12] at H
       have c12b0 : decide (x7_1 < (l0.length : Int)) = true := decide_eq_true c12
       clear c12
       by_cases c13 : (rd l0 x7_1) = a1
       ·rw [if_pos c13] at H
        have c13b0 : ((rd l0 x7_1) == a1) = true := beq_iff_eq.mpr c13
        have c13b1 : ((rd l0 x7_1) != a1) = false := bne_eq_false_iff_eq.mpr c13
        clear c13
        simp only [Option.some.injEq, Prod.mk.injEq] at H
        obtain ⟨rfl, rfl⟩ := H
        have p257 : 0 ≤ (x7_1 : Int) := of_decide_eq_true zh
        have q257 : x7_1 < (l0.length : Int) := of_decide_eq_true zh
        obtain ⟨ad257, e257, hx257_0⟩ := Kd.at_int HR0.out x7_1 p257 q257
        cases e257
        replace p257 := eq_true p257
        replace q257 := eq_true q257
        go_wp2
        go_ret2
        exact ⟨by first | rfl | (simp; done) | (simp [*]; done), by repeat (first | exact Drawn0.refl _ | apply Drawn0.step)⟩
       ·rw [if_neg c13] at H
        have c13b0 : ((rd l0 x7_1) == a1) = false := beq_eq_false_iff_ne.mpr c13
        have c13b1 : ((rd l0 x7_1) != a1) = true := bne_iff_ne.mpr c13
        replace H := Option.bind_eq_some_iff.mp H
        obtain ⟨t259, A140, H⟩ := H
        replace H : (if t259 = true then ((slices_isNaN_int.f a1).bind fun t260 => (some (x7_1, t260))) else (some (x7_1, false))) = some (r1, r2) := H
        have A14 := Aside0.mk A140
        clear A140
        by_cases c15 : t259 = true
        ·subst c15
         have H1 : ((slices_isNaN_int.f a1).bind fun t260 => (some (x7_1, t260))) = some (r1, r2) := by rw [if_pos rfl] at H; exact H
         clear H
         have H := H1
         clear H1
         replace H := Option.bind_eq_some_iff.mp H
         obtain ⟨t260, A160, H⟩ := H
         replace H : (some (x7_1, t260)) = some (r1, r2) := H
         have A16 := Aside0.mk A160
         clear A160
         simp only [Option.some.injEq, Prod.mk.injEq] at H
         obtain ⟨rfl, rfl⟩ := H
         have p257 : 0 ≤ (x7_1 : Int) := of_decide_eq_true zh
         have q257 : x7_1 < (l0.length : Int) := of_decide_eq_true zh
         obtain ⟨ad257, e257, hx257_0⟩ := Kd.at_int HR0.out x7_1 p257 q257
         cases e257
         replace p257 := eq_true p257
         replace q257 := eq_true q257
         have p258 : 0 ≤ (x7_1 : Int) := of_decide_eq_true zh
         have q258 : x7_1 < (l0.length : Int) := of_decide_eq_true zh
         obtain ⟨ad258, e258, hx258_0⟩ := Kd.at_int HR0.out x7_1 p258 q258
         obtain rfl : ad257 = ad258 := (by injection e258)
         replace p258 := eq_true p258
         replace q258 := eq_true q258
         go_wp2_with (first | (go_at_call 84; (with_reducible refine (slices_isNaN_int.calls (rd l0 x7_1) true _ A14.out).mono ?_); rintro e w' ⟨rfl, ⟨nd, rfl⟩⟩) | (go_at_call 84; (with_reducible refine (slices_isNaN_int.calls a1 t260 _ A16.out).mono ?_); rintro e w' ⟨rfl, ⟨nd, rfl⟩⟩))
         go_ret2
         exact ⟨by first | rfl | (simp; done) | (simp [*]; done), by repeat (first | exact Drawn0.refl _ | apply Drawn0.step)⟩
        ·replace c15 := Bool.eq_false_iff.mpr c15
         subst c15
         have H1 : (some (x7_1, false)) = some (r1, r2) := by rw [if_neg (show ¬ (false = true) by decide)] at H; exact H
         clear H
         have H := H1
         clear H1
         simp only [Option.some.injEq, Prod.mk.injEq] at H
         obtain ⟨rfl, rfl⟩ := H
         have p257 : 0 ≤ (x7_1 : Int) := of_decide_eq_true zh
         have q257 : x7_1 < (l0.length : Int) := of_decide_eq_true zh
         obtain ⟨ad257, e257, hx257_0⟩ := Kd.at_int HR0.out x7_1 p257 q257
         cases e257
         replace p257 := eq_true p257
         replace q257 := eq_true q257
         have p258 : 0 ≤ (x7_1 : Int) := of_decide_eq_true zh
         have q258 : x7_1 < (l0.length : Int) := of_decide_eq_true zh
         obtain ⟨ad258, e258, hx258_0⟩ := Kd.at_int HR0.out x7_1 p258 q258
         obtain rfl : ad257 = ad258 := (by injection e258)
         replace p258 := eq_true p258
         replace q258 := eq_true q258
         go_wp2_with (first | (go_at_call 84; (with_reducible refine (slices_isNaN_int.calls (rd l0 x7_1) false _ A14.out).mono ?_); rintro e w' ⟨rfl, ⟨nd, rfl⟩⟩))
         go_ret2
         exact ⟨by first | rfl | (simp; done) | (simp [*]; done), by repeat (first | exact Drawn0.refl _ | apply Drawn0.step)⟩
      ·rw [if_neg c12] at H
       exact absurd H (by simp)
     ·rw [if_neg c11] at H
      exact absurd H (by simp)
    ·rw [if_neg c10] at H
     have c10b0 : decide (x7_1 < (l0.length : Int)) = false := decide_eq_false c10
     clear c10
     simp only [Option.some.injEq, Prod.mk.injEq] at H
     obtain ⟨rfl, rfl⟩ := H
     go_wp2
     go_ret2
     exact ⟨by first | rfl | (simp; done) | (simp [*]; done), by repeat (first | exact Drawn0.refl _ | apply Drawn0.step)⟩
/-! ### table_has: function 50 -/
def table_has.f (k : Nat) (l0_0 : List Int) (l0_1 : List Int) (a1 : Int) : Option (Bool) := (table_row.f k l0_0 a1).bind fun t262 => ((slices_BinarySearch_int_int.f k l0_1 t262).bind fun bt263 => (some bt263.2))
theorem table_has.mono : ∀ a0 a1 a2 k, LeO (table_has.f k a0 a1 a2) (table_has.f (k + 1) a0 a1 a2) := by
 intro a0 a1 a2 k
 unfold table_has.f
 repeat' first
   | (with_reducible exact slices_BinarySearch_int_int.mono _ _ _)
   | (with_reducible exact table_row.mono _ _ _)
   | (with_reducible exact LeO.refl _)
   | (with_reducible exact LeO.none _)
   | (with_reducible refine LeO.ite ?_ ?_)
   | (with_reducible refine LeO.bind ?_ (fun _ => ?_))
   | exact slices_BinarySearch_int_int.mono _ _ _
   | exact table_row.mono _ _ _
   | exact LeO.none _
   | refine LeO.ite ?_ ?_
   | refine LeO.bind ?_ (fun _ => ?_)
set_option maxHeartbeats 8000000 in
set_option maxRecDepth 100000 in
theorem table_has.calls (k : Nat) (A0_0 : Option Addr) (c0_0 : Nat) (l0_0 : List Int) (A0_1 : Option Addr) (c0_1 : Nat) (l0_1 : List Int) (a1 : Int) (r : Bool) (w : World) (hr0_0 : Kd.C (Kd.int .i64) w A0_0 l0_0.length l0_0) (hc0_0 : l0_0.length ≤ c0_0) (hr0_1 : Kd.C (Kd.int .i64) w A0_1 l0_1.length l0_1) (hc0_1 : l0_1.length ≤ c0_1) (h : table_has.f k l0_0 l0_1 a1 = some r) :
  Calls Try.prog 50 #[.agg #[.slice A0_0 l0_0.length c0_0, .slice A0_1 l0_1.length c0_1], .int .i64 a1] w fun e w' => e = .returned (.bool r) ∧ Below w.heap.size w w' := by
 have hu29 := Try.underlying29
 have hu27 := Try.underlying27
 have HR0_0 := Aside0.mk hr0_0
 have HC0_0 := Aside0.mk hc0_0
 clear hr0_0 hc0_0
 have HR0_1 := Aside0.mk hr0_1
 have HC0_1 := Aside0.mk hc0_1
 clear hr0_1 hc0_1
 have HB := Aside0.mk (Below.refl w.heap.size w)
 have H : ((table_row.f k l0_0 a1).bind fun t262 => ((slices_BinarySearch_int_int.f k l0_1 t262).bind fun bt263 => (some bt263.2))) = some r := h
 clear h
 replace H := Option.bind_eq_some_iff.mp H
 obtain ⟨t262, A30, H⟩ := H
 replace H : ((slices_BinarySearch_int_int.f k l0_1 t262).bind fun bt263 => (some bt263.2)) = some r := H
 have A3 := Aside0.mk A30
 clear A30
 replace H := Option.bind_eq_some_iff.mp H
 obtain ⟨⟨t263, t264⟩, A40, H⟩ := H
 replace H : (some t264) = some r := H
 have A4 := Aside0.mk A40
 clear A40
 obtain rfl := Option.some.inj H
 go_enter Try.func50, Try.ntmps50
 go_wp2_with (first | ((with_reducible refine gate_dst (N := 2) rfl ?_); refine box_event ?hg (N := 2) ?hd (cs := #[.slice A0_0 l0_0.length c0_0, .slice A0_1 l0_1.length c0_1]) (t := 29) ?hr ?_; (case hd => rfl); (case hg => rfl); (case hr => first | (go_simp; done) | (go_simp; rfl)); intro gb261 hg w5 hbox hb; have n0_ := Aside0.mk (below_step zB hb); have n1_ := Aside0.mk (hbox); have n2_ := Aside0.mk ((by rw [hg]; exact (below_size zB) : w.heap.size ≤ gb261)); have n3_ := Aside0.mk ((by rw [hg]; exact (below_size zB) : w.heap.size ≤ gb261)); clear HB; have HB := n0_; have BK261 := n1_; have GW261 := n2_; have GE261 := n3_; clear n0_ n1_ n2_ n3_; clear hb hbox hg; have hcz6_0 : w5.cell? ⟨gb261, 0, none⟩ = some (.slice A0_0 l0_0.length c0_0) := (blk_cell BK261.out 0).trans rfl; have hcz6_1 : w5.cell? ⟨gb261, 1, none⟩ = some (.slice A0_1 l0_1.length c0_1) := (blk_cell BK261.out 1).trans rfl; have hfz6_0 := blk_frozen BK261.out 0; have hfz6_1 := blk_frozen BK261.out 1) | (go_at_call 68; (with_reducible refine (table_row.calls k _ _ l0_0 a1 t262 _ ?side1 ?side2 A3.out).mono ?_); (case side1 => repeat (first | exact (Kd.C_below HR0_0.out HB.out) | (with_reducible refine Kd.C_alloc ?_ _) | (with_reducible refine Kd.C_drewN ?_ _) | (with_reducible refine Kd.C_drew ?_))); (case side2 => exact HC0_0.out); rintro e w' ⟨rfl, ⟨nd, rfl⟩⟩; (try first | exact ⟨rfl, _, World.drewN_drewN _ _ _⟩ | exact ⟨rfl, _, Eq.trans (World.drewN_drewN _ _ _) (congrArg (World.drewN _) (Nat.add_assoc _ _ _))⟩)) | (go_at_call 74; (with_reducible refine (slices_BinarySearch_int_int.calls k _ _ l0_1 t262 t263 t264 _ ?side1 ?side2 A4.out).mono ?_); (case side1 => repeat (first | exact (Kd.C_below HR0_1.out zB) | (with_reducible refine Kd.C_alloc ?_ _) | (with_reducible refine Kd.C_drewN ?_ _) | (with_reducible refine Kd.C_drew ?_))); (case side2 => exact HC0_1.out); rintro e w' ⟨rfl, ⟨nd, rfl⟩⟩; (try first | exact ⟨rfl, _, World.drewN_drewN _ _ _⟩ | exact ⟨rfl, _, Eq.trans (World.drewN_drewN _ _ _) (congrArg (World.drewN _) (Nat.add_assoc _ _ _))⟩)))
 repeat (go_quiet (first | ((with_reducible refine gate_dst (N := 2) rfl ?_); refine box_event ?hg (N := 2) ?hd (cs := #[.slice A0_0 l0_0.length c0_0, .slice A0_1 l0_1.length c0_1]) (t := 29) ?hr ?_; (case hd => rfl); (case hg => rfl); (case hr => first | (go_simp; done) | (go_simp; rfl)); intro gb261 hg w5 hbox hb; have n0_ := Aside0.mk (below_step zB hb); have n1_ := Aside0.mk (hbox); have n2_ := Aside0.mk ((by rw [hg]; exact (below_size zB) : w.heap.size ≤ gb261)); have n3_ := Aside0.mk ((by rw [hg]; exact (below_size zB) : w.heap.size ≤ gb261)); clear HB; have HB := n0_; have BK261 := n1_; have GW261 := n2_; have GE261 := n3_; clear n0_ n1_ n2_ n3_; clear hb hbox hg; have hcz6_0 : w5.cell? ⟨gb261, 0, none⟩ = some (.slice A0_0 l0_0.length c0_0) := (blk_cell BK261.out 0).trans rfl; have hcz6_1 : w5.cell? ⟨gb261, 1, none⟩ = some (.slice A0_1 l0_1.length c0_1) := (blk_cell BK261.out 1).trans rfl; have hfz6_0 := blk_frozen BK261.out 0; have hfz6_1 := blk_frozen BK261.out 1) | (go_at_call 68; (with_reducible refine (table_row.calls k _ _ l0_0 a1 t262 _ ?side1 ?side2 A3.out).mono ?_); (case side1 => repeat (first | exact (Kd.C_below HR0_0.out HB.out) | (with_reducible refine Kd.C_alloc ?_ _) | (with_reducible refine Kd.C_drewN ?_ _) | (with_reducible refine Kd.C_drew ?_))); (case side2 => exact HC0_0.out); rintro e w' ⟨rfl, ⟨nd, rfl⟩⟩; (try first | exact ⟨rfl, _, World.drewN_drewN _ _ _⟩ | exact ⟨rfl, _, Eq.trans (World.drewN_drewN _ _ _) (congrArg (World.drewN _) (Nat.add_assoc _ _ _))⟩)) | (go_at_call 74; (with_reducible refine (slices_BinarySearch_int_int.calls k _ _ l0_1 t262 t263 t264 _ ?side1 ?side2 A4.out).mono ?_); (case side1 => repeat (first | exact (Kd.C_below HR0_1.out zB) | (with_reducible refine Kd.C_alloc ?_ _) | (with_reducible refine Kd.C_drewN ?_ _) | (with_reducible refine Kd.C_drew ?_))); (case side2 => exact HC0_1.out); rintro e w' ⟨rfl, ⟨nd, rfl⟩⟩; (try first | exact ⟨rfl, _, World.drewN_drewN _ _ _⟩ | exact ⟨rfl, _, Eq.trans (World.drewN_drewN _ _ _) (congrArg (World.drewN _) (Nat.add_assoc _ _ _))⟩))); try go_wp2_with (first | ((with_reducible refine gate_dst (N := 2) rfl ?_); refine box_event ?hg (N := 2) ?hd (cs := #[.slice A0_0 l0_0.length c0_0, .slice A0_1 l0_1.length c0_1]) (t := 29) ?hr ?_; (case hd => rfl); (case hg => rfl); (case hr => first | (go_simp; done) | (go_simp; rfl)); intro gb261 hg w5 hbox hb; have n0_ := Aside0.mk (below_step zB hb); have n1_ := Aside0.mk (hbox); have n2_ := Aside0.mk ((by rw [hg]; exact (below_size zB) : w.heap.size ≤ gb261)); have n3_ := Aside0.mk ((by rw [hg]; exact (below_size zB) : w.heap.size ≤ gb261)); clear HB; have HB := n0_; have BK261 := n1_; have GW261 := n2_; have GE261 := n3_; clear n0_ n1_ n2_ n3_; clear hb hbox hg; have hcz6_0 : w5.cell? ⟨gb261, 0, none⟩ = some (.slice A0_0 l0_0.length c0_0) := (blk_cell BK261.out 0).trans rfl; have hcz6_1 : w5.cell? ⟨gb261, 1, none⟩ = some (.slice A0_1 l0_1.length c0_1) := (blk_cell BK261.out 1).trans rfl; have hfz6_0 := blk_frozen BK261.out 0; have hfz6_1 := blk_frozen BK261.out 1) | (go_at_call 68; (with_reducible refine (table_row.calls k _ _ l0_0 a1 t262 _ ?side1 ?side2 A3.out).mono ?_); (case side1 => repeat (first | exact (Kd.C_below HR0_0.out HB.out) | (with_reducible refine Kd.C_alloc ?_ _) | (with_reducible refine Kd.C_drewN ?_ _) | (with_reducible refine Kd.C_drew ?_))); (case side2 => exact HC0_0.out); rintro e w' ⟨rfl, ⟨nd, rfl⟩⟩; (try first | exact ⟨rfl, _, World.drewN_drewN _ _ _⟩ | exact ⟨rfl, _, Eq.trans (World.drewN_drewN _ _ _) (congrArg (World.drewN _) (Nat.add_assoc _ _ _))⟩)) | (go_at_call 74; (with_reducible refine (slices_BinarySearch_int_int.calls k _ _ l0_1 t262 t263 t264 _ ?side1 ?side2 A4.out).mono ?_); (case side1 => repeat (first | exact (Kd.C_below HR0_1.out zB) | (with_reducible refine Kd.C_alloc ?_ _) | (with_reducible refine Kd.C_drewN ?_ _) | (with_reducible refine Kd.C_drew ?_))); (case side2 => exact HC0_1.out); rintro e w' ⟨rfl, ⟨nd, rfl⟩⟩; (try first | exact ⟨rfl, _, World.drewN_drewN _ _ _⟩ | exact ⟨rfl, _, Eq.trans (World.drewN_drewN _ _ _) (congrArg (World.drewN _) (Nat.add_assoc _ _ _))⟩))))
 go_ret
 exact ⟨by first | rfl | (simp [errW_none, errW_some] <;> rfl) | (simp [*, errW_none, errW_some] <;> rfl), by repeat (first | (with_reducible first | exact HB.out | apply below_alloc | apply pw_below_drewN | apply below_drew1 | refine below_set ?_ GE261.out) | exact HB.out)⟩
/-! ### table_Join_1: function 47 -/
def table_Join_1.f (a0 : Bool) (a1 : Bool) : Option (Bool) := if a0 = true then (some a1) else (some false)
set_option maxHeartbeats 8000000 in
set_option maxRecDepth 100000 in
theorem table_Join_1.calls (a0 : Bool) (a1 : Bool) (r : Bool) (w : World) (h : table_Join_1.f a0 a1 = some r) :
  Calls Try.prog 47 #[.bool a0, .bool a1] w fun e w' => e = .returned (.bool r) ∧ Drawn0 w w' := by
 have H : (if a0 = true then (some a1) else (some false)) = some r := h
 clear h
 by_cases c3 : a0 = true
 ·subst c3
  have H1 : (some a1) = some r := by rw [if_pos rfl] at H; exact H
  clear H
  have H := H1
  clear H1
  obtain rfl := Option.some.inj H
  go_enter Try.func47, Try.ntmps47
  go_wp2
  go_ret
  exact ⟨by first | rfl | (simp; done) | (simp [*]; done), by repeat (first | exact Drawn0.refl _ | apply Drawn0.step)⟩
 ·replace c3 := Bool.eq_false_iff.mpr c3
  subst c3
  have H1 : (some false) = some r := by rw [if_neg (show ¬ (false = true) by decide)] at H; exact H
  clear H
  have H := H1
  clear H1
  obtain rfl := Option.some.inj H
  go_enter Try.func47, Try.ntmps47
  go_wp2
  go_ret
  exact ⟨by first | rfl | (simp; done) | (simp [*]; done), by repeat (first | exact Drawn0.refl _ | apply Drawn0.step)⟩
/-! ### table_combine_1_table_Join_1: function 1000073 -/
def table_combine_1_table_Join_1.f (k : Nat) (a0 : Int)  (l2_0 : List Int) (l2_1 : List Int) (l3_0 : List Int) (l3_1 : List Int) : Option (Bool) := (table_has.f k l2_0 l2_1 a0).bind fun t268 => ((table_has.f k l3_0 l3_1 a0).bind fun t269 => ((table_Join_1.f t268 t269).bind fun t270 => (some t270)))
theorem table_combine_1_table_Join_1.mono : ∀ a0 a1 a2 a3 a4 k, LeO (table_combine_1_table_Join_1.f k a0 a1 a2 a3 a4) (table_combine_1_table_Join_1.f (k + 1) a0 a1 a2 a3 a4) := by
 intro a0 a1 a2 a3 a4 k
 unfold table_combine_1_table_Join_1.f
 repeat' first
   | (with_reducible exact table_has.mono _ _ _ _)
   | (with_reducible exact LeO.refl _)
   | (with_reducible exact LeO.none _)
   | (with_reducible refine LeO.ite ?_ ?_)
   | (with_reducible refine LeO.bind ?_ (fun _ => ?_))
   | exact table_has.mono _ _ _ _
   | exact LeO.none _
   | refine LeO.ite ?_ ?_
   | refine LeO.bind ?_ (fun _ => ?_)
def table_combine_1_table_Join_1.T1 : Bool × List (List Nat × List Nat) := (true, [([], []), ([], []), ([], []), ([1, 2], [1, 2]), ([], []), ([], []), ([4, 5, 3], [4, 5]), ([0, 3, 6, 6], [0, 3, 6]), ([7, 7, 0, 1, 2, 3, 4, 5, 6, 7], [7])])
def table_combine_1_table_Join_1.B1 : List Nat := [0, 0, 0, 6, 0, 0, 62, 127, 255]
theorem table_combine_1_table_Join_1.tab1 : rtab .any (opsOf Try.f73 1) = table_combine_1_table_Join_1.T1 := by kernel_rfl
theorem table_combine_1_table_Join_1.bits1 : waitsOk table_combine_1_table_Join_1.T1.2 table_combine_1_table_Join_1.B1 = true := by kernel_rfl
set_option maxHeartbeats 8000000 in
set_option maxRecDepth 100000 in
theorem table_combine_1_table_Join_1.calls (k : Nat) (a0 : Int) (gp1_0 : Nat)  (gp2_0 : Nat) (A2_0 : Option Addr) (c2_0 : Nat) (l2_0 : List Int) (A2_1 : Option Addr) (c2_1 : Nat) (l2_1 : List Int) (gp3_0 : Nat) (A3_0 : Option Addr) (c3_0 : Nat) (l3_0 : List Int) (A3_1 : Option Addr) (c3_1 : Nat) (l3_1 : List Int) (r : Bool) (w : World) (hb_gp1_0 : w.heap[gp1_0]? = some (.cells #[.func (.func 47) #[] #[]] 60 (0, 0))) (hr2_0 : Kd.C (Kd.int .i64) w A2_0 l2_0.length l2_0) (hc2_0 : l2_0.length ≤ c2_0) (hr2_1 : Kd.C (Kd.int .i64) w A2_1 l2_1.length l2_1) (hc2_1 : l2_1.length ≤ c2_1) (hb_gp2_0 : w.heap[gp2_0]? = some (.cells #[.slice A2_0 l2_0.length c2_0, .slice A2_1 l2_1.length c2_1] 29 (0, 0))) (hr3_0 : Kd.C (Kd.int .i64) w A3_0 l3_0.length l3_0) (hc3_0 : l3_0.length ≤ c3_0) (hr3_1 : Kd.C (Kd.int .i64) w A3_1 l3_1.length l3_1) (hc3_1 : l3_1.length ≤ c3_1) (hb_gp3_0 : w.heap[gp3_0]? = some (.cells #[.slice A3_0 l3_0.length c3_0, .slice A3_1 l3_1.length c3_1] 29 (0, 0))) (h : table_combine_1_table_Join_1.f k a0 l2_0 l2_1 l3_0 l3_1 = some r) :
  Calls Try.prog 73 #[.int .i64 a0, .pointer (some ⟨gp1_0, 0, none⟩), .pointer (some ⟨gp2_0, 0, none⟩), .pointer (some ⟨gp3_0, 0, none⟩)] w fun e w' => e = .returned (.bool r) ∧ Below w.heap.size w w' := by
 have hu60 := Try.underlying60
 have hu29 := Try.underlying29
 have HR2_0 := Aside0.mk hr2_0
 have HC2_0 := Aside0.mk hc2_0
 clear hr2_0 hc2_0
 have HR2_1 := Aside0.mk hr2_1
 have HC2_1 := Aside0.mk hc2_1
 clear hr2_1 hc2_1
 have HR3_0 := Aside0.mk hr3_0
 have HC3_0 := Aside0.mk hc3_0
 clear hr3_0 hc3_0
 have HR3_1 := Aside0.mk hr3_1
 have HC3_1 := Aside0.mk hc3_1
 clear hr3_1 hc3_1
 have BK265 := Aside0.mk hb_gp1_0
 clear hb_gp1_0
 have BK266 := Aside0.mk hb_gp2_0
 clear hb_gp2_0
 have BK267 := Aside0.mk hb_gp3_0
 clear hb_gp3_0
 have HB := Aside0.mk (Below.refl w.heap.size w)
 have H : ((table_has.f k l2_0 l2_1 a0).bind fun t268 => ((table_has.f k l3_0 l3_1 a0).bind fun t269 => ((table_Join_1.f t268 t269).bind fun t270 => (some t270)))) = some r := h
 clear h
 replace H := Option.bind_eq_some_iff.mp H
 obtain ⟨t268, A50, H⟩ := H
 replace H : ((table_has.f k l3_0 l3_1 a0).bind fun t269 => ((table_Join_1.f t268 t269).bind fun t270 => (some t270))) = some r := H
 have A5 := Aside0.mk A50
 clear A50
 replace H := Option.bind_eq_some_iff.mp H
 obtain ⟨t269, A60, H⟩ := H
 replace H : ((table_Join_1.f t268 t269).bind fun t270 => (some t270)) = some r := H
 have A6 := Aside0.mk A60
 clear A60
 replace H := Option.bind_eq_some_iff.mp H
 obtain ⟨t270, A70, H⟩ := H
 replace H : (some t270) = some r := H
 have A7 := Aside0.mk A70
 clear A70
 obtain rfl := Option.some.inj H
 go_enter Try.func73, Try.ntmps73
 try go_wp2
 have n0_ := Aside0.mk (blk_drew BK265.out)
 have n1_ := Aside0.mk (blk_drew BK266.out)
 have n2_ := Aside0.mk (blk_drew BK267.out)
 have n3_ := Aside0.mk (below_drew1 HB.out)
 clear BK265
 clear BK266
 clear BK267
 clear HB
 have BK265 := n0_
 have BK266 := n1_
 have BK267 := n2_
 have HB := n3_
 clear n0_ n1_ n2_ n3_
 refine start_ (n := 9) (S := fun w' => w'.cell? ⟨gp1_0, 0, none⟩ = some (.func (.func 47) #[] #[]) ∧ w'.cell? ⟨gp2_0, 0, none⟩ = some (.slice A2_0 l2_0.length c2_0) ∧ w'.cell? ⟨gp2_0, 1, none⟩ = some (.slice A2_1 l2_1.length c2_1) ∧ w'.cell? ⟨gp3_0, 0, none⟩ = some (.slice A3_0 l3_0.length c3_0) ∧ w'.cell? ⟨gp3_0, 1, none⟩ = some (.slice A3_1 l3_1.length c3_1)) (ds := []) #[false, false, false, false, false, false, false, false, false] zK rfl rfl ⟨(blk_cell BK265.out 0).trans rfl, (blk_cell BK266.out 0).trans rfl, (blk_cell BK266.out 1).trans rfl, (blk_cell BK267.out 0).trans rfl, (blk_cell BK267.out 1).trans rfl⟩ (fun hHeld => ?_); refine with_tabW table_combine_1_table_Join_1.tab1 table_combine_1_table_Join_1.bits1 (fun HT_ HW_ => ?_)
 generalize w.drew = w8 at BK265 BK266 BK267 HB hHeld ⊢
 refine pure_ (i := 2) (N := some 8) (v := ?_) (a' := ?_) #[false, false, true, false, false, false, false, false, false] rfl rfl (any_of HT_.out zK) (fun _ _ _ h => h) (Or.inl ⟨by rfl, ?_⟩) ?_ ?_
 rotate_left
 ·intro w'
  go_simp
  with_reducible rfl
 rotate_left
 ·simp only [Act.put, List.setIfInBounds_toArray, List.set_cons_zero, List.set_cons_succ, i64_w, i32_w]
  rfl
 refine pure_ (i := 5) (N := some 11) (v := ?_) (a' := ?_) #[false, false, true, false, false, true, false, false, false] rfl rfl (any_of HT_.out zK) (fun _ _ _ h => h) (Or.inl ⟨by rfl, ?_⟩) ?_ ?_
 rotate_left
 ·intro w'
  go_simp
  with_reducible rfl
 rotate_left
 ·simp only [Act.put, List.setIfInBounds_toArray, List.set_cons_zero, List.set_cons_succ, i64_w, i32_w]
  rfl
 refine take_ (i := 0) (N := some 6) (v := ?_) (a' := ?_) #[true, false, true, false, false, true, false, false, false] rfl rfl (take_ofW HT_.out HW_.out zK) (fun _ _ _ h => h) (Or.inl ⟨by rfl, ?_⟩) hHeld ?_ ?_
 rotate_left
 ·rintro w' ⟨s0, s1, s2, s3, s4⟩
  go_simp
  with_reducible rfl
 rotate_left
 ·simp only [Act.put, List.setIfInBounds_toArray, List.set_cons_zero, List.set_cons_succ, i64_w, i32_w]
  rfl
 refine take_ (i := 1) (N := some 7) (v := ?_) (a' := ?_) #[true, true, true, false, false, true, false, false, false] rfl rfl (take_ofW HT_.out HW_.out zK) (fun _ _ _ h => h) (Or.inl ⟨by rfl, ?_⟩) hHeld ?_ ?_
 rotate_left
 ·rintro w' ⟨s0, s1, s2, s3, s4⟩
  go_simp
  with_reducible rfl
 rotate_left
 ·simp only [Act.put, List.setIfInBounds_toArray, List.set_cons_zero, List.set_cons_succ, i64_w, i32_w]
  rfl
 refine take_ (i := 4) (N := some 10) (v := ?_) (a' := ?_) #[true, true, true, false, true, true, false, false, false] rfl rfl (take_ofW HT_.out HW_.out zK) (fun _ _ _ h => h) (Or.inl ⟨by rfl, ?_⟩) hHeld ?_ ?_
 rotate_left
 ·rintro w' ⟨s0, s1, s2, s3, s4⟩
  go_simp
  with_reducible rfl
 rotate_left
 ·simp only [Act.put, List.setIfInBounds_toArray, List.set_cons_zero, List.set_cons_succ, i64_w, i32_w]
  rfl
 refine one_ (i := 3) (N := some 9) #[true, true, true, true, true, true, false, false, false] rfl rfl (one_of HT_.out zK) (by decide) (fun K hK => ?_)
 refine goes_ Try.func50 zK rfl #[.agg #[.slice A2_0 l2_0.length c2_0, .slice A2_1 l2_1.length c2_1], .int .i64 a0] (by rfl) rfl rfl zM ?_
 with_reducible refine (table_has.calls k _ _ l2_0 _ _ l2_1 a0 t268 _ ?side1 ?side2 ?side3 ?side4 A5.out).mono ?_
 (case side1 => repeat (first | exact (Kd.C_below HR2_0.out HB.out) | (with_reducible refine Kd.C_alloc ?_ _) | (with_reducible refine Kd.C_drewN ?_ _) | (with_reducible refine Kd.C_drew ?_)))
 (case side2 => exact HC2_0.out)
 (case side3 => repeat (first | exact (Kd.C_below HR2_1.out HB.out) | (with_reducible refine Kd.C_alloc ?_ _) | (with_reducible refine Kd.C_drewN ?_ _) | (with_reducible refine Kd.C_drew ?_)))
 (case side4 => exact HC2_1.out)
 rintro e w9 ⟨rfl, hb⟩
 refine ⟨_, rfl, ?_⟩
 have n0_ := Aside0.mk (blk_below (g := gp1_0) (o := .cells #[.func (.func 47) #[] #[]] 60 (0, 0)) (zk BK265) hb)
 have n1_ := Aside0.mk (blk_below (g := gp2_0) (o := .cells #[.slice A2_0 l2_0.length c2_0, .slice A2_1 l2_1.length c2_1] 29 (0, 0)) (zk BK266) hb)
 have n2_ := Aside0.mk (blk_below (g := gp3_0) (o := .cells #[.slice A3_0 l3_0.length c3_0, .slice A3_1 l3_1.length c3_1] 29 (0, 0)) (zk BK267) hb)
 have n3_ := Aside0.mk (below_step zB hb)
 clear BK265
 clear BK266
 clear BK267
 clear HB
 have BK265 := n0_
 have BK266 := n1_
 have BK267 := n2_
 have HB := n3_
 clear n0_ n1_ n2_ n3_
 (try clear hb)
 (try clear hb2)
 (try clear hk)
 (try clear hi)
 refine hK.out _ _ ⟨(blk_cell BK265.out 0).trans rfl, (blk_cell BK266.out 0).trans rfl, (blk_cell BK266.out 1).trans rfl, (blk_cell BK267.out 0).trans rfl, (blk_cell BK267.out 1).trans rfl⟩ (fun hHeld => ?_)
 clear hK K
 refine norm_ (a' := ?_) ?_ ?_
 rotate_left
 ·show Act.put _ (some 9) _ = _
  simp only [Act.put, List.setIfInBounds_toArray, List.set_cons_zero, List.set_cons_succ, i64_w, i32_w]
  rfl
 refine one_ (i := 6) (N := some 12) #[true, true, true, true, true, true, true, false, false] rfl rfl (one_of HT_.out zK) (by decide) (fun K hK => ?_)
 refine goes_ Try.func50 zK rfl #[.agg #[.slice A3_0 l3_0.length c3_0, .slice A3_1 l3_1.length c3_1], .int .i64 a0] (by rfl) rfl rfl zM ?_
 with_reducible refine (table_has.calls k _ _ l3_0 _ _ l3_1 a0 t269 _ ?side1 ?side2 ?side3 ?side4 A6.out).mono ?_
 (case side1 => repeat (first | exact (Kd.C_below HR3_0.out HB.out) | (with_reducible refine Kd.C_alloc ?_ _) | (with_reducible refine Kd.C_drewN ?_ _) | (with_reducible refine Kd.C_drew ?_)))
 (case side2 => exact HC3_0.out)
 (case side3 => repeat (first | exact (Kd.C_below HR3_1.out HB.out) | (with_reducible refine Kd.C_alloc ?_ _) | (with_reducible refine Kd.C_drewN ?_ _) | (with_reducible refine Kd.C_drew ?_)))
 (case side4 => exact HC3_1.out)
 rintro e w10 ⟨rfl, hb⟩
 refine ⟨_, rfl, ?_⟩
 have n0_ := Aside0.mk (blk_below (g := gp1_0) (o := .cells #[.func (.func 47) #[] #[]] 60 (0, 0)) (zk BK265) hb)
 have n1_ := Aside0.mk (blk_below (g := gp2_0) (o := .cells #[.slice A2_0 l2_0.length c2_0, .slice A2_1 l2_1.length c2_1] 29 (0, 0)) (zk BK266) hb)
 have n2_ := Aside0.mk (blk_below (g := gp3_0) (o := .cells #[.slice A3_0 l3_0.length c3_0, .slice A3_1 l3_1.length c3_1] 29 (0, 0)) (zk BK267) hb)
 have n3_ := Aside0.mk (below_step zB hb)
 clear BK265
 clear BK266
 clear BK267
 clear HB
 have BK265 := n0_
 have BK266 := n1_
 have BK267 := n2_
 have HB := n3_
 clear n0_ n1_ n2_ n3_
 (try clear hb)
 (try clear hb2)
 (try clear hk)
 (try clear hi)
 refine hK.out _ _ ⟨(blk_cell BK265.out 0).trans rfl, (blk_cell BK266.out 0).trans rfl, (blk_cell BK266.out 1).trans rfl, (blk_cell BK267.out 0).trans rfl, (blk_cell BK267.out 1).trans rfl⟩ (fun hHeld => ?_)
 clear hK K
 refine norm_ (a' := ?_) ?_ ?_
 rotate_left
 ·show Act.put _ (some 12) _ = _
  simp only [Act.put, List.setIfInBounds_toArray, List.set_cons_zero, List.set_cons_succ, i64_w, i32_w]
  rfl
 refine one_ (i := 7) (N := some 13) #[true, true, true, true, true, true, true, true, false] rfl rfl (one_of HT_.out zK) (by decide) (fun K hK => ?_)
 refine goesV_ Try.func47 zK rfl #[.bool t268, .bool t269] #[] (by rfl) rfl rfl (by rfl) zM ?_
 with_reducible refine (table_Join_1.calls t268 t269 t270 _ A7.out).mono ?_
 rintro e w' ⟨rfl, ⟨nd, rfl⟩⟩
 refine ⟨_, rfl, ?_⟩
 refine hK.out _ _ ⟨(blk_cell BK265.out 0).trans rfl, (blk_cell BK266.out 0).trans rfl, (blk_cell BK266.out 1).trans rfl, (blk_cell BK267.out 0).trans rfl, (blk_cell BK267.out 1).trans rfl⟩ (fun hHeld => ?_)
 clear hK K
 refine norm_ (a' := ?_) ?_ ?_
 rotate_left
 ·show Act.put _ (some 13) _ = _
  simp only [Act.put, List.setIfInBounds_toArray, List.set_cons_zero, List.set_cons_succ, i64_w, i32_w]
  rfl
 refine pure_ (i := 8) (N := some 5) (v := ?_) (a' := ?_) #[true, true, true, true, true, true, true, true, true] rfl rfl (any_of HT_.out zK) (fun _ _ _ h => h) (Or.inl ⟨by rfl, ?_⟩) ?_ ?_
 rotate_left
 ·intro w'
  go_simp
  with_reducible rfl
 rotate_left
 ·simp only [Act.put, List.setIfInBounds_toArray, List.set_cons_zero, List.set_cons_succ, i64_w, i32_w]
  rfl
 refine done_ (done_of HT_.out zK) ?_
 try go_wp2
 go_ret
 exact ⟨by first | rfl | (simp [errW_none, errW_some] <;> rfl) | (simp [*, errW_none, errW_some] <;> rfl), by repeat (first | (with_reducible first | exact HB.out | apply below_alloc | apply pw_below_drewN | apply below_drew1 | refine below_set ?_ GE265.out | refine below_set ?_ GE266.out | refine below_set ?_ GE267.out) | exact HB.out)⟩
end Go.Proofs.Ythcfmdkhkikbcaa.D
