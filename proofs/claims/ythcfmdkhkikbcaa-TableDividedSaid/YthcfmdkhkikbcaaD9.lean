-- Written by wip/tools/myprint.py, a program of this session's.
import Derived.Test.YthcfmdkhkikbcaaD0
import Derived.Test.YthcfmdkhkikbcaaD1
import Derived.Test.YthcfmdkhkikbcaaD2
namespace Go.Proofs.Ythcfmdkhkikbcaa.D
open Go.RowKit Go.Proofs.YthcfmdkhkikbcaaW.PrintWords Go.Proofs.YthcfmdkhkikbcaaW.PrintLast Go.Proofs.YthcfmdkhkikbcaaW.PrintMore
attribute [local go_sem] max2_int min2_int max_two min_two max_three min_three max_four min_four   -- for this text's walks alone
set_option linter.unusedVariables false
set_option linter.unusedSimpArgs false
/-! ### slices_Index_int_int: function 63 -/
def slices_Index_int_int.l0 : Nat → List Int → Int → Int → Int → Option (Int)
 | 0, _, _, _, _ => none
 | k + 1, x0, x1, x7, x8 => if x8 < x7 then (if 0 ≤ x8 then (if x8 < (x0.length : Int) then (if x1 = (rd x0 x8) then (some x8) else (slices_Index_int_int.l0 k x0 x1 x7 (wrap64 (x8 + 1)))) else (none)) else (none)) else (some (-1))
def slices_Index_int_int.f (k : Nat) (l0 : List Int) (a1 : Int) : Option (Int) := slices_Index_int_int.l0 k l0 a1 (l0.length : Int) 0
theorem slices_Index_int_int.mono_l : ∀ k, (∀ y0 y1 y2 y3, LeO (slices_Index_int_int.l0 k y0 y1 y2 y3) (slices_Index_int_int.l0 (k + 1) y0 y1 y2 y3))
 | 0 => fun _ _ _ _ r h => by simp [slices_Index_int_int.l0] at h
 | k + 1 => by
  have ih0 := slices_Index_int_int.mono_l k
  ·intro y0 y1 y2 y3
   unfold slices_Index_int_int.l0
   repeat' first
   | (with_reducible exact ih0 _ _ _ _)
   | (with_reducible exact LeO.refl _)
   | (with_reducible exact LeO.none _)
   | (with_reducible refine LeO.ite ?_ ?_)
   | (with_reducible refine LeO.bind ?_ (fun _ => ?_))
   | exact ih0 _ _ _ _
   | exact LeO.none _
   | refine LeO.ite ?_ ?_
   | refine LeO.bind ?_ (fun _ => ?_)
theorem slices_Index_int_int.mono : ∀ a0 a1 k, LeO (slices_Index_int_int.f k a0 a1) (slices_Index_int_int.f (k + 1) a0 a1) := by
 intro a0 a1 k
 have ih0 := slices_Index_int_int.mono_l k
 unfold slices_Index_int_int.f
 repeat' first
   | (with_reducible exact ih0 _ _ _ _)
   | (with_reducible exact LeO.refl _)
   | (with_reducible exact LeO.none _)
   | (with_reducible refine LeO.ite ?_ ?_)
   | (with_reducible refine LeO.bind ?_ (fun _ => ?_))
   | exact ih0 _ _ _ _
   | exact LeO.none _
   | refine LeO.ite ?_ ?_
   | refine LeO.bind ?_ (fun _ => ?_)
set_option maxHeartbeats 8000000 in
set_option maxRecDepth 100000 in
theorem slices_Index_int_int.calls (k : Nat) (A0 : Option Addr) (c0 : Nat) (l0 : List Int) (a1 : Int) (r : Int) (w : World) (hr0 : Kd.C (Kd.int .i64) w A0 l0.length l0) (hc0 : l0.length ≤ c0) (h : slices_Index_int_int.f k l0 a1 = some r) :
  Calls Try.prog 63 #[.slice A0 l0.length c0, .int .i64 a1] w fun e w' => e = .returned (.int .i64 r) ∧ Drawn0 w w' := by
 have hu3 := Try.underlying3
 have HR0 := Aside0.mk hr0
 have HC0 := Aside0.mk hc0
 clear hr0 hc0
 have H : (slices_Index_int_int.l0 k l0 a1 (l0.length : Int) 0) = some r := h
 clear h
 have H' := Aside0.mk H
 clear H
 go_enter Try.func63, Try.ntmps63
 go_wp2
 go_loopg [8] k (fun kq v8 w' => ∃ (x8_1 : Int), v8 = .int .i64 x8_1 ∧ Aside0 (slices_Index_int_int.l0 kq l0 a1 (l0.length : Int) x8_1 = some r) ∧ Aside0 (kq ≤ k) ∧ Drawn0 w w')
 case atStart => exact ⟨(0), zT, H', ⟨Nat.le_refl _⟩, by repeat (first | exact Drawn0.refl _ | apply Drawn0.step)⟩
 case round =>
  clear H'
  obtain ⟨x8_1, rfl, HA, HK1, ⟨m1, rfl⟩⟩ := hrel
  cases gk with
  | zero => exact absurd HA.out (by simp [slices_Index_int_int.l0])
  | succ k1 =>
   have H := HA.out
   clear HA
   simp only [slices_Index_int_int.l0] at H
   by_cases c3 : x8_1 < (l0.length : Int)
   ·rw [if_pos c3] at H
    have c3b0 : decide (x8_1 < (l0.length : Int)) = true := decide_eq_true c3
    clear c3
    by_cases c4 : 0 ≤ x8_1
    ·rw [if_pos c4] at H
     have c4b0 : decide (0 ≤ x8_1) = true := decide_eq_true c4
     clear c4
     by_cases c5 : x8_1 < (l0.length : Int)
     ·rw [if_pos c5] at H
      have c5b0 : decide (x8_1 < (l0.length : Int)) = true := decide_eq_true c5
      clear c5
      by_cases c6 : a1 = (rd l0 x8_1)
      ·rw [if_pos c6] at H
       have c6b0 : (a1 == (rd l0 x8_1)) = true := beq_iff_eq.mpr c6
       have c6b1 : (a1 != (rd l0 x8_1)) = false := bne_eq_false_iff_eq.mpr c6
       clear c6
       obtain rfl := Option.some.inj H
       have p494 : 0 ≤ (x8_1 : Int) := of_decide_eq_true zh
       have q494 : x8_1 < (l0.length : Int) := of_decide_eq_true zh
       obtain ⟨ad494, e494, hx494_0⟩ := Kd.at_int HR0.out x8_1 p494 q494
       cases e494
       replace p494 := eq_true p494
       replace q494 := eq_true q494
       go_wp2
       go_ret
       exact ⟨by first | rfl | (simp; done) | (simp [*]; done), by repeat (first | exact Drawn0.refl _ | apply Drawn0.step)⟩
      ·rw [if_neg c6] at H
       have c6b0 : (a1 == (rd l0 x8_1)) = false := beq_eq_false_iff_ne.mpr c6
       have c6b1 : (a1 != (rd l0 x8_1)) = true := bne_iff_ne.mpr c6
       have H' := Aside0.mk H
       clear H
       have p494 : 0 ≤ (x8_1 : Int) := of_decide_eq_true zh
       have q494 : x8_1 < (l0.length : Int) := of_decide_eq_true zh
       obtain ⟨ad494, e494, hx494_0⟩ := Kd.at_int HR0.out x8_1 p494 q494
       cases e494
       replace p494 := eq_true p494
       replace q494 := eq_true q494
       go_wp2
       go_roundg k1
       case measure => have := HK1.out; omega
       case rel => exact ⟨(wrap64 (x8_1 + 1)), zT, H', ⟨by have := HK1.out; omega⟩, by repeat (first | exact Drawn0.refl _ | apply Drawn0.step)⟩
     ·rw [if_neg c5] at H
      exact absurd H (by simp)
    ·rw [if_neg c4] at H
     exact absurd H (by simp)
   ·rw [if_neg c3] at H
    have c3b0 : decide (x8_1 < (l0.length : Int)) = false := decide_eq_false c3
    clear c3
    obtain rfl := Option.some.inj H
    go_wp2
    go_ret
    exact ⟨by first | rfl | (simp; done) | (simp [*]; done), by repeat (first | exact Drawn0.refl _ | apply Drawn0.step)⟩
/-! ### slices_Contains_int_int: function 38 -/
def slices_Contains_int_int.f (k : Nat) (l0 : List Int) (a1 : Int) : Option (Bool) := (slices_Index_int_int.f k l0 a1).bind fun t495 => (some (decide (t495 ≥ 0)))
theorem slices_Contains_int_int.mono : ∀ a0 a1 k, LeO (slices_Contains_int_int.f k a0 a1) (slices_Contains_int_int.f (k + 1) a0 a1) := by
 intro a0 a1 k
 unfold slices_Contains_int_int.f
 repeat' first
   | (with_reducible exact slices_Index_int_int.mono _ _ _)
   | (with_reducible exact LeO.refl _)
   | (with_reducible exact LeO.none _)
   | (with_reducible refine LeO.ite ?_ ?_)
   | (with_reducible refine LeO.bind ?_ (fun _ => ?_))
   | exact slices_Index_int_int.mono _ _ _
   | exact LeO.none _
   | refine LeO.ite ?_ ?_
   | refine LeO.bind ?_ (fun _ => ?_)
set_option maxHeartbeats 8000000 in
set_option maxRecDepth 100000 in
theorem slices_Contains_int_int.calls (k : Nat) (A0 : Option Addr) (c0 : Nat) (l0 : List Int) (a1 : Int) (r : Bool) (w : World) (hr0 : Kd.C (Kd.int .i64) w A0 l0.length l0) (hc0 : l0.length ≤ c0) (h : slices_Contains_int_int.f k l0 a1 = some r) :
  Calls Try.prog 38 #[.slice A0 l0.length c0, .int .i64 a1] w fun e w' => e = .returned (.bool r) ∧ Drawn0 w w' := by
 have HR0 := Aside0.mk hr0
 have HC0 := Aside0.mk hc0
 clear hr0 hc0
 have H : ((slices_Index_int_int.f k l0 a1).bind fun t495 => (some (decide (t495 ≥ 0)))) = some r := h
 clear h
 replace H := Option.bind_eq_some_iff.mp H
 obtain ⟨t495, A30, H⟩ := H
 replace H : (some (decide (t495 ≥ 0))) = some r := H
 have A3 := Aside0.mk A30
 clear A30
 obtain rfl := Option.some.inj H
 go_enter Try.func38, Try.ntmps38
 go_wp2_with (first | ((with_reducible refine gate_callee (f := 63) rfl ?_); refine goesL_ (some 7) rfl rfl Try.func63 zK rfl #[.slice A0 l0.length c0, .int .i64 a1] rfl zM ?_; (with_reducible refine (slices_Index_int_int.calls k _ _ l0 a1 t495 _ ?side1 ?side2 A3.out).mono ?_); (case side1 => repeat (first | exact HR0.out | (with_reducible refine Kd.C_alloc ?_ _) | (with_reducible refine Kd.C_drewN ?_ _) | (with_reducible refine Kd.C_drew ?_))); (case side2 => exact HC0.out); rintro e w' ⟨rfl, ⟨nd, rfl⟩⟩; refine ⟨_, rfl, ?_⟩))
 go_ret
 exact ⟨by first | rfl | (simp; done) | (simp [*]; done), by repeat (first | exact Drawn0.refl _ | apply Drawn0.step)⟩
/-! ### table_Restrict_1_v1: function 1000061 -/
def table_Restrict_1_v1.f (k : Nat) (a0 : Int) (l1_0 : List Int) (l1_1 : List Int) (a2_0 : Int) (a3_0 : Int) : Option (Bool) := if 0 ≤ a3_0 then ((table_has.f k l1_0 l1_1 (Go.bits .or .i64 a0 (shl .i64 a2_0 a3_0))).bind fun t499 => (some t499)) else (none)
theorem table_Restrict_1_v1.mono : ∀ a0 a1 a2 a3 a4 k, LeO (table_Restrict_1_v1.f k a0 a1 a2 a3 a4) (table_Restrict_1_v1.f (k + 1) a0 a1 a2 a3 a4) := by
 intro a0 a1 a2 a3 a4 k
 unfold table_Restrict_1_v1.f
 repeat' first
   | (with_reducible exact table_has.mono _ _ _ _)
   | (with_reducible exact LeO.refl _)
   | (with_reducible exact LeO.none _)
   | (with_reducible refine LeO.ite ?_ ?_)
   | (with_reducible refine LeO.bind ?_ (fun _ => ?_))
   | exact table_has.mono _ _ _ _
   | exact LeO.none _
   | refine LeO.ite ?_ ?_
   | refine LeO.bind ?_ (fun _ => ?_)
def table_Restrict_1_v1.T1 : Bool × List (List Nat × List Nat) := (true, [([], []), ([], []), ([], []), ([], []), ([2, 3], [2, 3]), ([1, 4], [1, 4]), ([0, 5], [0, 5]), ([6, 6, 0, 1, 2, 3, 4, 5, 6], [6])])
def table_Restrict_1_v1.B1 : List Nat := [0, 0, 0, 0, 12, 30, 63, 127]
theorem table_Restrict_1_v1.tab1 : rtab .any (opsOf Try.f61 1) = table_Restrict_1_v1.T1 := by kernel_rfl
theorem table_Restrict_1_v1.bits1 : waitsOk table_Restrict_1_v1.T1.2 table_Restrict_1_v1.B1 = true := by kernel_rfl
set_option maxHeartbeats 8000000 in
set_option maxRecDepth 100000 in
theorem table_Restrict_1_v1.calls (k : Nat) (a0 : Int) (gp1_0 : Nat) (A1_0 : Option Addr) (c1_0 : Nat) (l1_0 : List Int) (A1_1 : Option Addr) (c1_1 : Nat) (l1_1 : List Int) (gp2_0 : Nat) (a2_0 : Int) (gp3_0 : Nat) (a3_0 : Int) (r : Bool) (w : World) (hr1_0 : Kd.C (Kd.int .i64) w A1_0 l1_0.length l1_0) (hc1_0 : l1_0.length ≤ c1_0) (hr1_1 : Kd.C (Kd.int .i64) w A1_1 l1_1.length l1_1) (hc1_1 : l1_1.length ≤ c1_1) (hb_gp1_0 : w.heap[gp1_0]? = some (.cells #[.slice A1_0 l1_0.length c1_0, .slice A1_1 l1_1.length c1_1] 29 (0, 0))) (hb_gp2_0 : w.heap[gp2_0]? = some (.cells #[.int .i64 a2_0] 3 (0, 0))) (hb_gp3_0 : w.heap[gp3_0]? = some (.cells #[.int .i64 a3_0] 3 (0, 0))) (h : table_Restrict_1_v1.f k a0 l1_0 l1_1 a2_0 a3_0 = some r) :
  Calls Try.prog 61 #[.int .i64 a0, .pointer (some ⟨gp1_0, 0, none⟩), .pointer (some ⟨gp2_0, 0, none⟩), .pointer (some ⟨gp3_0, 0, none⟩)] w fun e w' => e = .returned (.bool r) ∧ Below w.heap.size w w' := by
 have hu29 := Try.underlying29
 have hu3 := Try.underlying3
 have HR1_0 := Aside0.mk hr1_0
 have HC1_0 := Aside0.mk hc1_0
 clear hr1_0 hc1_0
 have HR1_1 := Aside0.mk hr1_1
 have HC1_1 := Aside0.mk hc1_1
 clear hr1_1 hc1_1
 have BK496 := Aside0.mk hb_gp1_0
 clear hb_gp1_0
 have BK497 := Aside0.mk hb_gp2_0
 clear hb_gp2_0
 have BK498 := Aside0.mk hb_gp3_0
 clear hb_gp3_0
 have HB := Aside0.mk (Below.refl w.heap.size w)
 have H : (if 0 ≤ a3_0 then ((table_has.f k l1_0 l1_1 (Go.bits .or .i64 a0 (shl .i64 a2_0 a3_0))).bind fun t499 => (some t499)) else (none)) = some r := h
 clear h
 by_cases c5 : 0 ≤ a3_0
 ·rw [if_pos c5] at H
  have c5b0 := eq_true c5
  have c5b1 : decide (0 ≤ a3_0) = true := decide_eq_true c5
  clear c5
  obtain ⟨ji6, hji6⟩ : ∃ j_ : Int, (shl .i64 a2_0 a3_0) = j_ := ⟨_, rfl⟩
  replace H : ((table_has.f k l1_0 l1_1 (Go.bits .or .i64 a0 (ji6))).bind fun t499 => (some t499)) = some r := by first | (rw [hji6] at H; exact H) | (simp only [hji6] at H ⊢; exact H)
  have hji6_ : (IntKind.i64.wrap (a2_0 * 2 ^ min a3_0.toNat 64)) = ji6 := hji6
  have hji6z : a3_0 ≤ 64 → (IntKind.i64.wrap (a2_0 * 2 ^ a3_0.toNat)) = ji6 := shl_small hji6
  have hji6y : (wrap64 (a2_0 * 2 ^ min a3_0.toNat 64)) = ji6 := (i64_w _).symm.trans hji6_
  have hji6x : a3_0 ≤ 64 → (wrap64 (a2_0 * 2 ^ a3_0.toNat)) = ji6 := fun h_ => (i64_w _).symm.trans (hji6z h_)
  replace H := Option.bind_eq_some_iff.mp H
  obtain ⟨t499, A70, H⟩ := H
  replace H : (some t499) = some r := H
  have A7 := Aside0.mk A70
  clear A70
  obtain rfl := Option.some.inj H
  go_enter Try.func61, Try.ntmps61
  try go_wp2
  have n0_ := Aside0.mk (blk_drew BK496.out)
  have n1_ := Aside0.mk (blk_drew BK497.out)
  have n2_ := Aside0.mk (blk_drew BK498.out)
  have n3_ := Aside0.mk (below_drew1 HB.out)
  clear BK496
  clear BK497
  clear BK498
  clear HB
  have BK496 := n0_
  have BK497 := n1_
  have BK498 := n2_
  have HB := n3_
  clear n0_ n1_ n2_ n3_
  refine start_ (n := 8) (S := fun w' => w'.cell? ⟨gp1_0, 0, none⟩ = some (.slice A1_0 l1_0.length c1_0) ∧ w'.cell? ⟨gp1_0, 1, none⟩ = some (.slice A1_1 l1_1.length c1_1) ∧ w'.cell? ⟨gp2_0, 0, none⟩ = some (.int .i64 a2_0) ∧ w'.cell? ⟨gp3_0, 0, none⟩ = some (.int .i64 a3_0)) (ds := []) #[false, false, false, false, false, false, false, false] zK rfl rfl ⟨(blk_cell BK496.out 0).trans rfl, (blk_cell BK496.out 1).trans rfl, (blk_cell BK497.out 0).trans rfl, (blk_cell BK498.out 0).trans rfl⟩ (fun hHeld => ?_); refine with_tabW table_Restrict_1_v1.tab1 table_Restrict_1_v1.bits1 (fun HT_ HW_ => ?_)
  generalize w.drew = w8 at BK496 BK497 BK498 HB hHeld ⊢
  refine pure_ (i := 1) (N := some 7) (v := ?_) (a' := ?_) #[false, true, false, false, false, false, false, false] rfl rfl (any_of HT_.out zK) (fun _ _ _ h => h) (Or.inl ⟨by rfl, ?_⟩) ?_ ?_
  rotate_left
  ·intro w'
   go_simp
   with_reducible rfl
  rotate_left
  ·simp only [Act.put, List.setIfInBounds_toArray, List.set_cons_zero, List.set_cons_succ, i64_w, i32_w]
   rfl
  refine take_ (i := 0) (N := some 6) (v := ?_) (a' := ?_) #[true, true, false, false, false, false, false, false] rfl rfl (take_ofW HT_.out HW_.out zK) (fun _ _ _ h => h) (Or.inl ⟨by rfl, ?_⟩) hHeld ?_ ?_
  rotate_left
  ·rintro w' ⟨s0, s1, s2, s3⟩
   go_simp
   with_reducible rfl
  rotate_left
  ·simp only [Act.put, List.setIfInBounds_toArray, List.set_cons_zero, List.set_cons_succ, i64_w, i32_w]
   rfl
  refine take_ (i := 2) (N := some 8) (v := ?_) (a' := ?_) #[true, true, true, false, false, false, false, false] rfl rfl (take_ofW HT_.out HW_.out zK) (fun _ _ _ h => h) (Or.inl ⟨by rfl, ?_⟩) hHeld ?_ ?_
  rotate_left
  ·rintro w' ⟨s0, s1, s2, s3⟩
   go_simp
   with_reducible rfl
  rotate_left
  ·simp only [Act.put, List.setIfInBounds_toArray, List.set_cons_zero, List.set_cons_succ, i64_w, i32_w]
   rfl
  refine take_ (i := 3) (N := some 9) (v := ?_) (a' := ?_) #[true, true, true, true, false, false, false, false] rfl rfl (take_ofW HT_.out HW_.out zK) (fun _ _ _ h => h) (Or.inl ⟨by rfl, ?_⟩) hHeld ?_ ?_
  rotate_left
  ·rintro w' ⟨s0, s1, s2, s3⟩
   go_simp
   with_reducible rfl
  rotate_left
  ·simp only [Act.put, List.setIfInBounds_toArray, List.set_cons_zero, List.set_cons_succ, i64_w, i32_w]
   rfl
  refine pure_ (i := 4) (N := some 10) (v := ?_) (a' := ?_) #[true, true, true, true, true, false, false, false] rfl rfl (any_of HT_.out zK) (fun _ _ _ h => h) (Or.inl ⟨by rfl, ?_⟩) ?_ ?_
  rotate_left
  ·intro w'
   go_simp
   with_reducible rfl
  rotate_left
  ·simp only [Act.put, List.setIfInBounds_toArray, List.set_cons_zero, List.set_cons_succ, i64_w, i32_w]
   rfl
  refine pure_ (i := 5) (N := some 11) (v := ?_) (a' := ?_) #[true, true, true, true, true, true, false, false] rfl rfl (any_of HT_.out zK) (fun _ _ _ h => h) (Or.inl ⟨by rfl, ?_⟩) ?_ ?_
  rotate_left
  ·intro w'
   go_simp
   with_reducible rfl
  rotate_left
  ·simp only [Act.put, List.setIfInBounds_toArray, List.set_cons_zero, List.set_cons_succ, i64_w, i32_w]
   rfl
  refine one_ (i := 6) (N := some 12) #[true, true, true, true, true, true, true, false] rfl rfl (one_of HT_.out zK) (by decide) (fun K hK => ?_)
  refine goes_ Try.func50 zK rfl #[.agg #[.slice A1_0 l1_0.length c1_0, .slice A1_1 l1_1.length c1_1], .int .i64 (Go.bits .or .i64 a0 (ji6))] (by rfl) rfl rfl (by (try simp only [List.map_toArray, List.map_cons, List.map_nil]); first | done | (simp only [hji6]; rfl) | rfl | (simp only [List.length_drop, List.length_take]; rfl)) ?_
  with_reducible refine (table_has.calls k _ _ l1_0 _ _ l1_1 (Go.bits .or .i64 a0 (ji6)) t499 _ ?side1 ?side2 ?side3 ?side4 A7.out).mono ?_
  (case side1 => repeat (first | exact (Kd.C_below HR1_0.out HB.out) | (with_reducible refine Kd.C_alloc ?_ _) | (with_reducible refine Kd.C_drewN ?_ _) | (with_reducible refine Kd.C_drew ?_)))
  (case side2 => exact HC1_0.out)
  (case side3 => repeat (first | exact (Kd.C_below HR1_1.out HB.out) | (with_reducible refine Kd.C_alloc ?_ _) | (with_reducible refine Kd.C_drewN ?_ _) | (with_reducible refine Kd.C_drew ?_)))
  (case side4 => exact HC1_1.out)
  rintro e w9 ⟨rfl, hb⟩
  refine ⟨_, rfl, ?_⟩
  have n0_ := Aside0.mk (blk_below (g := gp1_0) (o := .cells #[.slice A1_0 l1_0.length c1_0, .slice A1_1 l1_1.length c1_1] 29 (0, 0)) (zk BK496) hb)
  have n1_ := Aside0.mk (blk_below (g := gp2_0) (o := .cells #[.int .i64 a2_0] 3 (0, 0)) (zk BK497) hb)
  have n2_ := Aside0.mk (blk_below (g := gp3_0) (o := .cells #[.int .i64 a3_0] 3 (0, 0)) (zk BK498) hb)
  have n3_ := Aside0.mk (below_step zB hb)
  clear BK496
  clear BK497
  clear BK498
  clear HB
  have BK496 := n0_
  have BK497 := n1_
  have BK498 := n2_
  have HB := n3_
  clear n0_ n1_ n2_ n3_
  (try clear hb)
  (try clear hb2)
  (try clear hk)
  (try clear hi)
  refine hK.out _ _ ⟨(blk_cell BK496.out 0).trans rfl, (blk_cell BK496.out 1).trans rfl, (blk_cell BK497.out 0).trans rfl, (blk_cell BK498.out 0).trans rfl⟩ (fun hHeld => ?_)
  clear hK K
  refine norm_ (a' := ?_) ?_ ?_
  rotate_left
  ·show Act.put _ (some 12) _ = _
   simp only [Act.put, List.setIfInBounds_toArray, List.set_cons_zero, List.set_cons_succ, i64_w, i32_w]
   rfl
  refine pure_ (i := 7) (N := some 5) (v := ?_) (a' := ?_) #[true, true, true, true, true, true, true, true] rfl rfl (any_of HT_.out zK) (fun _ _ _ h => h) (Or.inl ⟨by rfl, ?_⟩) ?_ ?_
  rotate_left
  ·intro w'
   go_simp
   with_reducible rfl
  rotate_left
  ·simp only [Act.put, List.setIfInBounds_toArray, List.set_cons_zero, List.set_cons_succ, i64_w, i32_w]
   rfl
  refine done_ (done_of HT_.out zK) ?_
  try go_wp2
  go_ret
  exact ⟨by first | rfl | (simp [errW_none, errW_some] <;> rfl) | (simp only [← hji6]; first | rfl | (simp [errW_none, errW_some] <;> rfl)) | (simp [*, errW_none, errW_some] <;> rfl), by repeat (first | (with_reducible first | exact HB.out | apply below_alloc | apply pw_below_drewN | apply below_drew1 | refine below_set ?_ GE496.out | refine below_set ?_ GE497.out | refine below_set ?_ GE498.out) | exact HB.out)⟩
 ·rw [if_neg c5] at H
  exact absurd H (by simp)
/-! ### table_over_table_Restrict_1: function 5000059 -/
def table_over_table_Restrict_1.l0 : Nat → List Int → Int → Int → List Int → List Int → Int → Int → List Int → List Int → Option (List Int × List Int)
 | 0, _, _, _, _, _, _, _, _, _ => none
 | k + 1, x0, x12, x13, x497000, x497001, x498000, x499000, x504000, x504001 => if x13 < x12 then ((table_assignment.f k x0 x13).bind fun t504 => ((table_Restrict_1_v1.f k t504 x497000 x497001 x498000 x499000).bind fun t505 => (if t505 = true then (if x504001.length < 17592186044416 then (table_over_table_Restrict_1.l0 k x0 x12 (wrap64 (x13 + 1)) x497000 x497001 x498000 x499000 x504000 (x504001 ++ [x13])) else (none)) else (table_over_table_Restrict_1.l0 k x0 x12 (wrap64 (x13 + 1)) x497000 x497001 x498000 x499000 x504000 x504001)))) else (some (x504000, x504001))
def table_over_table_Restrict_1.f (k : Nat) (l0 : List Int) (l1_0 : List Int) (l1_1 : List Int) (a1_2 : Int) (a1_3 : Int) : Option (List Int × List Int) := (slices_Clone_int_int.f l0).bind fun t500 => (table_over_table_Restrict_1.l0 k l0 (shl .i64 1 (l0.length : Int)) 0 l1_0 l1_1 a1_2 a1_3 t500 ([] : List Int))
theorem table_over_table_Restrict_1.mono_l : ∀ k, (∀ y0 y1 y2 y3 y4 y5 y6 y7 y8, LeO (table_over_table_Restrict_1.l0 k y0 y1 y2 y3 y4 y5 y6 y7 y8) (table_over_table_Restrict_1.l0 (k + 1) y0 y1 y2 y3 y4 y5 y6 y7 y8))
 | 0 => fun _ _ _ _ _ _ _ _ _ r h => by simp [table_over_table_Restrict_1.l0] at h
 | k + 1 => by
  have ih0 := table_over_table_Restrict_1.mono_l k
  ·intro y0 y1 y2 y3 y4 y5 y6 y7 y8
   unfold table_over_table_Restrict_1.l0
   repeat' first
   | (with_reducible exact ih0 _ _ _ _ _ _ _ _ _)
   | (with_reducible exact table_Restrict_1_v1.mono _ _ _ _ _ _)
   | (with_reducible exact table_assignment.mono _ _ _)
   | (with_reducible exact LeO.refl _)
   | (with_reducible exact LeO.none _)
   | (with_reducible refine LeO.ite ?_ ?_)
   | (with_reducible refine LeO.bind ?_ (fun _ => ?_))
   | exact ih0 _ _ _ _ _ _ _ _ _
   | exact table_Restrict_1_v1.mono _ _ _ _ _ _
   | exact table_assignment.mono _ _ _
   | exact LeO.none _
   | refine LeO.ite ?_ ?_
   | refine LeO.bind ?_ (fun _ => ?_)
theorem table_over_table_Restrict_1.mono : ∀ a0 a1 a2 a3 a4 k, LeO (table_over_table_Restrict_1.f k a0 a1 a2 a3 a4) (table_over_table_Restrict_1.f (k + 1) a0 a1 a2 a3 a4) := by
 intro a0 a1 a2 a3 a4 k
 have ih0 := table_over_table_Restrict_1.mono_l k
 unfold table_over_table_Restrict_1.f
 repeat' first
   | (with_reducible exact ih0 _ _ _ _ _ _ _ _ _)
   | (with_reducible exact table_Restrict_1_v1.mono _ _ _ _ _ _)
   | (with_reducible exact table_assignment.mono _ _ _)
   | (with_reducible exact LeO.refl _)
   | (with_reducible exact LeO.none _)
   | (with_reducible refine LeO.ite ?_ ?_)
   | (with_reducible refine LeO.bind ?_ (fun _ => ?_))
   | exact ih0 _ _ _ _ _ _ _ _ _
   | exact table_Restrict_1_v1.mono _ _ _ _ _ _
   | exact table_assignment.mono _ _ _
   | exact LeO.none _
   | refine LeO.ite ?_ ?_
   | refine LeO.bind ?_ (fun _ => ?_)
set_option maxHeartbeats 8000000 in
set_option maxRecDepth 100000 in
theorem table_over_table_Restrict_1.calls (k : Nat) (A0 : Option Addr) (c0 : Nat) (l0 : List Int) (gp1_0 : Nat) (gp1_1 : Nat) (gp1_2 : Nat) (A1_0 : Option Addr) (c1_0 : Nat) (l1_0 : List Int) (A1_1 : Option Addr) (c1_1 : Nat) (l1_1 : List Int) (a1_2 : Int) (a1_3 : Int) (r1 : List Int) (r2 : List Int) (w : World) (hr0 : Kd.C (Kd.int .i64) w A0 l0.length l0) (hc0 : l0.length ≤ c0) (hr1_0 : Kd.C (Kd.int .i64) w A1_0 l1_0.length l1_0) (hc1_0 : l1_0.length ≤ c1_0) (hr1_1 : Kd.C (Kd.int .i64) w A1_1 l1_1.length l1_1) (hc1_1 : l1_1.length ≤ c1_1) (hb_gp1_0 : w.heap[gp1_0]? = some (.cells #[.slice A1_0 l1_0.length c1_0, .slice A1_1 l1_1.length c1_1] 29 (0, 0))) (hb_gp1_1 : w.heap[gp1_1]? = some (.cells #[.int .i64 a1_2] 3 (0, 0))) (hb_gp1_2 : w.heap[gp1_2]? = some (.cells #[.int .i64 a1_3] 3 (0, 0))) (h : table_over_table_Restrict_1.f k l0 l1_0 l1_1 a1_2 a1_3 = some (r1, r2)) :
  Calls Try.prog 59 #[.slice A0 l0.length c0, .func (.func 61) #[] #[.pointer (some ⟨gp1_0, 0, none⟩), .pointer (some ⟨gp1_1, 0, none⟩), .pointer (some ⟨gp1_2, 0, none⟩)]] w fun e w' => ∃ v0_ v1_ : Value, e = .returned (.agg #[v0_, v1_]) ∧ Kd.R (Kd.int .i64) 3 w' w.heap.size (fun k_ => some k_ ≠ (v1_ : Value).ownBlock) v0_ r1 ∧ Kd.R (Kd.int .i64) 3 w' w.heap.size (fun k_ => some k_ ≠ (v0_ : Value).ownBlock) v1_ r2 ∧ Below w.heap.size w w' := by
 have hu29 := Try.underlying29
 have hu27 := Try.underlying27
 have HR0 := Aside0.mk hr0
 have HC0 := Aside0.mk hc0
 clear hr0 hc0
 have HR1_0 := Aside0.mk hr1_0
 have HC1_0 := Aside0.mk hc1_0
 clear hr1_0 hc1_0
 have HR1_1 := Aside0.mk hr1_1
 have HC1_1 := Aside0.mk hc1_1
 clear hr1_1 hc1_1
 have BK496 := Aside0.mk hb_gp1_0
 clear hb_gp1_0
 have BK497 := Aside0.mk hb_gp1_1
 clear hb_gp1_1
 have BK498 := Aside0.mk hb_gp1_2
 clear hb_gp1_2
 have HB := Aside0.mk (Below.refl w.heap.size w)
 have H : ((slices_Clone_int_int.f l0).bind fun t500 => (table_over_table_Restrict_1.l0 k l0 (shl .i64 1 (l0.length : Int)) 0 l1_0 l1_1 a1_2 a1_3 t500 ([] : List Int))) = some (r1, r2) := h
 clear h
 replace H := Option.bind_eq_some_iff.mp H
 obtain ⟨t500, A30, H⟩ := H
 replace H : (table_over_table_Restrict_1.l0 k l0 (shl .i64 1 (l0.length : Int)) 0 l1_0 l1_1 a1_2 a1_3 t500 ([] : List Int)) = some (r1, r2) := H
 have A3 := Aside0.mk A30
 clear A30
 obtain ⟨ji4, hji4⟩ : ∃ j_ : Int, (shl .i64 1 (l0.length : Int)) = j_ := ⟨_, rfl⟩
 replace H : (table_over_table_Restrict_1.l0 k l0 ji4 0 l1_0 l1_1 a1_2 a1_3 t500 ([] : List Int)) = some (r1, r2) := by first | (rw [hji4] at H; exact H) | (simp only [hji4] at H ⊢; exact H)
 (try rw [hji4] at A3)
 have hji4_ : (IntKind.i64.wrap (1 * 2 ^ min (l0.length : Int).toNat 64)) = ji4 := hji4
 have hji4z : (l0.length : Int) ≤ 64 → (IntKind.i64.wrap (1 * 2 ^ (l0.length : Int).toNat)) = ji4 := shl_small hji4
 have hji4p : (IntKind.i64.wrap (1 * 2 ^ min l0.length 64)) = ji4 := hji4_
 have hji4q : (l0.length : Int) ≤ 64 → (IntKind.i64.wrap (1 * 2 ^ l0.length)) = ji4 := hji4z
 have hji4r : (IntKind.i64.wrap (2 ^ min l0.length 64)) = ji4 := by have h_ := hji4p; rw [Int.one_mul] at h_; exact h_
 have hji4s : (l0.length : Int) ≤ 64 → (IntKind.i64.wrap (2 ^ l0.length)) = ji4 := fun hle_ => by have h_ := hji4q hle_; rw [Int.one_mul] at h_; exact h_
 have hji4u : (IntKind.i64.wrap (2 ^ min (l0.length : Int).toNat 64)) = ji4 := by have h_ := hji4_; rw [Int.one_mul] at h_; exact h_
 have hji4v : (l0.length : Int) ≤ 64 → (IntKind.i64.wrap (2 ^ (l0.length : Int).toNat)) = ji4 := fun hle_ => by have h_ := hji4z hle_; rw [Int.one_mul] at h_; exact h_
 have hji4y : (wrap64 (1 * 2 ^ min (l0.length : Int).toNat 64)) = ji4 := (i64_w _).symm.trans hji4_
 have hji4x : (l0.length : Int) ≤ 64 → (wrap64 (1 * 2 ^ (l0.length : Int).toNat)) = ji4 := fun h_ => (i64_w _).symm.trans (hji4z h_)
 have H' := Aside0.mk H
 clear H
 go_enter Try.func59, Try.ntmps59
 go_wp2_with (first | ((with_reducible refine gate_dst (N := 4) rfl ?_); refine box_event ?hg (N := 4) ?hd (cs := #[.slice none 0 0, .slice none 0 0]) (t := 29) ?hr ?_; (case hd => rfl); (case hg => rfl); (case hr => first | (go_simp; done) | (go_simp; rfl)); intro gb499 hg w5 hbox hb; have n0_ := Aside0.mk (blk_below (g := gp1_0) (o := .cells #[.slice A1_0 l1_0.length c1_0, .slice A1_1 l1_1.length c1_1] 29 (0, 0)) (zk BK496) hb); have n1_ := Aside0.mk (blk_below (g := gp1_1) (o := .cells #[.int .i64 a1_2] 3 (0, 0)) (zk BK497) hb); have n2_ := Aside0.mk (blk_below (g := gp1_2) (o := .cells #[.int .i64 a1_3] 3 (0, 0)) (zk BK498) hb); have n3_ := Aside0.mk (below_step zB hb); have n4_ := Aside0.mk (hbox); have n5_ := Aside0.mk ((by rw [hg]; exact (below_size zB) : w.heap.size ≤ gb499)); have n6_ := Aside0.mk ((by rw [hg]; exact (below_size zB) : w.heap.size ≤ gb499)); have n7_ := Aside0.mk ((by rw [hg]; exact Nat.ne_of_lt (blk_lt (g := gp1_0) (o := .cells #[.slice A1_0 l1_0.length c1_0, .slice A1_1 l1_1.length c1_1] 29 (0, 0)) (zk BK496)) : gp1_0 ≠ gb499)); have n8_ := Aside0.mk ((by rw [hg]; exact Nat.ne_of_gt (blk_lt (g := gp1_0) (o := .cells #[.slice A1_0 l1_0.length c1_0, .slice A1_1 l1_1.length c1_1] 29 (0, 0)) (zk BK496)) : gb499 ≠ gp1_0)); have n9_ := Aside0.mk ((by rw [hg]; exact Nat.ne_of_lt (blk_lt (g := gp1_1) (o := .cells #[.int .i64 a1_2] 3 (0, 0)) (zk BK497)) : gp1_1 ≠ gb499)); have n10_ := Aside0.mk ((by rw [hg]; exact Nat.ne_of_gt (blk_lt (g := gp1_1) (o := .cells #[.int .i64 a1_2] 3 (0, 0)) (zk BK497)) : gb499 ≠ gp1_1)); have n11_ := Aside0.mk ((by rw [hg]; exact Nat.ne_of_lt (blk_lt (g := gp1_2) (o := .cells #[.int .i64 a1_3] 3 (0, 0)) (zk BK498)) : gp1_2 ≠ gb499)); have n12_ := Aside0.mk ((by rw [hg]; exact Nat.ne_of_gt (blk_lt (g := gp1_2) (o := .cells #[.int .i64 a1_3] 3 (0, 0)) (zk BK498)) : gb499 ≠ gp1_2)); clear BK496; clear BK497; clear BK498; clear HB; have BK496 := n0_; have BK497 := n1_; have BK498 := n2_; have HB := n3_; have BK499 := n4_; have GW499 := n5_; have GE499 := n6_; have NB496_499 := n7_; have NB499_496 := n8_; have NB497_499 := n9_; have NB499_497 := n10_; have NB498_499 := n11_; have NB499_498 := n12_; clear n0_ n1_ n2_ n3_ n4_ n5_ n6_ n7_ n8_ n9_ n10_ n11_ n12_; clear hb hbox hg) | ((with_reducible refine gate_callee (f := 42) rfl ?_); refine goesL_ (some 8) rfl rfl Try.func42 zK rfl #[.slice A0 l0.length c0] rfl zM ?_; (with_reducible refine (slices_Clone_int_int.calls _ _ l0 t500 _ ?side1 ?side2 A3.out).mono ?_); (case side1 => repeat (first | exact (Kd.C_below HR0.out HB.out) | (with_reducible refine Kd.C_alloc ?_ _) | (with_reducible refine Kd.C_drewN ?_ _) | (with_reducible refine Kd.C_drew ?_))); (case side2 => exact HC0.out); rintro e w6 ⟨v501, rfl, ho0, hb⟩; refine ⟨_, rfl, ?_⟩; have n0_ := Aside0.mk (Kd.R_lower (Kd.R_newB (Kd.R_newB ho0 (g := gp1_1) (o := .cells #[.int .i64 a1_2] 3 (0, 0)) (zk BK497)) (g := gp1_2) (o := .cells #[.int .i64 a1_3] 3 (0, 0)) (zk BK498)) (below_size zB)); have n1_ := Aside0.mk (blk_below (g := gp1_0) (o := .cells #[.slice A1_0 l1_0.length c1_0, .slice A1_1 l1_1.length c1_1] 29 (0, 0)) (zk BK496) hb); have n2_ := Aside0.mk (blk_below (g := gp1_1) (o := .cells #[.int .i64 a1_2] 3 (0, 0)) (zk BK497) hb); have n3_ := Aside0.mk (blk_below (g := gp1_2) (o := .cells #[.int .i64 a1_3] 3 (0, 0)) (zk BK498) hb); have n4_ := Aside0.mk (blk_below (g := gb499) (o := .cells #[.slice none 0 0, .slice none 0 0] 29 (0, 0)) (zk BK499) hb); have n5_ := Aside0.mk (below_step zB hb); clear BK496; clear BK497; clear BK498; clear BK499; clear HB; have HO502 := n0_; have BK496 := n1_; have BK497 := n2_; have BK498 := n3_; have BK499 := n4_; have HB := n5_; clear n0_ n1_ n2_ n3_ n4_ n5_; (try clear hb); (try clear hb2); (try clear hk); (try clear hi); (try clear ho0); obtain ⟨Ao7, co7, eo7⟩ := Kd.R_slice HO502.out; subst eo7) | ((with_reducible refine gate_dst (N := 5) rfl ?_); refine box_event ?hg (N := 5) ?hd (cs := #[.slice none 0 0, .slice none 0 0]) (t := 29) ?hr ?_; (case hd => rfl); (case hg => rfl); (case hr => first | (go_simp; done) | (go_simp; rfl)); intro gb503 hg w8 hbox hb; have n0_ := Aside0.mk (Kd.R_below (zR HO502) hb); have n1_ := Aside0.mk (blk_below (g := gp1_0) (o := .cells #[.slice A1_0 l1_0.length c1_0, .slice A1_1 l1_1.length c1_1] 29 (0, 0)) (zk BK496) hb); have n2_ := Aside0.mk (blk_below (g := gp1_1) (o := .cells #[.int .i64 a1_2] 3 (0, 0)) (zk BK497) hb); have n3_ := Aside0.mk (blk_below (g := gp1_2) (o := .cells #[.int .i64 a1_3] 3 (0, 0)) (zk BK498) hb); have n4_ := Aside0.mk (blk_below (g := gb499) (o := .cells #[.slice none 0 0, .slice none 0 0] 29 (0, 0)) (zk BK499) hb); have n5_ := Aside0.mk (below_step zB hb); have n6_ := Aside0.mk (hbox); have n7_ := Aside0.mk ((by rw [hg]; exact (below_size zB) : w.heap.size ≤ gb503)); have n8_ := Aside0.mk ((by rw [hg]; exact (below_size zB) : w.heap.size ≤ gb503)); have n9_ := Aside0.mk ((by rw [hg]; exact Nat.ne_of_lt (blk_lt (g := gp1_0) (o := .cells #[.slice A1_0 l1_0.length c1_0, .slice A1_1 l1_1.length c1_1] 29 (0, 0)) (zk BK496)) : gp1_0 ≠ gb503)); have n10_ := Aside0.mk ((by rw [hg]; exact Nat.ne_of_gt (blk_lt (g := gp1_0) (o := .cells #[.slice A1_0 l1_0.length c1_0, .slice A1_1 l1_1.length c1_1] 29 (0, 0)) (zk BK496)) : gb503 ≠ gp1_0)); have n11_ := Aside0.mk ((by rw [hg]; exact Nat.ne_of_lt (blk_lt (g := gp1_1) (o := .cells #[.int .i64 a1_2] 3 (0, 0)) (zk BK497)) : gp1_1 ≠ gb503)); have n12_ := Aside0.mk ((by rw [hg]; exact Nat.ne_of_gt (blk_lt (g := gp1_1) (o := .cells #[.int .i64 a1_2] 3 (0, 0)) (zk BK497)) : gb503 ≠ gp1_1)); have n13_ := Aside0.mk ((by rw [hg]; exact Nat.ne_of_lt (blk_lt (g := gp1_2) (o := .cells #[.int .i64 a1_3] 3 (0, 0)) (zk BK498)) : gp1_2 ≠ gb503)); have n14_ := Aside0.mk ((by rw [hg]; exact Nat.ne_of_gt (blk_lt (g := gp1_2) (o := .cells #[.int .i64 a1_3] 3 (0, 0)) (zk BK498)) : gb503 ≠ gp1_2)); have n15_ := Aside0.mk ((by rw [hg]; exact Nat.ne_of_lt (blk_lt (g := gb499) (o := .cells #[.slice none 0 0, .slice none 0 0] 29 (0, 0)) (zk BK499)) : gb499 ≠ gb503)); have n16_ := Aside0.mk ((by rw [hg]; exact Nat.ne_of_gt (blk_lt (g := gb499) (o := .cells #[.slice none 0 0, .slice none 0 0] 29 (0, 0)) (zk BK499)) : gb503 ≠ gb499)); clear HO502; clear BK496; clear BK497; clear BK498; clear BK499; clear HB; have HO502 := n0_; have BK496 := n1_; have BK497 := n2_; have BK498 := n3_; have BK499 := n4_; have HB := n5_; have BK503 := n6_; have GW503 := n7_; have GE503 := n8_; have NB496_503 := n9_; have NB503_496 := n10_; have NB497_503 := n11_; have NB503_497 := n12_; have NB498_503 := n13_; have NB503_498 := n14_; have NB499_503 := n15_; have NB503_499 := n16_; clear n0_ n1_ n2_ n3_ n4_ n5_ n6_ n7_ n8_ n9_ n10_ n11_ n12_ n13_ n14_ n15_ n16_; clear hb hbox hg; have hnb9 := NB503_496.out; have hnc9 := NB496_503.out; have hnb10 := NB503_497.out; have hnc10 := NB497_503.out; have hnb11 := NB503_498.out; have hnc11 := NB498_503.out; have hnb12 := NB503_499.out; have hnc12 := NB499_503.out; have hcz13_0 : w8.cell? ⟨gb503, 0, none⟩ = some (.slice none 0 0) := (blk_cell BK503.out 0).trans rfl; have hcz13_1 : w8.cell? ⟨gb503, 1, none⟩ = some (.slice none 0 0) := (blk_cell BK503.out 1).trans rfl; have hfz13_0 := blk_frozen BK503.out 0; have hfz13_1 := blk_frozen BK503.out 1))
 go_loopg [13] k (fun kq v13 w' => ∃ (x13_1 : Int) (x504001_1 : List Int) (u504001 : Value), v13 = .int .i64 x13_1 ∧ Aside0 (table_over_table_Restrict_1.l0 kq l0 ji4 x13_1 l1_0 l1_1 a1_2 a1_3 t500 x504001_1 = some (r1, r2)) ∧ Aside0 (kq ≤ k) ∧ Aside0 (Kd.R (Kd.int .i64) 3 w' w.heap.size (fun k_ => some k_ ≠ (u504001 : Value).ownBlock ∧ k_ ≠ gp1_1 ∧ k_ ≠ gp1_2) (.slice Ao7 t500.length co7) t500) ∧ Aside0 (Kd.R (Kd.int .i64) 3 w' w.heap.size (fun k_ => some k_ ≠ ((.slice Ao7 t500.length co7) : Value).ownBlock ∧ k_ ≠ gp1_1 ∧ k_ ≠ gp1_2) u504001 x504001_1) ∧ Aside0 (w'.heap[gp1_0]? = some (.cells #[(.slice A1_0 l1_0.length c1_0), (.slice A1_1 l1_1.length c1_1)] 29 (0, 0))) ∧ Aside0 (w'.heap[gp1_1]? = some (.cells #[.int .i64 a1_2] 3 (0, 0))) ∧ Aside0 (w'.heap[gp1_2]? = some (.cells #[.int .i64 a1_3] 3 (0, 0))) ∧ Aside0 (w'.heap[gb499]? = some (.cells #[(.slice none 0 0), (.slice none 0 0)] 29 (0, 0))) ∧ Aside0 (w'.heap[gb503]? = some (.cells #[(.slice Ao7 t500.length co7), u504001] 29 (0, 0))) ∧ Aside0 (Below w.heap.size w w'))
 case atStart => exact ⟨(0), (([] : List Int)), (.slice none 0 0), zT, H', ⟨Nat.le_refl _⟩, ⟨by (with_reducible repeat (first | apply Kd.R_alloc | apply Kd.R_drewN | apply Kd.R_drew)); exact Kd.R_mono (Kd.R_far (p := ⟨gb503, 1, none⟩) (Kd.R_far (p := ⟨gb503, 0, none⟩) (Kd.R_types HO502.out BK503.out (by decide)) (fun _ hk => hk.2) (.slice Ao7 t500.length co7)) (fun _ hk => hk.2) (.slice none 0 0)) (fun _ hk => ⟨(by simp [Value.ownBlock]), ⟨hk.1.1.2, hk.1.2⟩⟩)⟩, ⟨by first | exact Kd.R_nil _ _ _ _ _ | exact Kd.N_nil _ _ _ _ _ | exact Kd.V_nil _ _ _ _ _ | exact Kd.Q_nil _ _ _ _ _ | exact Kd.S_nil _ _ _ _ _⟩, ⟨by (with_reducible repeat (first | refine blk_drewN ?_ _ | refine blk_drew ?_ | refine blk_alloc ?_ _)); refine blk_far ?_ NB496_503.out _; (with_reducible repeat (first | refine blk_drewN ?_ _ | refine blk_drew ?_ | refine blk_alloc ?_ _)); refine blk_far ?_ NB496_503.out _; (with_reducible repeat (first | refine blk_drewN ?_ _ | refine blk_drew ?_ | refine blk_alloc ?_ _)); exact BK496.out⟩, ⟨by (with_reducible repeat (first | refine blk_drewN ?_ _ | refine blk_drew ?_ | refine blk_alloc ?_ _)); refine blk_far ?_ NB497_503.out _; (with_reducible repeat (first | refine blk_drewN ?_ _ | refine blk_drew ?_ | refine blk_alloc ?_ _)); refine blk_far ?_ NB497_503.out _; (with_reducible repeat (first | refine blk_drewN ?_ _ | refine blk_drew ?_ | refine blk_alloc ?_ _)); exact BK497.out⟩, ⟨by (with_reducible repeat (first | refine blk_drewN ?_ _ | refine blk_drew ?_ | refine blk_alloc ?_ _)); refine blk_far ?_ NB498_503.out _; (with_reducible repeat (first | refine blk_drewN ?_ _ | refine blk_drew ?_ | refine blk_alloc ?_ _)); refine blk_far ?_ NB498_503.out _; (with_reducible repeat (first | refine blk_drewN ?_ _ | refine blk_drew ?_ | refine blk_alloc ?_ _)); exact BK498.out⟩, ⟨by (with_reducible repeat (first | refine blk_drewN ?_ _ | refine blk_drew ?_ | refine blk_alloc ?_ _)); refine blk_far ?_ NB499_503.out _; (with_reducible repeat (first | refine blk_drewN ?_ _ | refine blk_drew ?_ | refine blk_alloc ?_ _)); refine blk_far ?_ NB499_503.out _; (with_reducible repeat (first | refine blk_drewN ?_ _ | refine blk_drew ?_ | refine blk_alloc ?_ _)); exact BK499.out⟩, ⟨by (with_reducible repeat (first | refine blk_drewN ?_ _ | refine blk_drew ?_ | refine blk_alloc ?_ _)); refine blk_put (cs := #[.slice Ao7 t500.length co7, .slice none 0 0]) ?_ 1 _ rfl; (with_reducible repeat (first | refine blk_drewN ?_ _ | refine blk_drew ?_ | refine blk_alloc ?_ _)); refine blk_put (cs := #[.slice none 0 0, .slice none 0 0]) ?_ 0 _ rfl; (with_reducible repeat (first | refine blk_drewN ?_ _ | refine blk_drew ?_ | refine blk_alloc ?_ _)); exact BK503.out⟩, ⟨by repeat (first | (with_reducible first | exact HB.out | apply below_alloc | apply pw_below_drewN | apply below_drew1 | refine below_set ?_ GE496.out | refine below_set ?_ GE497.out | refine below_set ?_ GE498.out | refine below_set ?_ GE499.out | refine below_set ?_ GE503.out) | exact HB.out)⟩⟩
 case round =>
  clear H'
  try clear hcz13_0
  try clear hcz13_1
  try clear hfz13_0
  try clear hfz13_1
  obtain ⟨x13_1, x504001_1, u504001, rfl, HA, HK1, HO_504000, HO_504001, BK496, BK497, BK498, BK499, BK503, HB⟩ := hrel
  cases gk with
  | zero => exact absurd HA.out (by simp [table_over_table_Restrict_1.l0])
  | succ k1 =>
   have H := HA.out
   clear HA
   simp only [table_over_table_Restrict_1.l0] at H
   by_cases c14 : x13_1 < ji4
   ·rw [if_pos c14] at H
    have c14b0 : decide (x13_1 < ji4) = true := decide_eq_true c14
    clear c14
    replace H := Option.bind_eq_some_iff.mp H
    obtain ⟨t504, A150, H⟩ := H
    replace H : ((table_Restrict_1_v1.f k1 t504 l1_0 l1_1 a1_2 a1_3).bind fun t505 => (if t505 = true then (if x504001_1.length < 17592186044416 then (table_over_table_Restrict_1.l0 k1 l0 ji4 (wrap64 (x13_1 + 1)) l1_0 l1_1 a1_2 a1_3 t500 (x504001_1 ++ [x13_1])) else (none)) else (table_over_table_Restrict_1.l0 k1 l0 ji4 (wrap64 (x13_1 + 1)) l1_0 l1_1 a1_2 a1_3 t500 x504001_1))) = some (r1, r2) := H
    have A15 := Aside0.mk A150
    clear A150
    replace H := Option.bind_eq_some_iff.mp H
    obtain ⟨t505, A160, H⟩ := H
    replace H : (if t505 = true then (if x504001_1.length < 17592186044416 then (table_over_table_Restrict_1.l0 k1 l0 ji4 (wrap64 (x13_1 + 1)) l1_0 l1_1 a1_2 a1_3 t500 (x504001_1 ++ [x13_1])) else (none)) else (table_over_table_Restrict_1.l0 k1 l0 ji4 (wrap64 (x13_1 + 1)) l1_0 l1_1 a1_2 a1_3 t500 x504001_1)) = some (r1, r2) := H
    have A16 := Aside0.mk A160
    clear A160
    have HC17 := Aside0.mk H
    clear H
    go_upto_if 20 with (first | ((with_reducible refine gate_callee (f := 69) rfl ?_); refine goesL_ (some 19) rfl rfl Try.func69 zK rfl #[.slice A0 l0.length c0, .int .i64 x13_1] rfl zM ?_; (with_reducible refine (table_assignment.calls k1 _ _ l0 x13_1 t504 _ ?side1 ?side2 A15.out).mono ?_); (case side1 => repeat (first | exact (Kd.C_below HR0.out HB.out) | (with_reducible refine Kd.C_alloc ?_ _) | (with_reducible refine Kd.C_drewN ?_ _) | (with_reducible refine Kd.C_drew ?_))); (case side2 => exact HC0.out); rintro e w' ⟨rfl, ⟨nd, rfl⟩⟩; refine ⟨_, rfl, ?_⟩) | (go_at_call 61; (with_reducible refine (table_Restrict_1_v1.calls k1 t504 gp1_0 A1_0 c1_0 l1_0 A1_1 c1_1 l1_1 gp1_1 a1_2 gp1_2 a1_3 t505 _ ?side1 ?side2 ?side3 ?side4 ?side5 ?side6 ?side7 A16.out).mono ?_); (case side1 => repeat (first | exact (Kd.C_below HR1_0.out zB) | (with_reducible refine Kd.C_alloc ?_ _) | (with_reducible refine Kd.C_drewN ?_ _) | (with_reducible refine Kd.C_drew ?_))); (case side2 => exact HC1_0.out); (case side3 => repeat (first | exact (Kd.C_below HR1_1.out zB) | (with_reducible refine Kd.C_alloc ?_ _) | (with_reducible refine Kd.C_drewN ?_ _) | (with_reducible refine Kd.C_drew ?_))); (case side4 => exact HC1_1.out); (case side5 => (with_reducible repeat (first | refine blk_drewN ?_ _ | refine blk_drew ?_ | refine blk_alloc ?_ _)); exact BK496.out); (case side6 => (with_reducible repeat (first | refine blk_drewN ?_ _ | refine blk_drew ?_ | refine blk_alloc ?_ _)); exact BK497.out); (case side7 => (with_reducible repeat (first | refine blk_drewN ?_ _ | refine blk_drew ?_ | refine blk_alloc ?_ _)); exact BK498.out); rintro e w18 ⟨rfl, hb⟩; have n0_ := Aside0.mk (Kd.R_below (zR HO_504000) hb); have n1_ := Aside0.mk (Kd.R_below (zR HO_504001) hb); have n2_ := Aside0.mk (blk_below (g := gp1_0) (o := .cells #[.slice A1_0 l1_0.length c1_0, .slice A1_1 l1_1.length c1_1] 29 (0, 0)) (zk BK496) hb); have n3_ := Aside0.mk (blk_below (g := gp1_1) (o := .cells #[.int .i64 a1_2] 3 (0, 0)) (zk BK497) hb); have n4_ := Aside0.mk (blk_below (g := gp1_2) (o := .cells #[.int .i64 a1_3] 3 (0, 0)) (zk BK498) hb); have n5_ := Aside0.mk (blk_below (g := gb499) (o := .cells #[.slice none 0 0, .slice none 0 0] 29 (0, 0)) (zk BK499) hb); have n6_ := Aside0.mk (blk_below (g := gb503) (o := .cells #[.slice Ao7 t500.length co7, u504001] 29 (0, 0)) (zk BK503) hb); have n7_ := Aside0.mk (below_step zB hb); clear HO_504000; clear HO_504001; clear BK496; clear BK497; clear BK498; clear BK499; clear BK503; clear HB; have HO_504000 := n0_; have HO_504001 := n1_; have BK496 := n2_; have BK497 := n3_; have BK498 := n4_; have BK499 := n5_; have BK503 := n6_; have HB := n7_; clear n0_ n1_ n2_ n3_ n4_ n5_ n6_ n7_; (try clear hb); (try clear hb2); (try clear hk); (try clear hi)))
    (try simp only [Act.put, List.setIfInBounds_toArray, List.set_cons_zero, List.set_cons_succ])
    have H := HC17.out
    clear HC17
    by_cases c19 : t505 = true
    ·subst c19
     have H1 : (if x504001_1.length < 17592186044416 then (table_over_table_Restrict_1.l0 k1 l0 ji4 (wrap64 (x13_1 + 1)) l1_0 l1_1 a1_2 a1_3 t500 (x504001_1 ++ [x13_1])) else (none)) = some (r1, r2) := by rw [if_pos rfl] at H; exact H
     clear H
     have H := H1
     clear H1
     by_cases c20 : x504001_1.length < 17592186044416
     ·rw [if_pos c20] at H
      have LMc20 := Aside0.mk c20
      clear c20
      obtain ⟨y506, hy506⟩ : ∃ y_ : List Int, y_ = (x504001_1 ++ [x13_1]) := ⟨_, rfl⟩
      replace H : (table_over_table_Restrict_1.l0 k1 l0 ji4 (wrap64 (x13_1 + 1)) l1_0 l1_1 a1_2 a1_3 t500 y506) = some (r1, r2) := by first | (rw [hy506]; with_reducible exact H) | (have H2_ := (Option.bind_some _ _).symm.trans H; rw [hy506]; with_reducible exact H2_) | (have H2_ := (Option.bind_some _ _).symm.trans H; with_reducible exact H2_) | with_reducible exact H | (rw [hy506]; exact H) | exact H
      have Ny506 := Aside0.mk hy506
      clear hy506
      have H' := Aside0.mk H
      clear H
      have hnb21 := NB503_496.out
      have hnc21 := NB496_503.out
      have hnb22 := NB503_497.out
      have hnc22 := NB497_503.out
      have hnb23 := NB503_498.out
      have hnc23 := NB498_503.out
      have hnb24 := NB503_499.out
      have hnc24 := NB499_503.out
      have hcz25_0 : w18.cell? ⟨gb503, 0, none⟩ = some (.slice Ao7 t500.length co7) := (blk_cell BK503.out 0).trans rfl
      have hcz25_1 : w18.cell? ⟨gb503, 1, none⟩ = some (u504001) := (blk_cell BK503.out 1).trans rfl
      have hfz25_0 := blk_frozen BK503.out 0
      have hfz25_1 := blk_frozen BK503.out 1
      go_wp2_with (first | ((with_reducible refine gate_builtin (b := .append) (xs := #[.tmp 22, .tmp 24]) rfl ?_); at_builtin; refine Kd.R_append (Kd.int .i64) (w0 := w) w.heap.size rfl (.tmp 22) (.tmp 24) 27 3 (.int .i64 0) 8 rfl Try.underlying27 info3 rfl (by decide) (by omega) u504001 x504001_1 x13_1 [.int .i64 x13_1] (fun k_ => some k_ ≠ (.slice Ao7 t500.length co7 : Value).ownBlock ∧ k_ ≠ gp1_1 ∧ k_ ≠ gp1_2) (fun _ => False) rfl rfl ?aP (fun _ hk => hk.elim) ?aF ?aO ?aB ?aS ?aL ?_; (case aP => exact rfl); (case aB => exact zB); (case aF => exact (fun k_ hk => ⟨Kd.fresh' (Kd.R_lt (zR HO_504000)) k_ hk, Kd.freshB (g := gp1_1) (o := .cells #[.int .i64 a1_2] 3 (0, 0)) (zk BK497) k_ hk, Kd.freshB (g := gp1_2) (o := .cells #[.int .i64 a1_3] 3 (0, 0)) (zk BK498) k_ hk⟩)); (case aO => exact (zR HO_504001)); (case aS => exact (below_size zB)); (case aL => have := LMc20.out; omega); intro v507 w26 ho hb hg hat; rw [← Ny506.out] at ho; have n0_ := Aside0.mk (Kd.R_after (ok := (fun k_ => k_ ≠ gp1_1 ∧ k_ ≠ gp1_2)) (by (with_reducible repeat (first | apply Kd.R_alloc | apply Kd.R_drewN | apply Kd.R_drew)); exact Kd.R_mono HO_504000.out (fun _ hk => ⟨⟨hk.2.1, hk.2.2⟩, hk.1⟩)) hg hat); have n1_ := Aside0.mk (blk_grown (g := gp1_0) (o := .cells #[.slice A1_0 l1_0.length c1_0, .slice A1_1 l1_1.length c1_1] 29 (0, 0)) (zk BK496) hg (Kd.R_ne HO_504001.out BK496.out (by decide))); have n2_ := Aside0.mk (blk_grown (g := gp1_1) (o := .cells #[.int .i64 a1_2] 3 (0, 0)) (zk BK497) hg (Kd.R_away HO_504001.out (fun _ hk => hk.2.1))); have n3_ := Aside0.mk (blk_grown (g := gp1_2) (o := .cells #[.int .i64 a1_3] 3 (0, 0)) (zk BK498) hg (Kd.R_away HO_504001.out (fun _ hk => hk.2.2))); have n4_ := Aside0.mk (blk_grown (g := gb499) (o := .cells #[.slice none 0 0, .slice none 0 0] 29 (0, 0)) (zk BK499) hg (Kd.R_ne HO_504001.out BK499.out (by decide))); have n5_ := Aside0.mk (blk_grown (g := gb503) (o := .cells #[.slice Ao7 t500.length co7, u504001] 29 (0, 0)) (zk BK503) hg (Kd.R_ne HO_504001.out BK503.out (by decide))); have n6_ := Aside0.mk (hb); have n7_ := Aside0.mk (ho); clear HO_504000; clear BK496; clear BK497; clear BK498; clear BK499; clear BK503; clear HB; clear HO_504001; have HO_504000 := n0_; have BK496 := n1_; have BK497 := n2_; have BK498 := n3_; have BK499 := n4_; have BK503 := n5_; have HB := n6_; have HO508 := n7_; clear n0_ n1_ n2_ n3_ n4_ n5_ n6_ n7_; clear ho hb hg hat; obtain ⟨Ao27, co27, eo27⟩ := Kd.R_slice HO508.out; subst eo27; have hcz28_0 : w26.cell? ⟨gb503, 0, none⟩ = some (.slice Ao7 t500.length co7) := (blk_cell BK503.out 0).trans rfl; have hcz28_1 : w26.cell? ⟨gb503, 1, none⟩ = some (u504001) := (blk_cell BK503.out 1).trans rfl; have hfz28_0 := blk_frozen BK503.out 0; have hfz28_1 := blk_frozen BK503.out 1))
      go_roundg k1
      case measure => have := HK1.out; omega
      case rel => exact ⟨(wrap64 (x13_1 + 1)), (y506), (.slice Ao27 y506.length co27), zT, H', ⟨by have := HK1.out; omega⟩, ⟨by (with_reducible repeat (first | apply Kd.R_alloc | apply Kd.R_drewN | apply Kd.R_drew)); exact Kd.R_mono (Kd.R_far (p := ⟨gb503, 1, none⟩) (Kd.R_types HO_504000.out BK503.out (by decide)) (fun _ hk => hk.2) (.slice Ao27 y506.length co27)) (fun _ hk => ⟨hk.1.2, ⟨hk.1.1.1, hk.1.1.2⟩⟩)⟩, ⟨by (with_reducible repeat (first | apply Kd.R_alloc | apply Kd.R_drewN | apply Kd.R_drew)); exact Kd.R_mono (Kd.R_far (p := ⟨gb503, 1, none⟩) (Kd.R_types HO508.out BK503.out (by decide)) (fun _ hk => hk.2) (.slice Ao27 y506.length co27)) (fun _ hk => ⟨hk.1.1, ⟨hk.1.2.1, hk.1.2.2⟩⟩)⟩, ⟨by (with_reducible repeat (first | refine blk_drewN ?_ _ | refine blk_drew ?_ | refine blk_alloc ?_ _)); refine blk_far ?_ NB496_503.out _; (with_reducible repeat (first | refine blk_drewN ?_ _ | refine blk_drew ?_ | refine blk_alloc ?_ _)); exact BK496.out⟩, ⟨by (with_reducible repeat (first | refine blk_drewN ?_ _ | refine blk_drew ?_ | refine blk_alloc ?_ _)); refine blk_far ?_ NB497_503.out _; (with_reducible repeat (first | refine blk_drewN ?_ _ | refine blk_drew ?_ | refine blk_alloc ?_ _)); exact BK497.out⟩, ⟨by (with_reducible repeat (first | refine blk_drewN ?_ _ | refine blk_drew ?_ | refine blk_alloc ?_ _)); refine blk_far ?_ NB498_503.out _; (with_reducible repeat (first | refine blk_drewN ?_ _ | refine blk_drew ?_ | refine blk_alloc ?_ _)); exact BK498.out⟩, ⟨by (with_reducible repeat (first | refine blk_drewN ?_ _ | refine blk_drew ?_ | refine blk_alloc ?_ _)); refine blk_far ?_ NB499_503.out _; (with_reducible repeat (first | refine blk_drewN ?_ _ | refine blk_drew ?_ | refine blk_alloc ?_ _)); exact BK499.out⟩, ⟨by (with_reducible repeat (first | refine blk_drewN ?_ _ | refine blk_drew ?_ | refine blk_alloc ?_ _)); refine blk_put (cs := #[.slice Ao7 t500.length co7, u504001]) ?_ 1 _ rfl; (with_reducible repeat (first | refine blk_drewN ?_ _ | refine blk_drew ?_ | refine blk_alloc ?_ _)); exact BK503.out⟩, ⟨by repeat (first | (with_reducible first | exact HB.out | apply below_alloc | apply pw_below_drewN | apply below_drew1 | refine below_set ?_ GE496.out | refine below_set ?_ GE497.out | refine below_set ?_ GE498.out | refine below_set ?_ GE499.out | refine below_set ?_ GE503.out) | exact HB.out)⟩⟩
     ·rw [if_neg c20] at H
      exact absurd H (by simp)
    ·replace c19 := Bool.eq_false_iff.mpr c19
     subst c19
     have H1 : (table_over_table_Restrict_1.l0 k1 l0 ji4 (wrap64 (x13_1 + 1)) l1_0 l1_1 a1_2 a1_3 t500 x504001_1) = some (r1, r2) := by rw [if_neg (show ¬ (false = true) by decide)] at H; exact H
     clear H
     have H := H1
     clear H1
     have H' := Aside0.mk H
     clear H
     go_wp2
     go_roundg k1
     case measure => have := HK1.out; omega
     case rel => exact ⟨(wrap64 (x13_1 + 1)), (x504001_1), (u504001), zT, H', ⟨by have := HK1.out; omega⟩, ⟨by (with_reducible repeat (first | apply Kd.R_alloc | apply Kd.R_drewN | apply Kd.R_drew)); exact HO_504000.out⟩, ⟨by (with_reducible repeat (first | apply Kd.R_alloc | apply Kd.R_drewN | apply Kd.R_drew)); exact HO_504001.out⟩, ⟨by (with_reducible repeat (first | refine blk_drewN ?_ _ | refine blk_drew ?_ | refine blk_alloc ?_ _)); exact BK496.out⟩, ⟨by (with_reducible repeat (first | refine blk_drewN ?_ _ | refine blk_drew ?_ | refine blk_alloc ?_ _)); exact BK497.out⟩, ⟨by (with_reducible repeat (first | refine blk_drewN ?_ _ | refine blk_drew ?_ | refine blk_alloc ?_ _)); exact BK498.out⟩, ⟨by (with_reducible repeat (first | refine blk_drewN ?_ _ | refine blk_drew ?_ | refine blk_alloc ?_ _)); exact BK499.out⟩, ⟨by (with_reducible repeat (first | refine blk_drewN ?_ _ | refine blk_drew ?_ | refine blk_alloc ?_ _)); exact BK503.out⟩, ⟨by repeat (first | (with_reducible first | exact HB.out | apply below_alloc | apply pw_below_drewN | apply below_drew1 | refine below_set ?_ GE496.out | refine below_set ?_ GE497.out | refine below_set ?_ GE498.out | refine below_set ?_ GE499.out | refine below_set ?_ GE503.out) | exact HB.out)⟩⟩
   ·rw [if_neg c14] at H
    have c14b0 : decide (x13_1 < ji4) = false := decide_eq_false c14
    clear c14
    simp only [Option.some.injEq, Prod.mk.injEq] at H
    obtain ⟨rfl, rfl⟩ := H
    have hnb29 := NB503_496.out
    have hnc29 := NB496_503.out
    have hnb30 := NB503_497.out
    have hnc30 := NB497_503.out
    have hnb31 := NB503_498.out
    have hnc31 := NB498_503.out
    have hnb32 := NB503_499.out
    have hnc32 := NB499_503.out
    have hcz33_0 : wr.cell? ⟨gb503, 0, none⟩ = some (.slice Ao7 t500.length co7) := (blk_cell BK503.out 0).trans rfl
    have hcz33_1 : wr.cell? ⟨gb503, 1, none⟩ = some (u504001) := (blk_cell BK503.out 1).trans rfl
    have hfz33_0 := blk_frozen BK503.out 0
    have hfz33_1 := blk_frozen BK503.out 1
    have hnb34 := NB499_496.out
    have hnc34 := NB496_499.out
    have hnb35 := NB499_497.out
    have hnc35 := NB497_499.out
    have hnb36 := NB499_498.out
    have hnc36 := NB498_499.out
    have hcz37_0 : wr.cell? ⟨gb499, 0, none⟩ = some (.slice none 0 0) := (blk_cell BK499.out 0).trans rfl
    have hcz37_1 : wr.cell? ⟨gb499, 1, none⟩ = some (.slice none 0 0) := (blk_cell BK499.out 1).trans rfl
    have hfz37_0 := blk_frozen BK499.out 0
    have hfz37_1 := blk_frozen BK499.out 1
    obtain ⟨Ao38, co38, eo38⟩ := Kd.R_slice HO_504001.out
    subst eo38
    go_wp2
    refine bodyPost_ret (results_cell_row rfl _ _ gb499 29 #[.slice Ao7 t500.length co7, .slice Ao38 x504001_1.length co38] (0, 0) _ rfl (by (with_reducible repeat (first | refine blk_drewN ?_ _ | refine blk_drew ?_ | refine blk_alloc ?_ _)); refine blk_put (cs := #[.slice Ao7 t500.length co7, .slice none 0 0]) ?_ 1 _ rfl; (with_reducible repeat (first | refine blk_drewN ?_ _ | refine blk_drew ?_ | refine blk_alloc ?_ _)); refine blk_put (cs := #[.slice none 0 0, .slice none 0 0]) ?_ 0 _ rfl; (with_reducible repeat (first | refine blk_drewN ?_ _ | refine blk_drew ?_ | refine blk_alloc ?_ _)); exact BK499.out) Try.underlying29 rfl zK) rfl ?_
    exact ⟨_, _, by first | rfl | (simp [errW_none, errW_some] <;> rfl) | (simp only [← hji4]; first | rfl | (simp [errW_none, errW_some] <;> rfl)) | (simp [*, errW_none, errW_some] <;> rfl), by (with_reducible repeat (first | apply Kd.R_alloc | apply Kd.R_drewN | apply Kd.R_drew)); exact Kd.R_mono (Kd.R_far (p := ⟨gb499, 1, none⟩) (Kd.R_far (p := ⟨gb499, 0, none⟩) (Kd.R_types HO_504000.out BK499.out (by decide)) (fun _ hk => hk.2) (.slice Ao7 t500.length co7)) (fun _ hk => hk.2) (.slice Ao38 x504001_1.length co38)) (fun _ hk => hk.1.1), by (with_reducible repeat (first | apply Kd.R_alloc | apply Kd.R_drewN | apply Kd.R_drew)); exact Kd.R_mono (Kd.R_far (p := ⟨gb499, 1, none⟩) (Kd.R_far (p := ⟨gb499, 0, none⟩) (Kd.R_types HO_504001.out BK499.out (by decide)) (fun _ hk => hk.2) (.slice Ao7 t500.length co7)) (fun _ hk => hk.2) (.slice Ao38 x504001_1.length co38)) (fun _ hk => hk.1.1), by repeat (first | (with_reducible first | exact HB.out | apply below_alloc | apply pw_below_drewN | apply below_drew1 | refine below_set ?_ GE496.out | refine below_set ?_ GE497.out | refine below_set ?_ GE498.out | refine below_set ?_ GE499.out | refine below_set ?_ GE503.out) | exact HB.out)⟩
/-! ### table_Restrict: function 35 -/
def table_Restrict.j0 : Nat → Bool → List Int → List Int → Int → Int → Option (List Int × List Int × Int)
 | 0, _, _, _, _, _ => none
 | k + 1, x20, x510000, x510001, x511000, x512000 => if x20 = true then (some (([] : List Int), ([] : List Int), 6)) else ((slices_Contains_int_int.f k x510000 x511000).bind fun t514 => (if t514 = true then ((table_without.f x510000 x511000).bind fun t515 => ((table_over_table_Restrict_1.f k t515 x510000 x510001 x512000 x511000).bind fun bt518 => (some (bt518.1, bt518.2, 0)))) else (some (([] : List Int), ([] : List Int), 4))))
def table_Restrict.f (k : Nat) (l0_0 : List Int) (l0_1 : List Int) (a1 : Int) (a2 : Int) : Option (List Int × List Int × Int) := (table_Valid.f k l0_0 l0_1).bind fun t513 => (if t513 = 0 then (if a2 = 0 then (table_Restrict.j0 k false l0_0 l0_1 a1 a2) else (table_Restrict.j0 k (a2 != 1) l0_0 l0_1 a1 a2)) else (some (([] : List Int), ([] : List Int), t513)))
theorem table_Restrict.mono_l : ∀ k, (∀ y0 y1 y2 y3 y4, LeO (table_Restrict.j0 k y0 y1 y2 y3 y4) (table_Restrict.j0 (k + 1) y0 y1 y2 y3 y4))
 | 0 => fun _ _ _ _ _ r h => by simp [table_Restrict.j0] at h
 | k + 1 => by
  have ih0 := table_Restrict.mono_l k
  ·intro y0 y1 y2 y3 y4
   unfold table_Restrict.j0
   repeat' first
   | (with_reducible exact ih0 _ _ _ _ _)
   | (with_reducible exact slices_Contains_int_int.mono _ _ _)
   | (with_reducible exact table_Valid.mono _ _ _)
   | (with_reducible exact table_over_table_Restrict_1.mono _ _ _ _ _ _)
   | (with_reducible exact LeO.refl _)
   | (with_reducible exact LeO.none _)
   | (with_reducible refine LeO.ite ?_ ?_)
   | (with_reducible refine LeO.bind ?_ (fun _ => ?_))
   | exact ih0 _ _ _ _ _
   | exact slices_Contains_int_int.mono _ _ _
   | exact table_Valid.mono _ _ _
   | exact table_over_table_Restrict_1.mono _ _ _ _ _ _
   | exact LeO.none _
   | refine LeO.ite ?_ ?_
   | refine LeO.bind ?_ (fun _ => ?_)
theorem table_Restrict.mono : ∀ a0 a1 a2 a3 k, LeO (table_Restrict.f k a0 a1 a2 a3) (table_Restrict.f (k + 1) a0 a1 a2 a3) := by
 intro a0 a1 a2 a3 k
 have ih0 := table_Restrict.mono_l k
 unfold table_Restrict.f
 repeat' first
   | (with_reducible exact ih0 _ _ _ _ _)
   | (with_reducible exact slices_Contains_int_int.mono _ _ _)
   | (with_reducible exact table_Valid.mono _ _ _)
   | (with_reducible exact table_over_table_Restrict_1.mono _ _ _ _ _ _)
   | (with_reducible exact LeO.refl _)
   | (with_reducible exact LeO.none _)
   | (with_reducible refine LeO.ite ?_ ?_)
   | (with_reducible refine LeO.bind ?_ (fun _ => ?_))
   | exact ih0 _ _ _ _ _
   | exact slices_Contains_int_int.mono _ _ _
   | exact table_Valid.mono _ _ _
   | exact table_over_table_Restrict_1.mono _ _ _ _ _ _
   | exact LeO.none _
   | refine LeO.ite ?_ ?_
   | refine LeO.bind ?_ (fun _ => ?_)
set_option maxHeartbeats 8000000 in
set_option maxRecDepth 100000 in
theorem table_Restrict.calls (k : Nat) (A0_0 : Option Addr) (c0_0 : Nat) (l0_0 : List Int) (A0_1 : Option Addr) (c0_1 : Nat) (l0_1 : List Int) (a1 : Int) (a2 : Int) (r1 : List Int) (r2 : List Int) (r3 : Int) (w : World) (hr0_0 : Kd.C (Kd.int .i64) w A0_0 l0_0.length l0_0) (hc0_0 : l0_0.length ≤ c0_0) (hr0_1 : Kd.C (Kd.int .i64) w A0_1 l0_1.length l0_1) (hc0_1 : l0_1.length ≤ c0_1) (h : table_Restrict.f k l0_0 l0_1 a1 a2 = some (r1, r2, r3)) :
  Calls Try.prog 35 #[.agg #[.slice A0_0 l0_0.length c0_0, .slice A0_1 l0_1.length c0_1], .int .i64 a1, .int .i64 a2] w fun e w' => ∃ v0_ v1_ : Value, e = .returned (.tuple #[.agg #[v0_, v1_], .int .i64 r3]) ∧ Kd.R (Kd.int .i64) 3 w' w.heap.size (fun k_ => some k_ ≠ (v1_ : Value).ownBlock) v0_ r1 ∧ Kd.R (Kd.int .i64) 3 w' w.heap.size (fun k_ => some k_ ≠ (v0_ : Value).ownBlock) v1_ r2 ∧ Below w.heap.size w w' := by
 have hu29 := Try.underlying29
 have hu3 := Try.underlying3
 have hu27 := Try.underlying27
 have HR0_0 := Aside0.mk hr0_0
 have HC0_0 := Aside0.mk hc0_0
 clear hr0_0 hc0_0
 have HR0_1 := Aside0.mk hr0_1
 have HC0_1 := Aside0.mk hc0_1
 clear hr0_1 hc0_1
 have HB := Aside0.mk (Below.refl w.heap.size w)
 have H : ((table_Valid.f k l0_0 l0_1).bind fun t513 => (if t513 = 0 then (if a2 = 0 then (table_Restrict.j0 k false l0_0 l0_1 a1 a2) else (table_Restrict.j0 k (a2 != 1) l0_0 l0_1 a1 a2)) else (some (([] : List Int), ([] : List Int), t513)))) = some (r1, r2, r3) := h
 clear h
 replace H := Option.bind_eq_some_iff.mp H
 obtain ⟨t513, A40, H⟩ := H
 replace H : (if t513 = 0 then (if a2 = 0 then (table_Restrict.j0 k false l0_0 l0_1 a1 a2) else (table_Restrict.j0 k (a2 != 1) l0_0 l0_1 a1 a2)) else (some (([] : List Int), ([] : List Int), t513))) = some (r1, r2, r3) := H
 have A4 := Aside0.mk A40
 clear A40
 have HC5 := Aside0.mk H
 clear H
 go_enter Try.func35, Try.ntmps35
 go_upto_if 12 with (first | ((with_reducible refine gate_dst (N := 3) rfl ?_); refine box_event ?hg (N := 3) ?hd (cs := #[.slice A0_0 l0_0.length c0_0, .slice A0_1 l0_1.length c0_1]) (t := 29) ?hr ?_; (case hd => rfl); (case hg => rfl); (case hr => first | (go_simp; done) | (go_simp; rfl)); intro gb509 hg w6 hbox hb; have n0_ := Aside0.mk (below_step zB hb); have n1_ := Aside0.mk (hbox); have n2_ := Aside0.mk ((by rw [hg]; exact (below_size zB) : w.heap.size ≤ gb509)); have n3_ := Aside0.mk ((by rw [hg]; exact (below_size zB) : w.heap.size ≤ gb509)); clear HB; have HB := n0_; have BK509 := n1_; have GW509 := n2_; have GE509 := n3_; clear n0_ n1_ n2_ n3_; clear hb hbox hg) | ((with_reducible refine gate_dst (N := 4) rfl ?_); refine box_event ?hg (N := 4) ?hd (cs := #[.int .i64 a1]) (t := 3) ?hr ?_; (case hd => rfl); (case hg => rfl); (case hr => first | (go_simp; done) | (go_simp; rfl)); intro gb510 hg w7 hbox hb; have n0_ := Aside0.mk (blk_below (g := gb509) (o := .cells #[.slice A0_0 l0_0.length c0_0, .slice A0_1 l0_1.length c0_1] 29 (0, 0)) (zk BK509) hb); have n1_ := Aside0.mk (below_step zB hb); have n2_ := Aside0.mk (hbox); have n3_ := Aside0.mk ((by rw [hg]; exact (below_size zB) : w.heap.size ≤ gb510)); have n4_ := Aside0.mk ((by rw [hg]; exact (below_size zB) : w.heap.size ≤ gb510)); have n5_ := Aside0.mk ((by rw [hg]; exact Nat.ne_of_lt (blk_lt (g := gb509) (o := .cells #[.slice A0_0 l0_0.length c0_0, .slice A0_1 l0_1.length c0_1] 29 (0, 0)) (zk BK509)) : gb509 ≠ gb510)); have n6_ := Aside0.mk ((by rw [hg]; exact Nat.ne_of_gt (blk_lt (g := gb509) (o := .cells #[.slice A0_0 l0_0.length c0_0, .slice A0_1 l0_1.length c0_1] 29 (0, 0)) (zk BK509)) : gb510 ≠ gb509)); clear BK509; clear HB; have BK509 := n0_; have HB := n1_; have BK510 := n2_; have GW510 := n3_; have GE510 := n4_; have NB509_510 := n5_; have NB510_509 := n6_; clear n0_ n1_ n2_ n3_ n4_ n5_ n6_; clear hb hbox hg) | ((with_reducible refine gate_dst (N := 5) rfl ?_); refine box_event ?hg (N := 5) ?hd (cs := #[.int .i64 a2]) (t := 3) ?hr ?_; (case hd => rfl); (case hg => rfl); (case hr => first | (go_simp; done) | (go_simp; rfl)); intro gb511 hg w8 hbox hb; have n0_ := Aside0.mk (blk_below (g := gb509) (o := .cells #[.slice A0_0 l0_0.length c0_0, .slice A0_1 l0_1.length c0_1] 29 (0, 0)) (zk BK509) hb); have n1_ := Aside0.mk (blk_below (g := gb510) (o := .cells #[.int .i64 a1] 3 (0, 0)) (zk BK510) hb); have n2_ := Aside0.mk (below_step zB hb); have n3_ := Aside0.mk (hbox); have n4_ := Aside0.mk ((by rw [hg]; exact (below_size zB) : w.heap.size ≤ gb511)); have n5_ := Aside0.mk ((by rw [hg]; exact (below_size zB) : w.heap.size ≤ gb511)); have n6_ := Aside0.mk ((by rw [hg]; exact Nat.ne_of_lt (blk_lt (g := gb509) (o := .cells #[.slice A0_0 l0_0.length c0_0, .slice A0_1 l0_1.length c0_1] 29 (0, 0)) (zk BK509)) : gb509 ≠ gb511)); have n7_ := Aside0.mk ((by rw [hg]; exact Nat.ne_of_gt (blk_lt (g := gb509) (o := .cells #[.slice A0_0 l0_0.length c0_0, .slice A0_1 l0_1.length c0_1] 29 (0, 0)) (zk BK509)) : gb511 ≠ gb509)); have n8_ := Aside0.mk ((by rw [hg]; exact Nat.ne_of_lt (blk_lt (g := gb510) (o := .cells #[.int .i64 a1] 3 (0, 0)) (zk BK510)) : gb510 ≠ gb511)); have n9_ := Aside0.mk ((by rw [hg]; exact Nat.ne_of_gt (blk_lt (g := gb510) (o := .cells #[.int .i64 a1] 3 (0, 0)) (zk BK510)) : gb511 ≠ gb510)); clear BK509; clear BK510; clear HB; have BK509 := n0_; have BK510 := n1_; have HB := n2_; have BK511 := n3_; have GW511 := n4_; have GE511 := n5_; have NB509_511 := n6_; have NB511_509 := n7_; have NB510_511 := n8_; have NB511_510 := n9_; clear n0_ n1_ n2_ n3_ n4_ n5_ n6_ n7_ n8_ n9_; clear hb hbox hg) | ((with_reducible refine gate_dst (N := 6) rfl ?_); refine box_event ?hg (N := 6) ?hd (cs := #[.slice none 0 0, .slice none 0 0]) (t := 29) ?hr ?_; (case hd => rfl); (case hg => rfl); (case hr => first | (go_simp; done) | (go_simp; rfl)); intro gb512 hg w9 hbox hb; have n0_ := Aside0.mk (blk_below (g := gb509) (o := .cells #[.slice A0_0 l0_0.length c0_0, .slice A0_1 l0_1.length c0_1] 29 (0, 0)) (zk BK509) hb); have n1_ := Aside0.mk (blk_below (g := gb510) (o := .cells #[.int .i64 a1] 3 (0, 0)) (zk BK510) hb); have n2_ := Aside0.mk (blk_below (g := gb511) (o := .cells #[.int .i64 a2] 3 (0, 0)) (zk BK511) hb); have n3_ := Aside0.mk (below_step zB hb); have n4_ := Aside0.mk (hbox); have n5_ := Aside0.mk ((by rw [hg]; exact (below_size zB) : w.heap.size ≤ gb512)); have n6_ := Aside0.mk ((by rw [hg]; exact (below_size zB) : w.heap.size ≤ gb512)); have n7_ := Aside0.mk ((by rw [hg]; exact Nat.ne_of_lt (blk_lt (g := gb509) (o := .cells #[.slice A0_0 l0_0.length c0_0, .slice A0_1 l0_1.length c0_1] 29 (0, 0)) (zk BK509)) : gb509 ≠ gb512)); have n8_ := Aside0.mk ((by rw [hg]; exact Nat.ne_of_gt (blk_lt (g := gb509) (o := .cells #[.slice A0_0 l0_0.length c0_0, .slice A0_1 l0_1.length c0_1] 29 (0, 0)) (zk BK509)) : gb512 ≠ gb509)); have n9_ := Aside0.mk ((by rw [hg]; exact Nat.ne_of_lt (blk_lt (g := gb510) (o := .cells #[.int .i64 a1] 3 (0, 0)) (zk BK510)) : gb510 ≠ gb512)); have n10_ := Aside0.mk ((by rw [hg]; exact Nat.ne_of_gt (blk_lt (g := gb510) (o := .cells #[.int .i64 a1] 3 (0, 0)) (zk BK510)) : gb512 ≠ gb510)); have n11_ := Aside0.mk ((by rw [hg]; exact Nat.ne_of_lt (blk_lt (g := gb511) (o := .cells #[.int .i64 a2] 3 (0, 0)) (zk BK511)) : gb511 ≠ gb512)); have n12_ := Aside0.mk ((by rw [hg]; exact Nat.ne_of_gt (blk_lt (g := gb511) (o := .cells #[.int .i64 a2] 3 (0, 0)) (zk BK511)) : gb512 ≠ gb511)); clear BK509; clear BK510; clear BK511; clear HB; have BK509 := n0_; have BK510 := n1_; have BK511 := n2_; have HB := n3_; have BK512 := n4_; have GW512 := n5_; have GE512 := n6_; have NB509_512 := n7_; have NB512_509 := n8_; have NB510_512 := n9_; have NB512_510 := n10_; have NB511_512 := n11_; have NB512_511 := n12_; clear n0_ n1_ n2_ n3_ n4_ n5_ n6_ n7_ n8_ n9_ n10_ n11_ n12_; clear hb hbox hg; have hnb10 := NB509_510.out; have hnc10 := NB510_509.out; have hnb11 := NB509_511.out; have hnc11 := NB511_509.out; have hnb12 := NB509_512.out; have hnc12 := NB512_509.out; have hcz13_0 : w9.cell? ⟨gb509, 0, none⟩ = some (.slice A0_0 l0_0.length c0_0) := (blk_cell BK509.out 0).trans rfl; have hcz13_1 : w9.cell? ⟨gb509, 1, none⟩ = some (.slice A0_1 l0_1.length c0_1) := (blk_cell BK509.out 1).trans rfl; have hfz13_0 := blk_frozen BK509.out 0; have hfz13_1 := blk_frozen BK509.out 1) | ((with_reducible refine gate_callee (f := 25) rfl ?_); refine goesL_ (some 10) rfl rfl Try.func25 zK rfl #[.agg #[.slice A0_0 l0_0.length c0_0, .slice A0_1 l0_1.length c0_1]] rfl zM ?_; (with_reducible refine (table_Valid.calls k _ _ l0_0 _ _ l0_1 t513 _ ?side1 ?side2 ?side3 ?side4 A4.out).mono ?_); (case side1 => repeat (first | exact (Kd.C_below HR0_0.out HB.out) | (with_reducible refine Kd.C_alloc ?_ _) | (with_reducible refine Kd.C_drewN ?_ _) | (with_reducible refine Kd.C_drew ?_))); (case side2 => exact HC0_0.out); (case side3 => repeat (first | exact (Kd.C_below HR0_1.out HB.out) | (with_reducible refine Kd.C_alloc ?_ _) | (with_reducible refine Kd.C_drewN ?_ _) | (with_reducible refine Kd.C_drew ?_))); (case side4 => exact HC0_1.out); rintro e w14 ⟨rfl, hb⟩; refine ⟨_, rfl, ?_⟩; have n0_ := Aside0.mk (blk_below (g := gb509) (o := .cells #[.slice A0_0 l0_0.length c0_0, .slice A0_1 l0_1.length c0_1] 29 (0, 0)) (zk BK509) hb); have n1_ := Aside0.mk (blk_below (g := gb510) (o := .cells #[.int .i64 a1] 3 (0, 0)) (zk BK510) hb); have n2_ := Aside0.mk (blk_below (g := gb511) (o := .cells #[.int .i64 a2] 3 (0, 0)) (zk BK511) hb); have n3_ := Aside0.mk (blk_below (g := gb512) (o := .cells #[.slice none 0 0, .slice none 0 0] 29 (0, 0)) (zk BK512) hb); have n4_ := Aside0.mk (below_step zB hb); clear BK509; clear BK510; clear BK511; clear BK512; clear HB; have BK509 := n0_; have BK510 := n1_; have BK511 := n2_; have BK512 := n3_; have HB := n4_; clear n0_ n1_ n2_ n3_ n4_; (try clear hb); (try clear hb2); (try clear hk); (try clear hi)))
 (try simp only [Act.put, List.setIfInBounds_toArray, List.set_cons_zero, List.set_cons_succ])
 have H := HC5.out
 clear HC5
 by_cases c15 : t513 = 0
 ·rw [if_pos c15] at H
  have c15b0 : (t513 == 0) = true := beq_iff_eq.mpr c15
  have c15b1 : (t513 != 0) = false := bne_eq_false_iff_eq.mpr c15
  clear c15
  (first | rw [c15b0] | (simp only [i64_w, i32_w]; rw [c15b0]) | skip)
  (try rw [c15b1])
  have HC16 := Aside0.mk H
  clear H
  go_upto_region 4 with (fail)
  go_cut [20] (fun v20 wc => ∃ (kq : Nat) (x20_15 : Bool), v20 = .bool x20_15 ∧ Aside0 (table_Restrict.j0 kq x20_15 l0_0 l0_1 a1 a2 = some (r1, r2, r3)) ∧ Aside0 (kq ≤ k) ∧ Aside0 (wc.heap[gb509]? = some (.cells #[(.slice A0_0 l0_0.length c0_0), (.slice A0_1 l0_1.length c0_1)] 29 (0, 0))) ∧ Aside0 (wc.heap[gb510]? = some (.cells #[.int .i64 a1] 3 (0, 0))) ∧ Aside0 (wc.heap[gb511]? = some (.cells #[.int .i64 a2] 3 (0, 0))) ∧ Aside0 (wc.heap[gb512]? = some (.cells #[(.slice none 0 0), (.slice none 0 0)] 29 (0, 0))) ∧ Aside0 (Below w.heap.size w wc))
  case first =>
   have H := HC16.out
   clear HC16
   by_cases c17 : a2 = 0
   ·rw [if_pos c17] at H
    have c17b0 : (a2 == 0) = true := beq_iff_eq.mpr c17
    have c17b1 : (a2 != 0) = false := bne_eq_false_iff_eq.mpr c17
    clear c17
    (first | rw [c17b0] | (simp only [i64_w, i32_w]; rw [c17b0]) | skip)
    (try rw [c17b1])
    have H' := Aside0.mk H
    clear H
    have hnb18 := NB511_509.out
    have hnc18 := NB509_511.out
    have hnb19 := NB511_510.out
    have hnc19 := NB510_511.out
    have hnb20 := NB511_512.out
    have hnc20 := NB512_511.out
    have hcz21_0 : w14.cell? ⟨gb511, 0, none⟩ = some (.int .i64 a2) := (blk_cell BK511.out 0).trans rfl
    have hfz21_0 := blk_frozen BK511.out 0
    go_wp2
    go_meet
    case rel => exact ⟨_, (false), zT, H', ⟨by first | omega | exact Nat.le_refl _⟩, ⟨by (with_reducible repeat (first | refine blk_drewN ?_ _ | refine blk_drew ?_ | refine blk_alloc ?_ _)); exact BK509.out⟩, ⟨by (with_reducible repeat (first | refine blk_drewN ?_ _ | refine blk_drew ?_ | refine blk_alloc ?_ _)); exact BK510.out⟩, ⟨by (with_reducible repeat (first | refine blk_drewN ?_ _ | refine blk_drew ?_ | refine blk_alloc ?_ _)); exact BK511.out⟩, ⟨by (with_reducible repeat (first | refine blk_drewN ?_ _ | refine blk_drew ?_ | refine blk_alloc ?_ _)); exact BK512.out⟩, ⟨by repeat (first | (with_reducible first | exact HB.out | apply below_alloc | apply pw_below_drewN | apply below_drew1 | refine below_set ?_ GE509.out | refine below_set ?_ GE510.out | refine below_set ?_ GE511.out | refine below_set ?_ GE512.out) | exact HB.out)⟩⟩
   ·rw [if_neg c17] at H
    have c17b0 : (a2 == 0) = false := beq_eq_false_iff_ne.mpr c17
    have c17b1 : (a2 != 0) = true := bne_iff_ne.mpr c17
    (first | rw [c17b0] | (simp only [i64_w, i32_w]; rw [c17b0]) | skip)
    (try rw [c17b1])
    have H' := Aside0.mk H
    clear H
    have hnb22 := NB511_509.out
    have hnc22 := NB509_511.out
    have hnb23 := NB511_510.out
    have hnc23 := NB510_511.out
    have hnb24 := NB511_512.out
    have hnc24 := NB512_511.out
    have hcz25_0 : w14.cell? ⟨gb511, 0, none⟩ = some (.int .i64 a2) := (blk_cell BK511.out 0).trans rfl
    have hfz25_0 := blk_frozen BK511.out 0
    go_wp2
    go_meet
    case rel => exact ⟨_, ((a2 != 1)), zT, H', ⟨by first | omega | exact Nat.le_refl _⟩, ⟨by (with_reducible repeat (first | refine blk_drewN ?_ _ | refine blk_drew ?_ | refine blk_alloc ?_ _)); exact BK509.out⟩, ⟨by (with_reducible repeat (first | refine blk_drewN ?_ _ | refine blk_drew ?_ | refine blk_alloc ?_ _)); exact BK510.out⟩, ⟨by (with_reducible repeat (first | refine blk_drewN ?_ _ | refine blk_drew ?_ | refine blk_alloc ?_ _)); exact BK511.out⟩, ⟨by (with_reducible repeat (first | refine blk_drewN ?_ _ | refine blk_drew ?_ | refine blk_alloc ?_ _)); exact BK512.out⟩, ⟨by repeat (first | (with_reducible first | exact HB.out | apply below_alloc | apply pw_below_drewN | apply below_drew1 | refine below_set ?_ GE509.out | refine below_set ?_ GE510.out | refine below_set ?_ GE511.out | refine below_set ?_ GE512.out) | exact HB.out)⟩⟩
  case rest =>
   clear HC16
   try clear c15
   try clear c15b0
   try clear c15b1
   try clear hcz13_0
   try clear hcz13_1
   try clear hfz13_0
   try clear hfz13_1
   obtain ⟨kq, x20_15, rfl, HA, HJ15, BK509, BK510, BK511, BK512, HB⟩ := hcut
   cases kq with
   | zero => exact absurd HA.out (by simp [table_Restrict.j0])
   | succ kj15 =>
    have H := HA.out
    clear HA
    simp only [table_Restrict.j0] at H
    by_cases c26 : x20_15 = true
    ·subst c26
     have H1 : (some (([] : List Int), ([] : List Int), 6)) = some (r1, r2, r3) := by rw [if_pos rfl] at H; exact H
     clear H
     have H := H1
     clear H1
     simp only [Option.some.injEq, Prod.mk.injEq] at H
     obtain ⟨rfl, rfl, rfl⟩ := H
     have hnb27 := NB512_509.out
     have hnc27 := NB509_512.out
     have hnb28 := NB512_510.out
     have hnc28 := NB510_512.out
     have hnb29 := NB512_511.out
     have hnc29 := NB511_512.out
     have hcz30_0 : wc.cell? ⟨gb512, 0, none⟩ = some (.slice none 0 0) := (blk_cell BK512.out 0).trans rfl
     have hcz30_1 : wc.cell? ⟨gb512, 1, none⟩ = some (.slice none 0 0) := (blk_cell BK512.out 1).trans rfl
     have hfz30_0 := blk_frozen BK512.out 0
     have hfz30_1 := blk_frozen BK512.out 1
     go_wp2
     refine bodyPost_ret (results_ct rfl _ _ gb512 29 #[.slice none 0 0, .slice none 0 0] (0, 0) _ rfl (by (with_reducible repeat (first | refine blk_drewN ?_ _ | refine blk_drew ?_ | refine blk_alloc ?_ _)); refine blk_put (cs := #[.slice none 0 0, .slice none 0 0]) ?_ 1 _ rfl; (with_reducible repeat (first | refine blk_drewN ?_ _ | refine blk_drew ?_ | refine blk_alloc ?_ _)); refine blk_put (cs := #[.slice none 0 0, .slice none 0 0]) ?_ 0 _ rfl; (with_reducible repeat (first | refine blk_drewN ?_ _ | refine blk_drew ?_ | refine blk_alloc ?_ _)); exact BK512.out) Try.underlying29 rfl zK) rfl ?_
     exact ⟨_, _, by first | rfl | (simp [errW_none, errW_some] <;> rfl) | (simp [*, errW_none, errW_some] <;> rfl), by first | exact Kd.R_nil _ _ _ _ _ | exact Kd.N_nil _ _ _ _ _ | exact Kd.V_nil _ _ _ _ _ | exact Kd.Q_nil _ _ _ _ _ | exact Kd.S_nil _ _ _ _ _, by first | exact Kd.R_nil _ _ _ _ _ | exact Kd.N_nil _ _ _ _ _ | exact Kd.V_nil _ _ _ _ _ | exact Kd.Q_nil _ _ _ _ _ | exact Kd.S_nil _ _ _ _ _, by repeat (first | (with_reducible first | exact HB.out | apply below_alloc | apply pw_below_drewN | apply below_drew1 | refine below_set ?_ GE509.out | refine below_set ?_ GE510.out | refine below_set ?_ GE511.out | refine below_set ?_ GE512.out) | exact HB.out)⟩
    ·replace c26 := Bool.eq_false_iff.mpr c26
     subst c26
     have H1 : ((slices_Contains_int_int.f kj15 l0_0 a1).bind fun t514 => (if t514 = true then ((table_without.f l0_0 a1).bind fun t515 => ((table_over_table_Restrict_1.f kj15 t515 l0_0 l0_1 a2 a1).bind fun bt518 => (some (bt518.1, bt518.2, 0)))) else (some (([] : List Int), ([] : List Int), 4)))) = some (r1, r2, r3) := by rw [if_neg (show ¬ (false = true) by decide)] at H; exact H
     clear H
     have H := H1
     clear H1
     replace H := Option.bind_eq_some_iff.mp H
     obtain ⟨t514, A310, H⟩ := H
     replace H : (if t514 = true then ((table_without.f l0_0 a1).bind fun t515 => ((table_over_table_Restrict_1.f kj15 t515 l0_0 l0_1 a2 a1).bind fun bt518 => (some (bt518.1, bt518.2, 0)))) else (some (([] : List Int), ([] : List Int), 4))) = some (r1, r2, r3) := H
     have A31 := Aside0.mk A310
     clear A310
     have HC32 := Aside0.mk H
     clear H
     have hnb33 := NB509_510.out
     have hnc33 := NB510_509.out
     have hnb34 := NB509_511.out
     have hnc34 := NB511_509.out
     have hnb35 := NB509_512.out
     have hnc35 := NB512_509.out
     have hcz36_0 : wc.cell? ⟨gb509, 0, none⟩ = some (.slice A0_0 l0_0.length c0_0) := (blk_cell BK509.out 0).trans rfl
     have hcz36_1 : wc.cell? ⟨gb509, 1, none⟩ = some (.slice A0_1 l0_1.length c0_1) := (blk_cell BK509.out 1).trans rfl
     have hfz36_0 := blk_frozen BK509.out 0
     have hfz36_1 := blk_frozen BK509.out 1
     have hnb37 := NB510_511.out
     have hnc37 := NB511_510.out
     have hnb38 := NB510_512.out
     have hnc38 := NB512_510.out
     have hcz39_0 : wc.cell? ⟨gb510, 0, none⟩ = some (.int .i64 a1) := (blk_cell BK510.out 0).trans rfl
     have hfz39_0 := blk_frozen BK510.out 0
     go_upto_if 26 with (first | ((with_reducible refine gate_callee (f := 38) rfl ?_); refine goesL_ (some 25) rfl rfl Try.func38 zK rfl #[.slice A0_0 l0_0.length c0_0, .int .i64 a1] rfl zM ?_; (with_reducible refine (slices_Contains_int_int.calls kj15 _ _ l0_0 a1 t514 _ ?side1 ?side2 A31.out).mono ?_); (case side1 => repeat (first | exact (Kd.C_below HR0_0.out HB.out) | (with_reducible refine Kd.C_alloc ?_ _) | (with_reducible refine Kd.C_drewN ?_ _) | (with_reducible refine Kd.C_drew ?_))); (case side2 => exact HC0_0.out); rintro e w' ⟨rfl, ⟨nd, rfl⟩⟩; refine ⟨_, rfl, ?_⟩))
     (try simp only [Act.put, List.setIfInBounds_toArray, List.set_cons_zero, List.set_cons_succ])
     have H := HC32.out
     clear HC32
     by_cases c40 : t514 = true
     ·subst c40
      have H1 : ((table_without.f l0_0 a1).bind fun t515 => ((table_over_table_Restrict_1.f kj15 t515 l0_0 l0_1 a2 a1).bind fun bt518 => (some (bt518.1, bt518.2, 0)))) = some (r1, r2, r3) := by rw [if_pos rfl] at H; exact H
      clear H
      have H := H1
      clear H1
      replace H := Option.bind_eq_some_iff.mp H
      obtain ⟨t515, A410, H⟩ := H
      replace H : ((table_over_table_Restrict_1.f kj15 t515 l0_0 l0_1 a2 a1).bind fun bt518 => (some (bt518.1, bt518.2, 0))) = some (r1, r2, r3) := H
      have A41 := Aside0.mk A410
      clear A410
      replace H := Option.bind_eq_some_iff.mp H
      obtain ⟨⟨t518, t521⟩, A420, H⟩ := H
      replace H : (some (t518, t521, 0)) = some (r1, r2, r3) := H
      have A42 := Aside0.mk A420
      clear A420
      simp only [Option.some.injEq, Prod.mk.injEq] at H
      obtain ⟨rfl, rfl, rfl⟩ := H
      have hnb43 := NB509_510.out
      have hnc43 := NB510_509.out
      have hnb44 := NB509_511.out
      have hnc44 := NB511_509.out
      have hnb45 := NB509_512.out
      have hnc45 := NB512_509.out
      have hcz46_0 : wc.cell? ⟨gb509, 0, none⟩ = some (.slice A0_0 l0_0.length c0_0) := (blk_cell BK509.out 0).trans rfl
      have hcz46_1 : wc.cell? ⟨gb509, 1, none⟩ = some (.slice A0_1 l0_1.length c0_1) := (blk_cell BK509.out 1).trans rfl
      have hfz46_0 := blk_frozen BK509.out 0
      have hfz46_1 := blk_frozen BK509.out 1
      have hnb47 := NB510_511.out
      have hnc47 := NB511_510.out
      have hnb48 := NB510_512.out
      have hnc48 := NB512_510.out
      have hcz49_0 : wc.cell? ⟨gb510, 0, none⟩ = some (.int .i64 a1) := (blk_cell BK510.out 0).trans rfl
      have hfz49_0 := blk_frozen BK510.out 0
      go_wp2_with (first | ((with_reducible refine gate_callee (f := 60) rfl ?_); refine goesL_ (some 31) rfl rfl Try.func60 zK rfl #[.slice A0_0 l0_0.length c0_0, .int .i64 a1] rfl zM ?_; (with_reducible refine (table_without.calls _ _ l0_0 a1 t515 _ ?side1 ?side2 A41.out).mono ?_); (case side1 => repeat (first | exact (Kd.C_below HR0_0.out HB.out) | (with_reducible refine Kd.C_alloc ?_ _) | (with_reducible refine Kd.C_drewN ?_ _) | (with_reducible refine Kd.C_drew ?_))); (case side2 => exact HC0_0.out); rintro e w50 ⟨v516, rfl, ho0, hb⟩; refine ⟨_, rfl, ?_⟩; have n0_ := Aside0.mk (Kd.R_lower (Kd.R_newB (Kd.R_newB ho0 (g := gb510) (o := .cells #[.int .i64 a1] 3 (0, 0)) (zk BK510)) (g := gb511) (o := .cells #[.int .i64 a2] 3 (0, 0)) (zk BK511)) (below_size zB)); have n1_ := Aside0.mk (blk_below (g := gb509) (o := .cells #[.slice A0_0 l0_0.length c0_0, .slice A0_1 l0_1.length c0_1] 29 (0, 0)) (zk BK509) hb); have n2_ := Aside0.mk (blk_below (g := gb510) (o := .cells #[.int .i64 a1] 3 (0, 0)) (zk BK510) hb); have n3_ := Aside0.mk (blk_below (g := gb511) (o := .cells #[.int .i64 a2] 3 (0, 0)) (zk BK511) hb); have n4_ := Aside0.mk (blk_below (g := gb512) (o := .cells #[.slice none 0 0, .slice none 0 0] 29 (0, 0)) (zk BK512) hb); have n5_ := Aside0.mk (below_step zB hb); clear BK509; clear BK510; clear BK511; clear BK512; clear HB; have HO517 := n0_; have BK509 := n1_; have BK510 := n2_; have BK511 := n3_; have BK512 := n4_; have HB := n5_; clear n0_ n1_ n2_ n3_ n4_ n5_; (try clear hb); (try clear hb2); (try clear hk); (try clear hi); (try clear ho0); obtain ⟨Ao51, co51, eo51⟩ := Kd.R_slice HO517.out; subst eo51) | ((with_reducible refine gate_callee (f := 59) rfl ?_); refine goesL_ (some 33) rfl rfl Try.func59 zK rfl #[.slice Ao51 t515.length co51, .func (.func 61) #[] #[.pointer (some ⟨gb509, 0, none⟩), .pointer (some ⟨gb511, 0, none⟩), .pointer (some ⟨gb510, 0, none⟩)]] rfl zM ?_; (with_reducible refine (table_over_table_Restrict_1.calls kj15 _ _ t515 gb509 gb511 gb510 A0_0 c0_0 l0_0 A0_1 c0_1 l0_1 a2 a1 t518 t521 _ ?side1 ?side2 ?side3 ?side4 ?side5 ?side6 ?side7 ?side8 ?side9 A42.out).mono ?_); (case side1 => repeat (first | exact (Kd.R_reads' HO517.out).2.2 | (with_reducible refine Kd.C_alloc ?_ _) | (with_reducible refine Kd.C_drewN ?_ _) | (with_reducible refine Kd.C_drew ?_))); (case side2 => exact (Kd.R_reads' HO517.out).2.1); (case side3 => repeat (first | exact (Kd.C_below HR0_0.out HB.out) | (with_reducible refine Kd.C_alloc ?_ _) | (with_reducible refine Kd.C_drewN ?_ _) | (with_reducible refine Kd.C_drew ?_))); (case side4 => exact HC0_0.out); (case side5 => repeat (first | exact (Kd.C_below HR0_1.out HB.out) | (with_reducible refine Kd.C_alloc ?_ _) | (with_reducible refine Kd.C_drewN ?_ _) | (with_reducible refine Kd.C_drew ?_))); (case side6 => exact HC0_1.out); (case side7 => (with_reducible repeat (first | refine blk_drewN ?_ _ | refine blk_drew ?_ | refine blk_alloc ?_ _)); exact BK509.out); (case side8 => (with_reducible repeat (first | refine blk_drewN ?_ _ | refine blk_drew ?_ | refine blk_alloc ?_ _)); exact BK511.out); (case side9 => (with_reducible repeat (first | refine blk_drewN ?_ _ | refine blk_drew ?_ | refine blk_alloc ?_ _)); exact BK510.out); rintro e w52 ⟨v519, v522, rfl, ho0, ho1, hb⟩; refine ⟨_, rfl, ?_⟩; have n0_ := Aside0.mk (Kd.R_mono (Kd.R_told (Kd.R_told (Kd.R_old (zR HO517) hb) (Kd.R_base ho0)) (Kd.R_base ho1)) (fun _ h_ => h_.1)); have n1_ := Aside0.mk (Kd.R_lower (Kd.R_newB (Kd.R_newB (Kd.R_new' ho0 (Kd.R_lt (zR HO517))) (g := gb510) (o := .cells #[.int .i64 a1] 3 (0, 0)) (zk BK510)) (g := gb511) (o := .cells #[.int .i64 a2] 3 (0, 0)) (zk BK511)) (below_size zB)); have n2_ := Aside0.mk (Kd.R_lower (Kd.R_newB (Kd.R_newB (Kd.R_new' ho1 (Kd.R_lt (zR HO517))) (g := gb510) (o := .cells #[.int .i64 a1] 3 (0, 0)) (zk BK510)) (g := gb511) (o := .cells #[.int .i64 a2] 3 (0, 0)) (zk BK511)) (below_size zB)); have n3_ := Aside0.mk (blk_below (g := gb509) (o := .cells #[.slice A0_0 l0_0.length c0_0, .slice A0_1 l0_1.length c0_1] 29 (0, 0)) (zk BK509) hb); have n4_ := Aside0.mk (blk_below (g := gb510) (o := .cells #[.int .i64 a1] 3 (0, 0)) (zk BK510) hb); have n5_ := Aside0.mk (blk_below (g := gb511) (o := .cells #[.int .i64 a2] 3 (0, 0)) (zk BK511) hb); have n6_ := Aside0.mk (blk_below (g := gb512) (o := .cells #[.slice none 0 0, .slice none 0 0] 29 (0, 0)) (zk BK512) hb); have n7_ := Aside0.mk (below_step zB hb); clear HO517; clear BK509; clear BK510; clear BK511; clear BK512; clear HB; have HO517 := n0_; have HO520 := n1_; have HO523 := n2_; have BK509 := n3_; have BK510 := n4_; have BK511 := n5_; have BK512 := n6_; have HB := n7_; clear n0_ n1_ n2_ n3_ n4_ n5_ n6_ n7_; (try clear hb); (try clear hb2); (try clear hk); (try clear hi); (try clear ho0); (try clear ho1); obtain ⟨Ao53, co53, eo53⟩ := Kd.R_slice HO520.out; subst eo53; have hnb54 := NB512_511.out; have hnc54 := NB511_512.out; have hcz55_0 : w52.cell? ⟨gb512, 0, none⟩ = some (.slice none 0 0) := (blk_cell BK512.out 0).trans rfl; have hcz55_1 : w52.cell? ⟨gb512, 1, none⟩ = some (.slice none 0 0) := (blk_cell BK512.out 1).trans rfl; have hfz55_0 := blk_frozen BK512.out 0; have hfz55_1 := blk_frozen BK512.out 1; obtain ⟨Ao56, co56, eo56⟩ := Kd.R_slice HO523.out; subst eo56))
      refine bodyPost_ret (results_ct rfl _ _ gb512 29 #[.slice Ao53 t518.length co53, .slice Ao56 t521.length co56] (0, 0) _ rfl (by (with_reducible repeat (first | refine blk_drewN ?_ _ | refine blk_drew ?_ | refine blk_alloc ?_ _)); refine blk_put (cs := #[.slice Ao53 t518.length co53, .slice none 0 0]) ?_ 1 _ rfl; (with_reducible repeat (first | refine blk_drewN ?_ _ | refine blk_drew ?_ | refine blk_alloc ?_ _)); refine blk_put (cs := #[.slice none 0 0, .slice none 0 0]) ?_ 0 _ rfl; (with_reducible repeat (first | refine blk_drewN ?_ _ | refine blk_drew ?_ | refine blk_alloc ?_ _)); exact BK512.out) Try.underlying29 rfl zK) rfl ?_
      exact ⟨_, _, by first | rfl | (simp [errW_none, errW_some] <;> rfl) | (simp [*, errW_none, errW_some] <;> rfl), by (with_reducible repeat (first | apply Kd.R_alloc | apply Kd.R_drewN | apply Kd.R_drew)); exact Kd.R_mono (Kd.R_far (p := ⟨gb512, 1, none⟩) (Kd.R_far (p := ⟨gb512, 0, none⟩) (Kd.R_types HO520.out BK512.out (by decide)) (fun _ hk => hk.2) (.slice Ao53 t518.length co53)) (fun _ hk => hk.2) (.slice Ao56 t521.length co56)) (fun _ hk => hk.1.1.1.1), by (with_reducible repeat (first | apply Kd.R_alloc | apply Kd.R_drewN | apply Kd.R_drew)); exact Kd.R_mono (Kd.R_far (p := ⟨gb512, 1, none⟩) (Kd.R_far (p := ⟨gb512, 0, none⟩) (Kd.R_types HO523.out BK512.out (by decide)) (fun _ hk => hk.2) (.slice Ao53 t518.length co53)) (fun _ hk => hk.2) (.slice Ao56 t521.length co56)) (fun _ hk => hk.1.1.1.1), by repeat (first | (with_reducible first | exact HB.out | apply below_alloc | apply pw_below_drewN | apply below_drew1 | refine below_set ?_ GE509.out | refine below_set ?_ GE510.out | refine below_set ?_ GE511.out | refine below_set ?_ GE512.out) | exact HB.out)⟩
     ·replace c40 := Bool.eq_false_iff.mpr c40
      subst c40
      have H1 : (some (([] : List Int), ([] : List Int), 4)) = some (r1, r2, r3) := by rw [if_neg (show ¬ (false = true) by decide)] at H; exact H
      clear H
      have H := H1
      clear H1
      simp only [Option.some.injEq, Prod.mk.injEq] at H
      obtain ⟨rfl, rfl, rfl⟩ := H
      have hnb57 := NB512_509.out
      have hnc57 := NB509_512.out
      have hnb58 := NB512_510.out
      have hnc58 := NB510_512.out
      have hnb59 := NB512_511.out
      have hnc59 := NB511_512.out
      have hcz60_0 : wc.cell? ⟨gb512, 0, none⟩ = some (.slice none 0 0) := (blk_cell BK512.out 0).trans rfl
      have hcz60_1 : wc.cell? ⟨gb512, 1, none⟩ = some (.slice none 0 0) := (blk_cell BK512.out 1).trans rfl
      have hfz60_0 := blk_frozen BK512.out 0
      have hfz60_1 := blk_frozen BK512.out 1
      go_wp2
      refine bodyPost_ret (results_ct rfl _ _ gb512 29 #[.slice none 0 0, .slice none 0 0] (0, 0) _ rfl (by (with_reducible repeat (first | refine blk_drewN ?_ _ | refine blk_drew ?_ | refine blk_alloc ?_ _)); refine blk_put (cs := #[.slice none 0 0, .slice none 0 0]) ?_ 1 _ rfl; (with_reducible repeat (first | refine blk_drewN ?_ _ | refine blk_drew ?_ | refine blk_alloc ?_ _)); refine blk_put (cs := #[.slice none 0 0, .slice none 0 0]) ?_ 0 _ rfl; (with_reducible repeat (first | refine blk_drewN ?_ _ | refine blk_drew ?_ | refine blk_alloc ?_ _)); exact BK512.out) Try.underlying29 rfl zK) rfl ?_
      exact ⟨_, _, by first | rfl | (simp [errW_none, errW_some] <;> rfl) | (simp [*, errW_none, errW_some] <;> rfl), by first | exact Kd.R_nil _ _ _ _ _ | exact Kd.N_nil _ _ _ _ _ | exact Kd.V_nil _ _ _ _ _ | exact Kd.Q_nil _ _ _ _ _ | exact Kd.S_nil _ _ _ _ _, by first | exact Kd.R_nil _ _ _ _ _ | exact Kd.N_nil _ _ _ _ _ | exact Kd.V_nil _ _ _ _ _ | exact Kd.Q_nil _ _ _ _ _ | exact Kd.S_nil _ _ _ _ _, by repeat (first | (with_reducible first | exact HB.out | apply below_alloc | apply pw_below_drewN | apply below_drew1 | refine below_set ?_ GE509.out | refine below_set ?_ GE510.out | refine below_set ?_ GE511.out | refine below_set ?_ GE512.out) | exact HB.out)⟩
 ·rw [if_neg c15] at H
  have c15b0 : (t513 == 0) = false := beq_eq_false_iff_ne.mpr c15
  have c15b1 : (t513 != 0) = true := bne_iff_ne.mpr c15
  (first | rw [c15b0] | (simp only [i64_w, i32_w]; rw [c15b0]) | skip)
  (try rw [c15b1])
  simp only [Option.some.injEq, Prod.mk.injEq] at H
  obtain ⟨rfl, rfl, rfl⟩ := H
  have hnb61 := NB512_509.out
  have hnc61 := NB509_512.out
  have hnb62 := NB512_510.out
  have hnc62 := NB510_512.out
  have hnb63 := NB512_511.out
  have hnc63 := NB511_512.out
  have hcz64_0 : w14.cell? ⟨gb512, 0, none⟩ = some (.slice none 0 0) := (blk_cell BK512.out 0).trans rfl
  have hcz64_1 : w14.cell? ⟨gb512, 1, none⟩ = some (.slice none 0 0) := (blk_cell BK512.out 1).trans rfl
  have hfz64_0 := blk_frozen BK512.out 0
  have hfz64_1 := blk_frozen BK512.out 1
  go_wp2
  refine bodyPost_ret (results_ct rfl _ _ gb512 29 #[.slice none 0 0, .slice none 0 0] (0, 0) _ rfl (by (with_reducible repeat (first | refine blk_drewN ?_ _ | refine blk_drew ?_ | refine blk_alloc ?_ _)); refine blk_put (cs := #[.slice none 0 0, .slice none 0 0]) ?_ 1 _ rfl; (with_reducible repeat (first | refine blk_drewN ?_ _ | refine blk_drew ?_ | refine blk_alloc ?_ _)); refine blk_put (cs := #[.slice none 0 0, .slice none 0 0]) ?_ 0 _ rfl; (with_reducible repeat (first | refine blk_drewN ?_ _ | refine blk_drew ?_ | refine blk_alloc ?_ _)); exact BK512.out) Try.underlying29 rfl zK) rfl ?_
  exact ⟨_, _, by first | rfl | (simp [errW_none, errW_some] <;> rfl) | (simp [*, errW_none, errW_some] <;> rfl), by first | exact Kd.R_nil _ _ _ _ _ | exact Kd.N_nil _ _ _ _ _ | exact Kd.V_nil _ _ _ _ _ | exact Kd.Q_nil _ _ _ _ _ | exact Kd.S_nil _ _ _ _ _, by first | exact Kd.R_nil _ _ _ _ _ | exact Kd.N_nil _ _ _ _ _ | exact Kd.V_nil _ _ _ _ _ | exact Kd.Q_nil _ _ _ _ _ | exact Kd.S_nil _ _ _ _ _, by repeat (first | (with_reducible first | exact HB.out | apply below_alloc | apply pw_below_drewN | apply below_drew1 | refine below_set ?_ GE509.out | refine below_set ?_ GE510.out | refine below_set ?_ GE511.out | refine below_set ?_ GE512.out) | exact HB.out)⟩
end Go.Proofs.Ythcfmdkhkikbcaa.D
