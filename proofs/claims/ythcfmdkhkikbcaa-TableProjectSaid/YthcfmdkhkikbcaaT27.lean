-- Written by wip/tools/myprint.py, a program of this session's.
import Derived.Test.YthcfmdkhkikbcaaT0
import Derived.Test.YthcfmdkhkikbcaaT1
import Derived.Test.YthcfmdkhkikbcaaT15
namespace Go.Proofs.Ythcfmdkhkikbcaa.T
open Go.RowKit Go.Proofs.YthcfmdkhkikbcaaW.PrintWords Go.Proofs.YthcfmdkhkikbcaaW.PrintLast Go.Proofs.YthcfmdkhkikbcaaW.PrintMore
attribute [local go_sem] max2_int min2_int max_two min_two max_three min_three max_four min_four   -- for this text's walks alone
set_option linter.unusedVariables false
set_option linter.unusedSimpArgs false
/-! ### table_Project_1_v1: function 1000067 -/
def table_Project_1_v1.f (k : Nat) (a0 : Int) (l1_0 : List Int) (l1_1 : List Int) : Option (Bool) := (slices_Contains_int_int.f k l1_0 a0).bind fun t929 => (some (!t929))
theorem table_Project_1_v1.mono : ∀ a0 a1 a2 k, LeO (table_Project_1_v1.f k a0 a1 a2) (table_Project_1_v1.f (k + 1) a0 a1 a2) := by
 intro a0 a1 a2 k
 unfold table_Project_1_v1.f
 repeat' first
   | (with_reducible exact slices_Contains_int_int.mono _ _ _)
   | (with_reducible exact LeO.refl _)
   | (with_reducible exact LeO.none _)
   | (with_reducible refine LeO.ite ?_ ?_)
   | (with_reducible refine LeO.bind ?_ (fun _ => ?_))
   | exact slices_Contains_int_int.mono _ _ _
   | exact LeO.none _
   | refine LeO.ite ?_ ?_
   | refine LeO.bind ?_ (fun _ => ?_)
set_option maxHeartbeats 8000000 in
set_option maxRecDepth 100000 in
theorem table_Project_1_v1.calls (k : Nat) (a0 : Int) (gp1_0 : Nat) (A1_0 : Option Addr) (c1_0 : Nat) (l1_0 : List Int) (A1_1 : Option Addr) (c1_1 : Nat) (l1_1 : List Int) (r : Bool) (w : World) (hr1_0 : Kd.C (Kd.int .i64) w A1_0 l1_0.length l1_0) (hc1_0 : l1_0.length ≤ c1_0) (hr1_1 : Kd.C (Kd.int .i64) w A1_1 l1_1.length l1_1) (hc1_1 : l1_1.length ≤ c1_1) (hb_gp1_0 : w.heap[gp1_0]? = some (.cells #[.slice A1_0 l1_0.length c1_0, .slice A1_1 l1_1.length c1_1] 29 (0, 0))) (h : table_Project_1_v1.f k a0 l1_0 l1_1 = some r) :
  Calls Try.prog 67 #[.int .i64 a0, .pointer (some ⟨gp1_0, 0, none⟩)] w fun e w' => e = .returned (.bool r) ∧ Drawn0 w w' := by
 have hu27 := Try.underlying27
 have HR1_0 := Aside0.mk hr1_0
 have HC1_0 := Aside0.mk hc1_0
 clear hr1_0 hc1_0
 have HR1_1 := Aside0.mk hr1_1
 have HC1_1 := Aside0.mk hc1_1
 clear hr1_1 hc1_1
 have BK928 := Aside0.mk hb_gp1_0
 clear hb_gp1_0
 have H : ((slices_Contains_int_int.f k l1_0 a0).bind fun t929 => (some (!t929))) = some r := h
 clear h
 replace H := Option.bind_eq_some_iff.mp H
 obtain ⟨t929, A30, H⟩ := H
 replace H : (some (!t929)) = some r := H
 have A3 := Aside0.mk A30
 clear A30
 obtain rfl := Option.some.inj H
 have hcz4_0 : w.cell? ⟨gp1_0, 0, none⟩ = some (.slice A1_0 l1_0.length c1_0) := (blk_cell BK928.out 0).trans rfl
 have hcz4_1 : w.cell? ⟨gp1_0, 1, none⟩ = some (.slice A1_1 l1_1.length c1_1) := (blk_cell BK928.out 1).trans rfl
 have hfz4_0 := blk_frozen BK928.out 0
 have hfz4_1 := blk_frozen BK928.out 1
 go_enter Try.func67, Try.ntmps67
 go_wp2_with (first | ((with_reducible refine gate_callee (f := 38) rfl ?_); refine goesL_ (some 7) rfl rfl Try.func38 zK rfl #[.slice A1_0 l1_0.length c1_0, .int .i64 a0] rfl zM ?_; (with_reducible refine (slices_Contains_int_int.calls k _ _ l1_0 a0 t929 _ ?side1 ?side2 A3.out).mono ?_); (case side1 => repeat (first | exact HR1_0.out | (with_reducible refine Kd.C_alloc ?_ _) | (with_reducible refine Kd.C_drewN ?_ _) | (with_reducible refine Kd.C_drew ?_))); (case side2 => exact HC1_0.out); rintro e w' ⟨rfl, ⟨nd, rfl⟩⟩; refine ⟨_, rfl, ?_⟩))
 go_ret
 exact ⟨by first | rfl | (simp; done) | (simp [*]; done), by repeat (first | exact Drawn0.refl _ | apply Drawn0.step)⟩
/-! ### slices_IndexFunc_int_int_table_Project_1: function 1000080 -/
def slices_IndexFunc_int_int_table_Project_1.l0 : Nat → List Int → Int → Int → List Int → List Int → Option (Int)
 | 0, _, _, _, _, _ => none
 | k + 1, x0, x7, x8, x931000, x931001 => if x8 < x7 then (if 0 ≤ x8 then (if x8 < (x0.length : Int) then ((table_Project_1_v1.f k (rd x0 x8) x931000 x931001).bind fun t932 => (if t932 = true then (some x8) else (slices_IndexFunc_int_int_table_Project_1.l0 k x0 x7 (wrap64 (x8 + 1)) x931000 x931001))) else (none)) else (none)) else (some (-1))
def slices_IndexFunc_int_int_table_Project_1.f (k : Nat) (l0 : List Int) (l1_0 : List Int) (l1_1 : List Int) : Option (Int) := slices_IndexFunc_int_int_table_Project_1.l0 k l0 (l0.length : Int) 0 l1_0 l1_1
theorem slices_IndexFunc_int_int_table_Project_1.mono_l : ∀ k, (∀ y0 y1 y2 y3 y4, LeO (slices_IndexFunc_int_int_table_Project_1.l0 k y0 y1 y2 y3 y4) (slices_IndexFunc_int_int_table_Project_1.l0 (k + 1) y0 y1 y2 y3 y4))
 | 0 => fun _ _ _ _ _ r h => by simp [slices_IndexFunc_int_int_table_Project_1.l0] at h
 | k + 1 => by
  have ih0 := slices_IndexFunc_int_int_table_Project_1.mono_l k
  ·intro y0 y1 y2 y3 y4
   unfold slices_IndexFunc_int_int_table_Project_1.l0
   repeat' first
   | (with_reducible exact ih0 _ _ _ _ _)
   | (with_reducible exact table_Project_1_v1.mono _ _ _ _)
   | (with_reducible exact LeO.refl _)
   | (with_reducible exact LeO.none _)
   | (with_reducible refine LeO.ite ?_ ?_)
   | (with_reducible refine LeO.bind ?_ (fun _ => ?_))
   | exact ih0 _ _ _ _ _
   | exact table_Project_1_v1.mono _ _ _ _
   | exact LeO.none _
   | refine LeO.ite ?_ ?_
   | refine LeO.bind ?_ (fun _ => ?_)
theorem slices_IndexFunc_int_int_table_Project_1.mono : ∀ a0 a1 a2 k, LeO (slices_IndexFunc_int_int_table_Project_1.f k a0 a1 a2) (slices_IndexFunc_int_int_table_Project_1.f (k + 1) a0 a1 a2) := by
 intro a0 a1 a2 k
 have ih0 := slices_IndexFunc_int_int_table_Project_1.mono_l k
 unfold slices_IndexFunc_int_int_table_Project_1.f
 repeat' first
   | (with_reducible exact ih0 _ _ _ _ _)
   | (with_reducible exact table_Project_1_v1.mono _ _ _ _)
   | (with_reducible exact LeO.refl _)
   | (with_reducible exact LeO.none _)
   | (with_reducible refine LeO.ite ?_ ?_)
   | (with_reducible refine LeO.bind ?_ (fun _ => ?_))
   | exact ih0 _ _ _ _ _
   | exact table_Project_1_v1.mono _ _ _ _
   | exact LeO.none _
   | refine LeO.ite ?_ ?_
   | refine LeO.bind ?_ (fun _ => ?_)
set_option maxHeartbeats 8000000 in
set_option maxRecDepth 100000 in
theorem slices_IndexFunc_int_int_table_Project_1.calls (k : Nat) (A0 : Option Addr) (c0 : Nat) (l0 : List Int) (gp1_0 : Nat) (A1_0 : Option Addr) (c1_0 : Nat) (l1_0 : List Int) (A1_1 : Option Addr) (c1_1 : Nat) (l1_1 : List Int) (r : Int) (w : World) (hr0 : Kd.C (Kd.int .i64) w A0 l0.length l0) (hc0 : l0.length ≤ c0) (hr1_0 : Kd.C (Kd.int .i64) w A1_0 l1_0.length l1_0) (hc1_0 : l1_0.length ≤ c1_0) (hr1_1 : Kd.C (Kd.int .i64) w A1_1 l1_1.length l1_1) (hc1_1 : l1_1.length ≤ c1_1) (hb_gp1_0 : w.heap[gp1_0]? = some (.cells #[.slice A1_0 l1_0.length c1_0, .slice A1_1 l1_1.length c1_1] 29 (0, 0))) (h : slices_IndexFunc_int_int_table_Project_1.f k l0 l1_0 l1_1 = some r) :
  Calls Try.prog 80 #[.slice A0 l0.length c0, .func (.func 67) #[] #[.pointer (some ⟨gp1_0, 0, none⟩)]] w fun e w' => e = .returned (.int .i64 r) ∧ Below w.heap.size w w' := by
 have hu3 := Try.underlying3
 have HR0 := Aside0.mk hr0
 have HC0 := Aside0.mk hc0
 clear hr0 hc0
 have HR1_0 := Aside0.mk hr1_0
 have HC1_0 := Aside0.mk hc1_0
 clear hr1_0 hc1_0
 have HR1_1 := Aside0.mk hr1_1
 have HC1_1 := Aside0.mk hc1_1
 clear hr1_1 hc1_1
 have BK930 := Aside0.mk hb_gp1_0
 clear hb_gp1_0
 have HB := Aside0.mk (Below.refl w.heap.size w)
 have H : (slices_IndexFunc_int_int_table_Project_1.l0 k l0 (l0.length : Int) 0 l1_0 l1_1) = some r := h
 clear h
 have H' := Aside0.mk H
 clear H
 go_enter Try.func80, Try.ntmps80
 go_wp2
 go_loopg [8] k (fun kq v8 w' => ∃ (x8_1 : Int), v8 = .int .i64 x8_1 ∧ Aside0 (slices_IndexFunc_int_int_table_Project_1.l0 kq l0 (l0.length : Int) x8_1 l1_0 l1_1 = some r) ∧ Aside0 (kq ≤ k) ∧ Aside0 (w'.heap[gp1_0]? = some (.cells #[(.slice A1_0 l1_0.length c1_0), (.slice A1_1 l1_1.length c1_1)] 29 (0, 0))) ∧ Aside0 (Below w.heap.size w w'))
 case atStart => exact ⟨(0), zT, H', ⟨Nat.le_refl _⟩, ⟨by (with_reducible repeat (first | refine blk_drewN ?_ _ | refine blk_drew ?_ | refine blk_alloc ?_ _)); exact BK930.out⟩, ⟨by repeat (first | (with_reducible first | exact HB.out | apply below_alloc | apply pw_below_drewN | apply below_drew1 | refine below_set ?_ GE930.out) | exact HB.out)⟩⟩
 case round =>
  clear H'
  obtain ⟨x8_1, rfl, HA, HK1, BK930, HB⟩ := hrel
  cases gk with
  | zero => exact absurd HA.out (by simp [slices_IndexFunc_int_int_table_Project_1.l0])
  | succ k1 =>
   have H := HA.out
   clear HA
   simp only [slices_IndexFunc_int_int_table_Project_1.l0] at H
   by_cases c3 : x8_1 < (l0.length : Int)
   ·rw [if_pos c3] at H
    have c3b0 : decide (x8_1 < (l0.length : Int)) = true := decide_eq_true c3
    clear c3
    by_cases c4 : 0 ≤ x8_1
    ·rw [if_pos c4] at H
     have c4b0 : decide (0 ≤ x8_1) = true := decide_eq_true c4
     clear c4
     by_cases c5 : x8_1 < (l0.length : Int)
     ·rw [if_pos c5] at H
      have c5b0 : decide (x8_1 < (l0.length : Int)) = true := decide_eq_true c5
      clear c5
      replace H := Option.bind_eq_some_iff.mp H
      obtain ⟨t932, A60, H⟩ := H
      replace H : (if t932 = true then (some x8_1) else (slices_IndexFunc_int_int_table_Project_1.l0 k1 l0 (l0.length : Int) (wrap64 (x8_1 + 1)) l1_0 l1_1)) = some r := H
      have A6 := Aside0.mk A60
      clear A60
      have HC7 := Aside0.mk H
      clear H
      have p931 : 0 ≤ (x8_1 : Int) := of_decide_eq_true zh
      have q931 : x8_1 < (l0.length : Int) := of_decide_eq_true zh
      obtain ⟨ad931, e931, hx931_0⟩ := Kd.at_int HR0.out x8_1 p931 q931
      cases e931
      replace hx931_0 := (HB.out.cell (World.block_lt_of_cell? w _ hx931_0)).trans hx931_0
      replace p931 := eq_true p931
      replace q931 := eq_true q931
      go_upto_if 16 with (first | (go_at_call 67; (with_reducible refine (table_Project_1_v1.calls k1 (rd l0 x8_1) gp1_0 A1_0 c1_0 l1_0 A1_1 c1_1 l1_1 t932 _ ?side1 ?side2 ?side3 ?side4 ?side5 A6.out).mono ?_); (case side1 => repeat (first | exact (Kd.C_below HR1_0.out HB.out) | (with_reducible refine Kd.C_alloc ?_ _) | (with_reducible refine Kd.C_drewN ?_ _) | (with_reducible refine Kd.C_drew ?_))); (case side2 => exact HC1_0.out); (case side3 => repeat (first | exact (Kd.C_below HR1_1.out HB.out) | (with_reducible refine Kd.C_alloc ?_ _) | (with_reducible refine Kd.C_drewN ?_ _) | (with_reducible refine Kd.C_drew ?_))); (case side4 => exact HC1_1.out); (case side5 => (with_reducible repeat (first | refine blk_drewN ?_ _ | refine blk_drew ?_ | refine blk_alloc ?_ _)); exact BK930.out); rintro e w' ⟨rfl, ⟨nd, rfl⟩⟩))
      (try simp only [Act.put, List.setIfInBounds_toArray, List.set_cons_zero, List.set_cons_succ])
      have H := HC7.out
      clear HC7
      by_cases c8 : t932 = true
      ·subst c8
       have H1 : (some x8_1) = some r := by rw [if_pos rfl] at H; exact H
       clear H
       have H := H1
       clear H1
       obtain rfl := Option.some.inj H
       go_wp2
       go_ret
       exact ⟨by first | rfl | (simp [errW_none, errW_some] <;> rfl) | (simp [*, errW_none, errW_some] <;> rfl), by repeat (first | (with_reducible first | exact HB.out | apply below_alloc | apply pw_below_drewN | apply below_drew1 | refine below_set ?_ GE930.out) | exact HB.out)⟩
      ·replace c8 := Bool.eq_false_iff.mpr c8
       subst c8
       have H1 : (slices_IndexFunc_int_int_table_Project_1.l0 k1 l0 (l0.length : Int) (wrap64 (x8_1 + 1)) l1_0 l1_1) = some r := by rw [if_neg (show ¬ (false = true) by decide)] at H; exact H
       clear H
       have H := H1
       clear H1
       have H' := Aside0.mk H
       clear H
       go_wp2
       go_roundg k1
       case measure => have := HK1.out; omega
       case rel => exact ⟨(wrap64 (x8_1 + 1)), zT, H', ⟨by have := HK1.out; omega⟩, ⟨by (with_reducible repeat (first | refine blk_drewN ?_ _ | refine blk_drew ?_ | refine blk_alloc ?_ _)); exact BK930.out⟩, ⟨by repeat (first | (with_reducible first | exact HB.out | apply below_alloc | apply pw_below_drewN | apply below_drew1 | refine below_set ?_ GE930.out) | exact HB.out)⟩⟩
     ·rw [if_neg c5] at H
      exact absurd H (by simp)
    ·rw [if_neg c4] at H
     exact absurd H (by simp)
   ·rw [if_neg c3] at H
    have c3b0 : decide (x8_1 < (l0.length : Int)) = false := decide_eq_false c3
    clear c3
    obtain rfl := Option.some.inj H
    go_wp2
    go_ret
    exact ⟨by first | rfl | (simp [errW_none, errW_some] <;> rfl) | (simp [*, errW_none, errW_some] <;> rfl), by repeat (first | (with_reducible first | exact HB.out | apply below_alloc | apply pw_below_drewN | apply below_drew1 | refine below_set ?_ GE930.out) | exact HB.out)⟩
/-! ### slices_ContainsFunc_int_int_table_Project_1: function 1000066 -/
def slices_ContainsFunc_int_int_table_Project_1.f (k : Nat) (l0 : List Int) (l1_0 : List Int) (l1_1 : List Int) : Option (Bool) := (slices_IndexFunc_int_int_table_Project_1.f k l0 l1_0 l1_1).bind fun t934 => (some (decide (t934 ≥ 0)))
theorem slices_ContainsFunc_int_int_table_Project_1.mono : ∀ a0 a1 a2 k, LeO (slices_ContainsFunc_int_int_table_Project_1.f k a0 a1 a2) (slices_ContainsFunc_int_int_table_Project_1.f (k + 1) a0 a1 a2) := by
 intro a0 a1 a2 k
 unfold slices_ContainsFunc_int_int_table_Project_1.f
 repeat' first
   | (with_reducible exact slices_IndexFunc_int_int_table_Project_1.mono _ _ _ _)
   | (with_reducible exact LeO.refl _)
   | (with_reducible exact LeO.none _)
   | (with_reducible refine LeO.ite ?_ ?_)
   | (with_reducible refine LeO.bind ?_ (fun _ => ?_))
   | exact slices_IndexFunc_int_int_table_Project_1.mono _ _ _ _
   | exact LeO.none _
   | refine LeO.ite ?_ ?_
   | refine LeO.bind ?_ (fun _ => ?_)
set_option maxHeartbeats 8000000 in
set_option maxRecDepth 100000 in
theorem slices_ContainsFunc_int_int_table_Project_1.calls (k : Nat) (A0 : Option Addr) (c0 : Nat) (l0 : List Int) (gp1_0 : Nat) (A1_0 : Option Addr) (c1_0 : Nat) (l1_0 : List Int) (A1_1 : Option Addr) (c1_1 : Nat) (l1_1 : List Int) (r : Bool) (w : World) (hr0 : Kd.C (Kd.int .i64) w A0 l0.length l0) (hc0 : l0.length ≤ c0) (hr1_0 : Kd.C (Kd.int .i64) w A1_0 l1_0.length l1_0) (hc1_0 : l1_0.length ≤ c1_0) (hr1_1 : Kd.C (Kd.int .i64) w A1_1 l1_1.length l1_1) (hc1_1 : l1_1.length ≤ c1_1) (hb_gp1_0 : w.heap[gp1_0]? = some (.cells #[.slice A1_0 l1_0.length c1_0, .slice A1_1 l1_1.length c1_1] 29 (0, 0))) (h : slices_ContainsFunc_int_int_table_Project_1.f k l0 l1_0 l1_1 = some r) :
  Calls Try.prog 66 #[.slice A0 l0.length c0, .func (.func 67) #[] #[.pointer (some ⟨gp1_0, 0, none⟩)]] w fun e w' => e = .returned (.bool r) ∧ Below w.heap.size w w' := by
 have HR0 := Aside0.mk hr0
 have HC0 := Aside0.mk hc0
 clear hr0 hc0
 have HR1_0 := Aside0.mk hr1_0
 have HC1_0 := Aside0.mk hc1_0
 clear hr1_0 hc1_0
 have HR1_1 := Aside0.mk hr1_1
 have HC1_1 := Aside0.mk hc1_1
 clear hr1_1 hc1_1
 have BK933 := Aside0.mk hb_gp1_0
 clear hb_gp1_0
 have HB := Aside0.mk (Below.refl w.heap.size w)
 have H : ((slices_IndexFunc_int_int_table_Project_1.f k l0 l1_0 l1_1).bind fun t934 => (some (decide (t934 ≥ 0)))) = some r := h
 clear h
 replace H := Option.bind_eq_some_iff.mp H
 obtain ⟨t934, A30, H⟩ := H
 replace H : (some (decide (t934 ≥ 0))) = some r := H
 have A3 := Aside0.mk A30
 clear A30
 obtain rfl := Option.some.inj H
 go_enter Try.func66, Try.ntmps66
 go_wp2_with (first | ((with_reducible refine gate_callee (f := 80) rfl ?_); refine goesL_ (some 7) rfl rfl Try.func80 zK rfl #[.slice A0 l0.length c0, .func (.func 67) #[] #[.pointer (some ⟨gp1_0, 0, none⟩)]] rfl zM ?_; (with_reducible refine (slices_IndexFunc_int_int_table_Project_1.calls k _ _ l0 gp1_0 A1_0 c1_0 l1_0 A1_1 c1_1 l1_1 t934 _ ?side1 ?side2 ?side3 ?side4 ?side5 ?side6 ?side7 A3.out).mono ?_); (case side1 => repeat (first | exact HR0.out | (with_reducible refine Kd.C_alloc ?_ _) | (with_reducible refine Kd.C_drewN ?_ _) | (with_reducible refine Kd.C_drew ?_))); (case side2 => exact HC0.out); (case side3 => repeat (first | exact HR1_0.out | (with_reducible refine Kd.C_alloc ?_ _) | (with_reducible refine Kd.C_drewN ?_ _) | (with_reducible refine Kd.C_drew ?_))); (case side4 => exact HC1_0.out); (case side5 => repeat (first | exact HR1_1.out | (with_reducible refine Kd.C_alloc ?_ _) | (with_reducible refine Kd.C_drewN ?_ _) | (with_reducible refine Kd.C_drew ?_))); (case side6 => exact HC1_1.out); (case side7 => (with_reducible repeat (first | refine blk_drewN ?_ _ | refine blk_drew ?_ | refine blk_alloc ?_ _)); exact BK933.out); rintro e w4 ⟨rfl, hb⟩; refine ⟨_, rfl, ?_⟩; have n0_ := Aside0.mk (blk_below (g := gp1_0) (o := .cells #[.slice A1_0 l1_0.length c1_0, .slice A1_1 l1_1.length c1_1] 29 (0, 0)) (zk BK933) hb); have n1_ := Aside0.mk (below_step zB hb); clear BK933; clear HB; have BK933 := n0_; have HB := n1_; clear n0_ n1_; (try clear hb); (try clear hb2); (try clear hk); (try clear hi)))
 go_ret
 exact ⟨by first | rfl | (simp [errW_none, errW_some] <;> rfl) | (simp [*, errW_none, errW_some] <;> rfl), by repeat (first | (with_reducible first | exact HB.out | apply below_alloc | apply pw_below_drewN | apply below_drew1 | refine below_set ?_ GE933.out) | exact HB.out)⟩
/-! ### table_Project: function 41 -/
def table_Project.l0 : Nat → List Int → List Int → Int → Int → List Int → List Int → List Int → List Int → Option (List Int × List Int × Int)
 | 0, _, _, _, _, _, _, _, _ => none
 | k + 1, x1, x31, x32, x33, x929000, x929001, x937000, x937001 => if x33 < x32 then (if 0 ≤ x33 then (if x33 < (x31.length : Int) then ((table_assignment.f k x929000 (rd x31 x33)).bind fun t938 => ((table_row.f k x1 t938).bind fun t939 => (if x937001.length < 17592186044416 then (table_Project.l0 k x1 x31 x32 (wrap64 (x33 + 1)) x929000 x929001 x937000 (x937001 ++ [t939])) else (none)))) else (none)) else (none)) else ((slices_Sort_int_int.f x937001).bind fun t943 => ((slices_Compact_int_int.f t943).bind fun t944 => (some (x937000, t944, 0))))
def table_Project.f (k : Nat) (l0_0 : List Int) (l0_1 : List Int) (l1 : List Int) : Option (List Int × List Int × Int) := (table_Valid.f k l0_0 l0_1).bind fun t930 => (if t930 = 0 then ((table_ascending.f k l1).bind fun t931 => (if t931 = 0 then ((slices_ContainsFunc_int_int_table_Project_1.f k l1 l0_0 l0_1).bind fun t932 => (if t932 = true then (some (([] : List Int), ([] : List Int), 4)) else ((slices_Clone_int_int.f l1).bind fun t933 => (table_Project.l0 k l1 l0_1 (l0_1.length : Int) 0 l0_0 l0_1 t933 ([] : List Int))))) else (some (([] : List Int), ([] : List Int), t931)))) else (some (([] : List Int), ([] : List Int), t930)))
theorem table_Project.mono_l : ∀ k, (∀ y0 y1 y2 y3 y4 y5 y6 y7, LeO (table_Project.l0 k y0 y1 y2 y3 y4 y5 y6 y7) (table_Project.l0 (k + 1) y0 y1 y2 y3 y4 y5 y6 y7))
 | 0 => fun _ _ _ _ _ _ _ _ r h => by simp [table_Project.l0] at h
 | k + 1 => by
  have ih0 := table_Project.mono_l k
  ·intro y0 y1 y2 y3 y4 y5 y6 y7
   unfold table_Project.l0
   repeat' first
   | (with_reducible exact ih0 _ _ _ _ _ _ _ _)
   | (with_reducible exact slices_ContainsFunc_int_int_table_Project_1.mono _ _ _ _)
   | (with_reducible exact table_Valid.mono _ _ _)
   | (with_reducible exact table_ascending.mono _ _)
   | (with_reducible exact table_assignment.mono _ _ _)
   | (with_reducible exact table_row.mono _ _ _)
   | (with_reducible exact LeO.refl _)
   | (with_reducible exact LeO.none _)
   | (with_reducible refine LeO.ite ?_ ?_)
   | (with_reducible refine LeO.bind ?_ (fun _ => ?_))
   | exact ih0 _ _ _ _ _ _ _ _
   | exact slices_ContainsFunc_int_int_table_Project_1.mono _ _ _ _
   | exact table_Valid.mono _ _ _
   | exact table_ascending.mono _ _
   | exact table_assignment.mono _ _ _
   | exact table_row.mono _ _ _
   | exact LeO.none _
   | refine LeO.ite ?_ ?_
   | refine LeO.bind ?_ (fun _ => ?_)
theorem table_Project.mono : ∀ a0 a1 a2 k, LeO (table_Project.f k a0 a1 a2) (table_Project.f (k + 1) a0 a1 a2) := by
 intro a0 a1 a2 k
 have ih0 := table_Project.mono_l k
 unfold table_Project.f
 repeat' first
   | (with_reducible exact ih0 _ _ _ _ _ _ _ _)
   | (with_reducible exact slices_ContainsFunc_int_int_table_Project_1.mono _ _ _ _)
   | (with_reducible exact table_Valid.mono _ _ _)
   | (with_reducible exact table_ascending.mono _ _)
   | (with_reducible exact table_assignment.mono _ _ _)
   | (with_reducible exact table_row.mono _ _ _)
   | (with_reducible exact LeO.refl _)
   | (with_reducible exact LeO.none _)
   | (with_reducible refine LeO.ite ?_ ?_)
   | (with_reducible refine LeO.bind ?_ (fun _ => ?_))
   | exact ih0 _ _ _ _ _ _ _ _
   | exact slices_ContainsFunc_int_int_table_Project_1.mono _ _ _ _
   | exact table_Valid.mono _ _ _
   | exact table_ascending.mono _ _
   | exact table_assignment.mono _ _ _
   | exact table_row.mono _ _ _
   | exact LeO.none _
   | refine LeO.ite ?_ ?_
   | refine LeO.bind ?_ (fun _ => ?_)
def table_Project.T13 : Bool × List (List Nat × List Nat) := (true, [([], []), ([0], [0]), ([], []), ([], []), ([3], [3]), ([], []), ([4, 5], [4, 5]), ([2, 6, 6], [2, 6]), ([7], [7]), ([1, 8, 7], [1, 8]), ([0, 1, 2, 3, 4, 5, 6, 7, 8, 9], []), ([10, 9, 9, 0, 1, 2, 3, 4, 5, 6, 7, 8, 9], [9, 10])])
def table_Project.B13 : List Nat := [0, 1, 0, 0, 8, 0, 56, 124, 252, 511, 1023, 2047]
theorem table_Project.tab13 : rtab .any (opsOf Try.f41 13) = table_Project.T13 := by kernel_rfl
theorem table_Project.bits13 : waitsOk table_Project.T13.2 table_Project.B13 = true := by kernel_rfl
set_option maxHeartbeats 8000000 in
set_option maxRecDepth 100000 in
theorem table_Project.calls (k : Nat) (A0_0 : Option Addr) (c0_0 : Nat) (l0_0 : List Int) (A0_1 : Option Addr) (c0_1 : Nat) (l0_1 : List Int) (A1 : Option Addr) (c1 : Nat) (l1 : List Int) (r1 : List Int) (r2 : List Int) (r3 : Int) (w : World) (hr0_0 : Kd.C (Kd.int .i64) w A0_0 l0_0.length l0_0) (hc0_0 : l0_0.length ≤ c0_0) (hr0_1 : Kd.C (Kd.int .i64) w A0_1 l0_1.length l0_1) (hc0_1 : l0_1.length ≤ c0_1) (hr1 : Kd.C (Kd.int .i64) w A1 l1.length l1) (hc1 : l1.length ≤ c1) (h : table_Project.f k l0_0 l0_1 l1 = some (r1, r2, r3)) :
  Calls Try.prog 41 #[.agg #[.slice A0_0 l0_0.length c0_0, .slice A0_1 l0_1.length c0_1], .slice A1 l1.length c1] w fun e w' => ∃ v0_ v1_ : Value, e = .returned (.tuple #[.agg #[v0_, v1_], .int .i64 r3]) ∧ Kd.R (Kd.int .i64) 3 w' w.heap.size (fun k_ => some k_ ≠ (v1_ : Value).ownBlock) v0_ r1 ∧ Kd.R (Kd.int .i64) 3 w' w.heap.size (fun k_ => some k_ ≠ (v0_ : Value).ownBlock) v1_ r2 ∧ Below w.heap.size w w' := by
 have hu29 := Try.underlying29
 have hu27 := Try.underlying27
 have hu3 := Try.underlying3
 have HR0_0 := Aside0.mk hr0_0
 have HC0_0 := Aside0.mk hc0_0
 clear hr0_0 hc0_0
 have HR0_1 := Aside0.mk hr0_1
 have HC0_1 := Aside0.mk hc0_1
 clear hr0_1 hc0_1
 have HR1 := Aside0.mk hr1
 have HC1 := Aside0.mk hc1
 clear hr1 hc1
 have HB := Aside0.mk (Below.refl w.heap.size w)
 have H : ((table_Valid.f k l0_0 l0_1).bind fun t930 => (if t930 = 0 then ((table_ascending.f k l1).bind fun t931 => (if t931 = 0 then ((slices_ContainsFunc_int_int_table_Project_1.f k l1 l0_0 l0_1).bind fun t932 => (if t932 = true then (some (([] : List Int), ([] : List Int), 4)) else ((slices_Clone_int_int.f l1).bind fun t933 => (table_Project.l0 k l1 l0_1 (l0_1.length : Int) 0 l0_0 l0_1 t933 ([] : List Int))))) else (some (([] : List Int), ([] : List Int), t931)))) else (some (([] : List Int), ([] : List Int), t930)))) = some (r1, r2, r3) := h
 clear h
 replace H := Option.bind_eq_some_iff.mp H
 obtain ⟨t930, A30, H⟩ := H
 replace H : (if t930 = 0 then ((table_ascending.f k l1).bind fun t931 => (if t931 = 0 then ((slices_ContainsFunc_int_int_table_Project_1.f k l1 l0_0 l0_1).bind fun t932 => (if t932 = true then (some (([] : List Int), ([] : List Int), 4)) else ((slices_Clone_int_int.f l1).bind fun t933 => (table_Project.l0 k l1 l0_1 (l0_1.length : Int) 0 l0_0 l0_1 t933 ([] : List Int))))) else (some (([] : List Int), ([] : List Int), t931)))) else (some (([] : List Int), ([] : List Int), t930))) = some (r1, r2, r3) := H
 have A3 := Aside0.mk A30
 clear A30
 have HC4 := Aside0.mk H
 clear H
 go_enter Try.func41, Try.ntmps41
 go_upto_if 14 with (first | ((with_reducible refine gate_dst (N := 2) rfl ?_); refine box_event ?hg (N := 2) ?hd (cs := #[.slice A0_0 l0_0.length c0_0, .slice A0_1 l0_1.length c0_1]) (t := 29) ?hr ?_; (case hd => rfl); (case hg => rfl); (case hr => first | (go_simp; done) | (go_simp; rfl)); intro gb928 hg w5 hbox hb; have n0_ := Aside0.mk (below_step zB hb); have n1_ := Aside0.mk (hbox); have n2_ := Aside0.mk ((by rw [hg]; exact (below_size zB) : w.heap.size ≤ gb928)); have n3_ := Aside0.mk ((by rw [hg]; exact (below_size zB) : w.heap.size ≤ gb928)); clear HB; have HB := n0_; have BK928 := n1_; have GW928 := n2_; have GE928 := n3_; clear n0_ n1_ n2_ n3_; clear hb hbox hg) | ((with_reducible refine gate_dst (N := 4) rfl ?_); refine box_event ?hg (N := 4) ?hd (cs := #[.slice none 0 0, .slice none 0 0]) (t := 29) ?hr ?_; (case hd => rfl); (case hg => rfl); (case hr => first | (go_simp; done) | (go_simp; rfl)); intro gb929 hg w6 hbox hb; have n0_ := Aside0.mk (blk_below (g := gb928) (o := .cells #[.slice A0_0 l0_0.length c0_0, .slice A0_1 l0_1.length c0_1] 29 (0, 0)) (zk BK928) hb); have n1_ := Aside0.mk (below_step zB hb); have n2_ := Aside0.mk (hbox); have n3_ := Aside0.mk ((by rw [hg]; exact (below_size zB) : w.heap.size ≤ gb929)); have n4_ := Aside0.mk ((by rw [hg]; exact (below_size zB) : w.heap.size ≤ gb929)); have n5_ := Aside0.mk ((by rw [hg]; exact Nat.ne_of_lt (blk_lt (g := gb928) (o := .cells #[.slice A0_0 l0_0.length c0_0, .slice A0_1 l0_1.length c0_1] 29 (0, 0)) (zk BK928)) : gb928 ≠ gb929)); have n6_ := Aside0.mk ((by rw [hg]; exact Nat.ne_of_gt (blk_lt (g := gb928) (o := .cells #[.slice A0_0 l0_0.length c0_0, .slice A0_1 l0_1.length c0_1] 29 (0, 0)) (zk BK928)) : gb929 ≠ gb928)); clear BK928; clear HB; have BK928 := n0_; have HB := n1_; have BK929 := n2_; have GW929 := n3_; have GE929 := n4_; have NB928_929 := n5_; have NB929_928 := n6_; clear n0_ n1_ n2_ n3_ n4_ n5_ n6_; clear hb hbox hg; have hnb7 := NB928_929.out; have hnc7 := NB929_928.out; have hcz8_0 : w6.cell? ⟨gb928, 0, none⟩ = some (.slice A0_0 l0_0.length c0_0) := (blk_cell BK928.out 0).trans rfl; have hcz8_1 : w6.cell? ⟨gb928, 1, none⟩ = some (.slice A0_1 l0_1.length c0_1) := (blk_cell BK928.out 1).trans rfl; have hfz8_0 := blk_frozen BK928.out 0; have hfz8_1 := blk_frozen BK928.out 1) | ((with_reducible refine gate_callee (f := 25) rfl ?_); refine goesL_ (some 12) rfl rfl Try.func25 zK rfl #[.agg #[.slice A0_0 l0_0.length c0_0, .slice A0_1 l0_1.length c0_1]] rfl zM ?_; (with_reducible refine (table_Valid.calls k _ _ l0_0 _ _ l0_1 t930 _ ?side1 ?side2 ?side3 ?side4 A3.out).mono ?_); (case side1 => repeat (first | exact (Kd.C_below HR0_0.out HB.out) | (with_reducible refine Kd.C_alloc ?_ _) | (with_reducible refine Kd.C_drewN ?_ _) | (with_reducible refine Kd.C_drew ?_))); (case side2 => exact HC0_0.out); (case side3 => repeat (first | exact (Kd.C_below HR0_1.out HB.out) | (with_reducible refine Kd.C_alloc ?_ _) | (with_reducible refine Kd.C_drewN ?_ _) | (with_reducible refine Kd.C_drew ?_))); (case side4 => exact HC0_1.out); rintro e w9 ⟨rfl, hb⟩; refine ⟨_, rfl, ?_⟩; have n0_ := Aside0.mk (blk_below (g := gb928) (o := .cells #[.slice A0_0 l0_0.length c0_0, .slice A0_1 l0_1.length c0_1] 29 (0, 0)) (zk BK928) hb); have n1_ := Aside0.mk (blk_below (g := gb929) (o := .cells #[.slice none 0 0, .slice none 0 0] 29 (0, 0)) (zk BK929) hb); have n2_ := Aside0.mk (below_step zB hb); clear BK928; clear BK929; clear HB; have BK928 := n0_; have BK929 := n1_; have HB := n2_; clear n0_ n1_ n2_; (try clear hb); (try clear hb2); (try clear hk); (try clear hi)))
 (try simp only [Act.put, List.setIfInBounds_toArray, List.set_cons_zero, List.set_cons_succ])
 have H := HC4.out
 clear HC4
 by_cases c10 : t930 = 0
 ·rw [if_pos c10] at H
  have c10b0 : (t930 == 0) = true := beq_iff_eq.mpr c10
  have c10b1 : (t930 != 0) = false := bne_eq_false_iff_eq.mpr c10
  clear c10
  (first | rw [c10b0] | (simp only [i64_w, i32_w]; rw [c10b0]) | skip)
  (try rw [c10b1])
  replace H := Option.bind_eq_some_iff.mp H
  obtain ⟨t931, A110, H⟩ := H
  replace H : (if t931 = 0 then ((slices_ContainsFunc_int_int_table_Project_1.f k l1 l0_0 l0_1).bind fun t932 => (if t932 = true then (some (([] : List Int), ([] : List Int), 4)) else ((slices_Clone_int_int.f l1).bind fun t933 => (table_Project.l0 k l1 l0_1 (l0_1.length : Int) 0 l0_0 l0_1 t933 ([] : List Int))))) else (some (([] : List Int), ([] : List Int), t931))) = some (r1, r2, r3) := H
  have A11 := Aside0.mk A110
  clear A110
  have HC12 := Aside0.mk H
  clear H
  go_upto_if 20 with (first | ((with_reducible refine gate_callee (f := 53) rfl ?_); refine goesL_ (some 18) rfl rfl Try.func53 zK rfl #[.slice A1 l1.length c1] rfl zM ?_; (with_reducible refine (table_ascending.calls k _ _ l1 t931 _ ?side1 ?side2 A11.out).mono ?_); (case side1 => repeat (first | exact (Kd.C_below HR1.out HB.out) | (with_reducible refine Kd.C_alloc ?_ _) | (with_reducible refine Kd.C_drewN ?_ _) | (with_reducible refine Kd.C_drew ?_))); (case side2 => exact HC1.out); rintro e w' ⟨rfl, ⟨nd, rfl⟩⟩; refine ⟨_, rfl, ?_⟩))
  (try simp only [Act.put, List.setIfInBounds_toArray, List.set_cons_zero, List.set_cons_succ])
  have H := HC12.out
  clear HC12
  by_cases c13 : t931 = 0
  ·rw [if_pos c13] at H
   have c13b0 : (t931 == 0) = true := beq_iff_eq.mpr c13
   have c13b1 : (t931 != 0) = false := bne_eq_false_iff_eq.mpr c13
   clear c13
   (first | rw [c13b0] | (simp only [i64_w, i32_w]; rw [c13b0]) | skip)
   (try rw [c13b1])
   replace H := Option.bind_eq_some_iff.mp H
   obtain ⟨t932, A140, H⟩ := H
   replace H : (if t932 = true then (some (([] : List Int), ([] : List Int), 4)) else ((slices_Clone_int_int.f l1).bind fun t933 => (table_Project.l0 k l1 l0_1 (l0_1.length : Int) 0 l0_0 l0_1 t933 ([] : List Int)))) = some (r1, r2, r3) := H
   have A14 := Aside0.mk A140
   clear A140
   have HC15 := Aside0.mk H
   clear H
   go_upto_if 25 with (first | ((with_reducible refine gate_callee (f := 66) rfl ?_); refine goesL_ (some 25) rfl rfl Try.func66 zK rfl #[.slice A1 l1.length c1, .func (.func 67) #[] #[.pointer (some ⟨gb928, 0, none⟩)]] rfl zM ?_; (with_reducible refine (slices_ContainsFunc_int_int_table_Project_1.calls k _ _ l1 gb928 A0_0 c0_0 l0_0 A0_1 c0_1 l0_1 t932 _ ?side1 ?side2 ?side3 ?side4 ?side5 ?side6 ?side7 A14.out).mono ?_); (case side1 => repeat (first | exact (Kd.C_below HR1.out zB) | (with_reducible refine Kd.C_alloc ?_ _) | (with_reducible refine Kd.C_drewN ?_ _) | (with_reducible refine Kd.C_drew ?_))); (case side2 => exact HC1.out); (case side3 => repeat (first | exact (Kd.C_below HR0_0.out zB) | (with_reducible refine Kd.C_alloc ?_ _) | (with_reducible refine Kd.C_drewN ?_ _) | (with_reducible refine Kd.C_drew ?_))); (case side4 => exact HC0_0.out); (case side5 => repeat (first | exact (Kd.C_below HR0_1.out zB) | (with_reducible refine Kd.C_alloc ?_ _) | (with_reducible refine Kd.C_drewN ?_ _) | (with_reducible refine Kd.C_drew ?_))); (case side6 => exact HC0_1.out); (case side7 => (with_reducible repeat (first | refine blk_drewN ?_ _ | refine blk_drew ?_ | refine blk_alloc ?_ _)); exact BK928.out); rintro e w16 ⟨rfl, hb⟩; refine ⟨_, rfl, ?_⟩; have n0_ := Aside0.mk (blk_below (g := gb928) (o := .cells #[.slice A0_0 l0_0.length c0_0, .slice A0_1 l0_1.length c0_1] 29 (0, 0)) (zk BK928) hb); have n1_ := Aside0.mk (blk_below (g := gb929) (o := .cells #[.slice none 0 0, .slice none 0 0] 29 (0, 0)) (zk BK929) hb); have n2_ := Aside0.mk (below_step zB hb); clear BK928; clear BK929; clear HB; have BK928 := n0_; have BK929 := n1_; have HB := n2_; clear n0_ n1_ n2_; (try clear hb); (try clear hb2); (try clear hk); (try clear hi)))
   (try simp only [Act.put, List.setIfInBounds_toArray, List.set_cons_zero, List.set_cons_succ])
   have H := HC15.out
   clear HC15
   by_cases c17 : t932 = true
   ·subst c17
    have H1 : (some (([] : List Int), ([] : List Int), 4)) = some (r1, r2, r3) := by rw [if_pos rfl] at H; exact H
    clear H
    have H := H1
    clear H1
    simp only [Option.some.injEq, Prod.mk.injEq] at H
    obtain ⟨rfl, rfl, rfl⟩ := H
    have hnb18 := NB929_928.out
    have hnc18 := NB928_929.out
    have hcz19_0 : w16.cell? ⟨gb929, 0, none⟩ = some (.slice none 0 0) := (blk_cell BK929.out 0).trans rfl
    have hcz19_1 : w16.cell? ⟨gb929, 1, none⟩ = some (.slice none 0 0) := (blk_cell BK929.out 1).trans rfl
    have hfz19_0 := blk_frozen BK929.out 0
    have hfz19_1 := blk_frozen BK929.out 1
    go_wp2
    refine bodyPost_ret (results_ct rfl _ _ gb929 29 #[.slice none 0 0, .slice none 0 0] (0, 0) _ rfl (by (with_reducible repeat (first | refine blk_drewN ?_ _ | refine blk_drew ?_ | refine blk_alloc ?_ _)); refine blk_put (cs := #[.slice none 0 0, .slice none 0 0]) ?_ 1 _ rfl; (with_reducible repeat (first | refine blk_drewN ?_ _ | refine blk_drew ?_ | refine blk_alloc ?_ _)); refine blk_put (cs := #[.slice none 0 0, .slice none 0 0]) ?_ 0 _ rfl; (with_reducible repeat (first | refine blk_drewN ?_ _ | refine blk_drew ?_ | refine blk_alloc ?_ _)); exact BK929.out) Try.underlying29 rfl zK) rfl ?_
    exact ⟨_, _, by first | rfl | (simp [errW_none, errW_some] <;> rfl) | (simp [*, errW_none, errW_some] <;> rfl), by first | exact Kd.R_nil _ _ _ _ _ | exact Kd.N_nil _ _ _ _ _ | exact Kd.V_nil _ _ _ _ _ | exact Kd.Q_nil _ _ _ _ _ | exact Kd.S_nil _ _ _ _ _, by first | exact Kd.R_nil _ _ _ _ _ | exact Kd.N_nil _ _ _ _ _ | exact Kd.V_nil _ _ _ _ _ | exact Kd.Q_nil _ _ _ _ _ | exact Kd.S_nil _ _ _ _ _, by repeat (first | (with_reducible first | exact HB.out | apply below_alloc | apply pw_below_drewN | apply below_drew1 | refine below_set ?_ GE928.out | refine below_set ?_ GE929.out) | exact HB.out)⟩
   ·replace c17 := Bool.eq_false_iff.mpr c17
    subst c17
    have H1 : ((slices_Clone_int_int.f l1).bind fun t933 => (table_Project.l0 k l1 l0_1 (l0_1.length : Int) 0 l0_0 l0_1 t933 ([] : List Int))) = some (r1, r2, r3) := by rw [if_neg (show ¬ (false = true) by decide)] at H; exact H
    clear H
    have H := H1
    clear H1
    replace H := Option.bind_eq_some_iff.mp H
    obtain ⟨t933, A200, H⟩ := H
    replace H : (table_Project.l0 k l1 l0_1 (l0_1.length : Int) 0 l0_0 l0_1 t933 ([] : List Int)) = some (r1, r2, r3) := H
    have A20 := Aside0.mk A200
    clear A200
    have H' := Aside0.mk H
    clear H
    go_wp2_with (first | ((with_reducible refine gate_callee (f := 42) rfl ?_); refine goesL_ (some 28) rfl rfl Try.func42 zK rfl #[.slice A1 l1.length c1] rfl zM ?_; (with_reducible refine (slices_Clone_int_int.calls _ _ l1 t933 _ ?side1 ?side2 A20.out).mono ?_); (case side1 => repeat (first | exact (Kd.C_below HR1.out HB.out) | (with_reducible refine Kd.C_alloc ?_ _) | (with_reducible refine Kd.C_drewN ?_ _) | (with_reducible refine Kd.C_drew ?_))); (case side2 => exact HC1.out); rintro e w21 ⟨v934, rfl, ho0, hb⟩; refine ⟨_, rfl, ?_⟩; have n0_ := Aside0.mk (Kd.R_lower ho0 (below_size zB)); have n1_ := Aside0.mk (blk_below (g := gb928) (o := .cells #[.slice A0_0 l0_0.length c0_0, .slice A0_1 l0_1.length c0_1] 29 (0, 0)) (zk BK928) hb); have n2_ := Aside0.mk (blk_below (g := gb929) (o := .cells #[.slice none 0 0, .slice none 0 0] 29 (0, 0)) (zk BK929) hb); have n3_ := Aside0.mk (below_step zB hb); clear BK928; clear BK929; clear HB; have HO935 := n0_; have BK928 := n1_; have BK929 := n2_; have HB := n3_; clear n0_ n1_ n2_ n3_; (try clear hb); (try clear hb2); (try clear hk); (try clear hi); (try clear ho0); obtain ⟨Ao22, co22, eo22⟩ := Kd.R_slice HO935.out; subst eo22) | ((with_reducible refine gate_dst (N := 8) rfl ?_); refine box_event ?hg (N := 8) ?hd (cs := #[.slice none 0 0, .slice none 0 0]) (t := 29) ?hr ?_; (case hd => rfl); (case hg => rfl); (case hr => first | (go_simp; done) | (go_simp; rfl)); intro gb936 hg w23 hbox hb; have n0_ := Aside0.mk (Kd.R_below (zR HO935) hb); have n1_ := Aside0.mk (blk_below (g := gb928) (o := .cells #[.slice A0_0 l0_0.length c0_0, .slice A0_1 l0_1.length c0_1] 29 (0, 0)) (zk BK928) hb); have n2_ := Aside0.mk (blk_below (g := gb929) (o := .cells #[.slice none 0 0, .slice none 0 0] 29 (0, 0)) (zk BK929) hb); have n3_ := Aside0.mk (below_step zB hb); have n4_ := Aside0.mk (hbox); have n5_ := Aside0.mk ((by rw [hg]; exact (below_size zB) : w.heap.size ≤ gb936)); have n6_ := Aside0.mk ((by rw [hg]; exact (below_size zB) : w.heap.size ≤ gb936)); have n7_ := Aside0.mk ((by rw [hg]; exact Nat.ne_of_lt (blk_lt (g := gb928) (o := .cells #[.slice A0_0 l0_0.length c0_0, .slice A0_1 l0_1.length c0_1] 29 (0, 0)) (zk BK928)) : gb928 ≠ gb936)); have n8_ := Aside0.mk ((by rw [hg]; exact Nat.ne_of_gt (blk_lt (g := gb928) (o := .cells #[.slice A0_0 l0_0.length c0_0, .slice A0_1 l0_1.length c0_1] 29 (0, 0)) (zk BK928)) : gb936 ≠ gb928)); have n9_ := Aside0.mk ((by rw [hg]; exact Nat.ne_of_lt (blk_lt (g := gb929) (o := .cells #[.slice none 0 0, .slice none 0 0] 29 (0, 0)) (zk BK929)) : gb929 ≠ gb936)); have n10_ := Aside0.mk ((by rw [hg]; exact Nat.ne_of_gt (blk_lt (g := gb929) (o := .cells #[.slice none 0 0, .slice none 0 0] 29 (0, 0)) (zk BK929)) : gb936 ≠ gb929)); clear HO935; clear BK928; clear BK929; clear HB; have HO935 := n0_; have BK928 := n1_; have BK929 := n2_; have HB := n3_; have BK936 := n4_; have GW936 := n5_; have GE936 := n6_; have NB928_936 := n7_; have NB936_928 := n8_; have NB929_936 := n9_; have NB936_929 := n10_; clear n0_ n1_ n2_ n3_ n4_ n5_ n6_ n7_ n8_ n9_ n10_; clear hb hbox hg; have hnb24 := NB936_928.out; have hnc24 := NB928_936.out; have hnb25 := NB936_929.out; have hnc25 := NB929_936.out; have hcz26_0 : w23.cell? ⟨gb936, 0, none⟩ = some (.slice none 0 0) := (blk_cell BK936.out 0).trans rfl; have hcz26_1 : w23.cell? ⟨gb936, 1, none⟩ = some (.slice none 0 0) := (blk_cell BK936.out 1).trans rfl; have hfz26_0 := blk_frozen BK936.out 0; have hfz26_1 := blk_frozen BK936.out 1; have hnb27 := NB928_929.out; have hnc27 := NB929_928.out; have hcz28_0 : w23.cell? ⟨gb928, 0, none⟩ = some (.slice A0_0 l0_0.length c0_0) := (blk_cell BK928.out 0).trans rfl; have hcz28_1 : w23.cell? ⟨gb928, 1, none⟩ = some (.slice A0_1 l0_1.length c0_1) := (blk_cell BK928.out 1).trans rfl; have hfz28_0 := blk_frozen BK928.out 0; have hfz28_1 := blk_frozen BK928.out 1))
    go_loopg [33] k (fun kq v33 w' => ∃ (x33_1 : Int) (x937001_1 : List Int) (u937001 : Value), v33 = .int .i64 x33_1 ∧ Aside0 (table_Project.l0 kq l1 l0_1 (l0_1.length : Int) x33_1 l0_0 l0_1 t933 x937001_1 = some (r1, r2, r3)) ∧ Aside0 (kq ≤ k) ∧ Aside0 (Kd.R (Kd.int .i64) 3 w' w.heap.size (fun k_ => some k_ ≠ (u937001 : Value).ownBlock) (.slice Ao22 t933.length co22) t933) ∧ Aside0 (Kd.R (Kd.int .i64) 3 w' w.heap.size (fun k_ => some k_ ≠ ((.slice Ao22 t933.length co22) : Value).ownBlock) u937001 x937001_1) ∧ Aside0 (w'.heap[gb928]? = some (.cells #[(.slice A0_0 l0_0.length c0_0), (.slice A0_1 l0_1.length c0_1)] 29 (0, 0))) ∧ Aside0 (w'.heap[gb929]? = some (.cells #[(.slice none 0 0), (.slice none 0 0)] 29 (0, 0))) ∧ Aside0 (w'.heap[gb936]? = some (.cells #[(.slice Ao22 t933.length co22), u937001] 29 (0, 0))) ∧ Aside0 (Below w.heap.size w w'))
    case atStart => exact ⟨(0), (([] : List Int)), (.slice none 0 0), zT, H', ⟨Nat.le_refl _⟩, ⟨by (with_reducible repeat (first | apply Kd.R_alloc | apply Kd.R_drewN | apply Kd.R_drew)); exact Kd.R_mono (Kd.R_far (p := ⟨gb936, 1, none⟩) (Kd.R_far (p := ⟨gb936, 0, none⟩) (Kd.R_types HO935.out BK936.out (by decide)) (fun _ hk => hk.2) (.slice Ao22 t933.length co22)) (fun _ hk => hk.2) (.slice none 0 0)) (fun _ hk => (by simp [Value.ownBlock]))⟩, ⟨by first | exact Kd.R_nil _ _ _ _ _ | exact Kd.N_nil _ _ _ _ _ | exact Kd.V_nil _ _ _ _ _ | exact Kd.Q_nil _ _ _ _ _ | exact Kd.S_nil _ _ _ _ _⟩, ⟨by (with_reducible repeat (first | refine blk_drewN ?_ _ | refine blk_drew ?_ | refine blk_alloc ?_ _)); refine blk_far ?_ NB928_936.out _; (with_reducible repeat (first | refine blk_drewN ?_ _ | refine blk_drew ?_ | refine blk_alloc ?_ _)); refine blk_far ?_ NB928_936.out _; (with_reducible repeat (first | refine blk_drewN ?_ _ | refine blk_drew ?_ | refine blk_alloc ?_ _)); exact BK928.out⟩, ⟨by (with_reducible repeat (first | refine blk_drewN ?_ _ | refine blk_drew ?_ | refine blk_alloc ?_ _)); refine blk_far ?_ NB929_936.out _; (with_reducible repeat (first | refine blk_drewN ?_ _ | refine blk_drew ?_ | refine blk_alloc ?_ _)); refine blk_far ?_ NB929_936.out _; (with_reducible repeat (first | refine blk_drewN ?_ _ | refine blk_drew ?_ | refine blk_alloc ?_ _)); exact BK929.out⟩, ⟨by (with_reducible repeat (first | refine blk_drewN ?_ _ | refine blk_drew ?_ | refine blk_alloc ?_ _)); refine blk_put (cs := #[.slice Ao22 t933.length co22, .slice none 0 0]) ?_ 1 _ rfl; (with_reducible repeat (first | refine blk_drewN ?_ _ | refine blk_drew ?_ | refine blk_alloc ?_ _)); refine blk_put (cs := #[.slice none 0 0, .slice none 0 0]) ?_ 0 _ rfl; (with_reducible repeat (first | refine blk_drewN ?_ _ | refine blk_drew ?_ | refine blk_alloc ?_ _)); exact BK936.out⟩, ⟨by repeat (first | (with_reducible first | exact HB.out | apply below_alloc | apply pw_below_drewN | apply below_drew1 | refine below_set ?_ GE928.out | refine below_set ?_ GE929.out | refine below_set ?_ GE936.out) | exact HB.out)⟩⟩
    case round =>
     clear H'
     try clear c1
     try clear c10
     try clear c10b0
     try clear c10b1
     try clear c13
     try clear c13b0
     try clear c13b1
     try clear c17
     try clear hcz26_0
     try clear hcz26_1
     try clear hcz28_0
     try clear hcz28_1
     try clear hcz8_0
     try clear hcz8_1
     try clear hfz26_0
     try clear hfz26_1
     try clear hfz28_0
     try clear hfz28_1
     try clear hfz8_0
     try clear hfz8_1
     obtain ⟨x33_1, x937001_1, u937001, rfl, HA, HK1, HO_937000, HO_937001, BK928, BK929, BK936, HB⟩ := hrel
     cases gk with
     | zero => exact absurd HA.out (by simp [table_Project.l0])
     | succ k1 =>
      have H := HA.out
      clear HA
      simp only [table_Project.l0] at H
      by_cases c29 : x33_1 < (l0_1.length : Int)
      ·rw [if_pos c29] at H
       have c29b0 : decide (x33_1 < (l0_1.length : Int)) = true := decide_eq_true c29
       clear c29
       (first | rw [c29b0] | (simp only [i64_w, i32_w]; rw [c29b0]) | skip)
       by_cases c30 : 0 ≤ x33_1
       ·rw [if_pos c30] at H
        have c30b0 : decide (0 ≤ x33_1) = true := decide_eq_true c30
        clear c30
        by_cases c31 : x33_1 < (l0_1.length : Int)
        ·rw [if_pos c31] at H
         have c31b0 : decide (x33_1 < (l0_1.length : Int)) = true := decide_eq_true c31
         clear c31
         replace H := Option.bind_eq_some_iff.mp H
         obtain ⟨t938, A320, H⟩ := H
         replace H : ((table_row.f k1 l1 t938).bind fun t939 => (if x937001_1.length < 17592186044416 then (table_Project.l0 k1 l1 l0_1 (l0_1.length : Int) (wrap64 (x33_1 + 1)) l0_0 l0_1 t933 (x937001_1 ++ [t939])) else (none))) = some (r1, r2, r3) := H
         have A32 := Aside0.mk A320
         clear A320
         replace H := Option.bind_eq_some_iff.mp H
         obtain ⟨t939, A330, H⟩ := H
         replace H : (if x937001_1.length < 17592186044416 then (table_Project.l0 k1 l1 l0_1 (l0_1.length : Int) (wrap64 (x33_1 + 1)) l0_0 l0_1 t933 (x937001_1 ++ [t939])) else (none)) = some (r1, r2, r3) := H
         have A33 := Aside0.mk A330
         clear A330
         by_cases c34 : x937001_1.length < 17592186044416
         ·rw [if_pos c34] at H
          have LMc34 := Aside0.mk c34
          clear c34
          obtain ⟨y940, hy940⟩ : ∃ y_ : List Int, y_ = (x937001_1 ++ [t939]) := ⟨_, rfl⟩
          replace H : (table_Project.l0 k1 l1 l0_1 (l0_1.length : Int) (wrap64 (x33_1 + 1)) l0_0 l0_1 t933 y940) = some (r1, r2, r3) := by first | (rw [hy940]; with_reducible exact H) | (have H2_ := (Option.bind_some _ _).symm.trans H; rw [hy940]; with_reducible exact H2_) | (have H2_ := (Option.bind_some _ _).symm.trans H; with_reducible exact H2_) | with_reducible exact H | (rw [hy940]; exact H) | exact H
          have Ny940 := Aside0.mk hy940
          clear hy940
          have H' := Aside0.mk H
          clear H
          have p937 : 0 ≤ (x33_1 : Int) := of_decide_eq_true zh
          have q937 : x33_1 < (l0_1.length : Int) := of_decide_eq_true zh
          obtain ⟨ad937, e937, hx937_0⟩ := Kd.at_int HR0_1.out x33_1 p937 q937
          cases e937
          replace hx937_0 := (HB.out.cell (World.block_lt_of_cell? w _ hx937_0)).trans hx937_0
          replace p937 := eq_true p937
          replace q937 := eq_true q937
          try go_wp2
          have n0_ := Aside0.mk (Kd.R_drew HO_937000.out)
          have n1_ := Aside0.mk (Kd.R_drew HO_937001.out)
          have n2_ := Aside0.mk (blk_drew BK928.out)
          have n3_ := Aside0.mk (blk_drew BK929.out)
          have n4_ := Aside0.mk (blk_drew BK936.out)
          have n5_ := Aside0.mk (below_drew1 HB.out)
          clear HO_937000
          clear HO_937001
          clear BK928
          clear BK929
          clear BK936
          clear HB
          have HO_937000 := n0_
          have HO_937001 := n1_
          have BK928 := n2_
          have BK929 := n3_
          have BK936 := n4_
          have HB := n5_
          clear n0_ n1_ n2_ n3_ n4_ n5_
          refine start_ (n := 12) (S := fun w' => w'.cell? ⟨gb936, 0, none⟩ = some (.slice Ao22 t933.length co22) ∧ w'.cell? ⟨gb936, 1, none⟩ = some (u937001) ∧ w'.cell? ⟨gb928, 0, none⟩ = some (.slice A0_0 l0_0.length c0_0) ∧ w'.cell? ⟨gb928, 1, none⟩ = some (.slice (some ad937) l0_1.length c0_1)) (ds := [11]) #[false, false, false, false, false, false, false, false, false, false, false, false] zK rfl rfl ⟨(blk_cell BK936.out 0).trans rfl, (blk_cell BK936.out 1).trans rfl, (blk_cell BK928.out 0).trans rfl, (blk_cell BK928.out 1).trans rfl⟩ (fun hHeld => ?_); refine with_tabW table_Project.tab13 table_Project.bits13 (fun HT_ HW_ => ?_)
          generalize wr.drew = w35 at HO_937000 HO_937001 BK928 BK929 BK936 HB hHeld ⊢
          refine pure_ (i := 0) (N := some 37) (v := ?_) (a' := ?_) #[true, false, false, false, false, false, false, false, false, false, false, false] rfl rfl (any_of HT_.out zK) (fun _ _ _ h => h) (Or.inl ⟨by rfl, ?_⟩) ?_ ?_
          rotate_left
          ·intro w'
           go_simp
           with_reducible rfl
          rotate_left
          ·simp only [Act.put, List.setIfInBounds_toArray, List.set_cons_zero, List.set_cons_succ, i64_w, i32_w]
           rfl
          refine pure_ (i := 2) (N := some 39) (v := ?_) (a' := ?_) #[true, false, true, false, false, false, false, false, false, false, false, false] rfl rfl (any_of HT_.out zK) (fun _ _ _ h => h) (Or.inl ⟨by rfl, ?_⟩) ?_ ?_
          rotate_left
          ·intro w'
           go_simp
           with_reducible rfl
          rotate_left
          ·simp only [Act.put, List.setIfInBounds_toArray, List.set_cons_zero, List.set_cons_succ, i64_w, i32_w]
           rfl
          refine pure_ (i := 3) (N := some 40) (v := ?_) (a' := ?_) #[true, false, true, true, false, false, false, false, false, false, false, false] rfl rfl (any_of HT_.out zK) (fun _ _ _ h => h) (Or.inl ⟨by rfl, ?_⟩) ?_ ?_
          rotate_left
          ·intro w'
           go_simp
           with_reducible rfl
          rotate_left
          ·simp only [Act.put, List.setIfInBounds_toArray, List.set_cons_zero, List.set_cons_succ, i64_w, i32_w]
           rfl
          refine pure_ (i := 5) (N := some 42) (v := ?_) (a' := ?_) #[true, false, true, true, false, true, false, false, false, false, false, false] rfl rfl (any_of HT_.out zK) (fun _ _ _ h => h) (Or.inl ⟨by rfl, ?_⟩) ?_ ?_
          rotate_left
          ·intro w'
           go_simp
           with_reducible rfl
          rotate_left
          ·simp only [Act.put, List.setIfInBounds_toArray, List.set_cons_zero, List.set_cons_succ, i64_w, i32_w]
           rfl
          refine take_ (i := 1) (N := some 38) (v := ?_) (a' := ?_) #[true, true, true, true, false, true, false, false, false, false, false, false] rfl rfl (take_ofW HT_.out HW_.out zK) (fun _ _ _ h => h) (Or.inl ⟨by rfl, ?_⟩) hHeld ?_ ?_
          rotate_left
          ·rintro w' ⟨s0, s1, s2, s3⟩
           go_simp
           with_reducible rfl
          rotate_left
          ·simp only [Act.put, List.setIfInBounds_toArray, List.set_cons_zero, List.set_cons_succ, i64_w, i32_w]
           rfl
          refine take_ (i := 4) (N := some 41) (v := ?_) (a' := ?_) #[true, true, true, true, true, true, false, false, false, false, false, false] rfl rfl (take_ofW HT_.out HW_.out zK) (fun _ _ _ h => h) (Or.inl ⟨by rfl, ?_⟩) hHeld ?_ ?_
          rotate_left
          ·rintro w' ⟨s0, s1, s2, s3⟩
           go_simp
           with_reducible rfl
          rotate_left
          ·simp only [Act.put, List.setIfInBounds_toArray, List.set_cons_zero, List.set_cons_succ, i64_w, i32_w]
           rfl
          refine one_ (i := 6) (N := some 43) #[true, true, true, true, true, true, true, false, false, false, false, false] rfl rfl (one_of HT_.out zK) (by decide) (fun K hK => ?_)
          refine goes_ Try.func69 zK rfl #[.slice A0_0 l0_0.length c0_0, .int .i64 (rd l0_1 x33_1)] (by rfl) rfl rfl zM ?_
          with_reducible refine (table_assignment.calls k1 _ _ l0_0 (rd l0_1 x33_1) t938 _ ?side1 ?side2 A32.out).mono ?_
          (case side1 => repeat (first | exact (Kd.C_below HR0_0.out HB.out) | (with_reducible refine Kd.C_alloc ?_ _) | (with_reducible refine Kd.C_drewN ?_ _) | (with_reducible refine Kd.C_drew ?_)))
          (case side2 => exact HC0_0.out)
          rintro e w' ⟨rfl, ⟨nd, rfl⟩⟩
          refine ⟨_, rfl, ?_⟩
          refine hK.out _ _ ⟨(blk_cell BK936.out 0).trans rfl, (blk_cell BK936.out 1).trans rfl, (blk_cell BK928.out 0).trans rfl, (blk_cell BK928.out 1).trans rfl⟩ (fun hHeld => ?_)
          clear hK K
          refine norm_ (a' := ?_) ?_ ?_
          rotate_left
          ·show Act.put _ (some 43) _ = _
           simp only [Act.put, List.setIfInBounds_toArray, List.set_cons_zero, List.set_cons_succ, i64_w, i32_w]
           rfl
          refine one_ (i := 7) (N := some 44) #[true, true, true, true, true, true, true, true, false, false, false, false] rfl rfl (one_of HT_.out zK) (by decide) (fun K hK => ?_)
          refine goes_ Try.func68 zK rfl #[.slice A1 l1.length c1, .int .i64 t938] (by rfl) rfl rfl zM ?_
          with_reducible refine (table_row.calls k1 _ _ l1 t938 t939 _ ?side1 ?side2 A33.out).mono ?_
          (case side1 => repeat (first | exact (Kd.C_below HR1.out zB) | (with_reducible refine Kd.C_alloc ?_ _) | (with_reducible refine Kd.C_drewN ?_ _) | (with_reducible refine Kd.C_drew ?_)))
          (case side2 => exact HC1.out)
          rintro e w' ⟨rfl, ⟨nd, rfl⟩⟩
          refine ⟨_, rfl, ?_⟩
          refine hK.out _ _ ⟨(blk_cell BK936.out 0).trans rfl, (blk_cell BK936.out 1).trans rfl, (blk_cell BK928.out 0).trans rfl, (blk_cell BK928.out 1).trans rfl⟩ (fun hHeld => ?_)
          clear hK K
          refine norm_ (a' := ?_) ?_ ?_
          rotate_left
          ·show Act.put _ (some 44) _ = _
           simp only [Act.put, List.setIfInBounds_toArray, List.set_cons_zero, List.set_cons_succ, i64_w, i32_w]
           rfl
          refine one_ (i := 8) (N := some 45) #[true, true, true, true, true, true, true, true, true, false, false, false] rfl rfl (one_of HT_.out zK) (by decide) (fun K hK => ?_)
          refine value_ (w1 := ?_) (v := ?_) (by rfl) rfl ?_ ?_
          rotate_left 2
          ·go_simp
           constructor
           ·rfl
           ·rfl
          refine hK.out _ _ ⟨(blk_cell (blk_alloc BK936.out _) 0).trans rfl, (blk_cell (blk_alloc BK936.out _) 1).trans rfl, (blk_cell (blk_alloc BK928.out _) 0).trans rfl, (blk_cell (blk_alloc BK928.out _) 1).trans rfl⟩ (fun hHeld => ?_)
          clear hK K
          refine norm_ (a' := ?_) ?_ ?_
          rotate_left
          ·show Act.put _ (some 45) _ = _
           simp only [Act.put, List.setIfInBounds_toArray, List.set_cons_zero, List.set_cons_succ, i64_w, i32_w]
           rfl
          refine one_ (i := 9) (N := some 46) #[true, true, true, true, true, true, true, true, true, true, false, false] rfl rfl (one_of HT_.out zK) (by decide) (fun K hK => ?_)
          refine Kd.R_append_step (Kd.int .i64) (w0 := w) w.heap.size (by rfl) (.tmp 38) (.tmp 45) 27 3 (.int .i64 0) 8 rfl Try.underlying27 info3 rfl (by decide) (by omega) u937001 x937001_1 t939 [.int .i64 t939] (fun k_ => some k_ ≠ (.slice Ao22 t933.length co22 : Value).ownBlock) (fun _ => False) rfl rfl ?aP (fun _ hk => hk.elim) ?aF ?aO ?aB ?aS ?aL ?_
          (case aP => exact rfl)
          (case aB => exact zB)
          (case aF => exact (fun k_ hk => Kd.fresh' (Kd.R_lt (zR HO_937000)) k_ hk))
          (case aO => exact (zR HO_937001))
          (case aS => exact (below_size zB))
          (case aL => have := LMc34.out; omega)
          intro v941 w36 ho hb hg hat
          rw [← Ny940.out] at ho
          have n0_ := Aside0.mk (Kd.R_after (ok := (fun _ => True)) (by (with_reducible repeat (first | apply Kd.R_alloc | apply Kd.R_drewN | apply Kd.R_drew)); exact Kd.R_mono HO_937000.out (fun _ hk => ⟨trivial, hk⟩)) hg hat)
          have n1_ := Aside0.mk (blk_grown (g := gb928) (o := .cells #[.slice A0_0 l0_0.length c0_0, .slice (some ad937) l0_1.length c0_1] 29 (0, 0)) (zk BK928) hg (Kd.R_ne HO_937001.out BK928.out (by decide)))
          have n2_ := Aside0.mk (blk_grown (g := gb929) (o := .cells #[.slice none 0 0, .slice none 0 0] 29 (0, 0)) (zk BK929) hg (Kd.R_ne HO_937001.out BK929.out (by decide)))
          have n3_ := Aside0.mk (blk_grown (g := gb936) (o := .cells #[.slice Ao22 t933.length co22, u937001] 29 (0, 0)) (zk BK936) hg (Kd.R_ne HO_937001.out BK936.out (by decide)))
          have n4_ := Aside0.mk (hb)
          have n5_ := Aside0.mk (ho)
          clear HO_937000
          clear BK928
          clear BK929
          clear BK936
          clear HB
          clear HO_937001
          have HO_937000 := n0_
          have BK928 := n1_
          have BK929 := n2_
          have BK936 := n3_
          have HB := n4_
          have HO942 := n5_
          clear n0_ n1_ n2_ n3_ n4_ n5_
          clear ho hb hg hat
          obtain ⟨Ao37, co37, eo37⟩ := Kd.R_slice HO942.out
          (first | subst eo37 | (injection eo37 with f1_ f2_ f3_; have f4_ := f1_.symm; have f5_ := f3_.symm; clear f1_ f2_ f3_; subst f4_; subst f5_))
          refine hK.out _ _ ⟨(blk_cell BK936.out 0).trans rfl, (blk_cell BK936.out 1).trans rfl, (blk_cell BK928.out 0).trans rfl, (blk_cell BK928.out 1).trans rfl⟩ (fun hHeld => ?_)
          clear hK K
          refine norm_ (a' := ?_) ?_ ?_
          rotate_left
          ·show Act.put _ (some 46) _ = _
           simp only [Act.put, List.setIfInBounds_toArray, List.set_cons_zero, List.set_cons_succ, i64_w, i32_w]
           rfl
          refine pure_ (i := 10) (N := some 47) (v := ?_) (a' := ?_) #[true, true, true, true, true, true, true, true, true, true, true, false] rfl rfl (any_of HT_.out zK) (fun _ _ _ h => h) (Or.inl ⟨by rfl, ?_⟩) ?_ ?_
          rotate_left
          ·intro w'
           go_simp
           with_reducible rfl
          rotate_left
          ·simp only [Act.put, List.setIfInBounds_toArray, List.set_cons_zero, List.set_cons_succ, i64_w, i32_w]
           rfl
          refine last_ (i := 11) (N := none) #[true, true, true, true, true, true, true, true, true, true, true, true] rfl rfl (one_of HT_.out zK) (by decide) (fun K hK => ?_)
          have hs38 : w36.cell? ⟨gb936, 1, none⟩ = some (u937001) := (blk_cell BK936.out 1).trans rfl
          have hfs38 := blk_frozen BK936.out 1
          have hns38_0 := NB928_936.out
          have hns38_1 := NB929_936.out
          have hms38_0 := NB936_928.out
          have hms38_1 := NB936_929.out
          refine skip_ (w1 := ?_) (by rfl) rfl ?_ ?_
          rotate_left
          ·go_simp
           rfl
          refine hK.out _ _ ?_
          clear hK K
          refine done_ (done_of HT_.out zK) ?_
          try go_wp2
          go_roundg k1
          case measure => have := HK1.out; omega
          case rel => exact ⟨(wrap64 (x33_1 + 1)), (y940), (.slice Ao37 y940.length co37), zT, H', ⟨by have := HK1.out; omega⟩, ⟨by (with_reducible repeat (first | apply Kd.R_alloc | apply Kd.R_drewN | apply Kd.R_drew)); exact Kd.R_mono (Kd.R_far (p := ⟨gb936, 1, none⟩) (Kd.R_types HO_937000.out BK936.out (by decide)) (fun _ hk => hk.2) (.slice Ao37 y940.length co37)) (fun _ hk => hk.1.2)⟩, ⟨by (with_reducible repeat (first | apply Kd.R_alloc | apply Kd.R_drewN | apply Kd.R_drew)); exact Kd.R_mono (Kd.R_far (p := ⟨gb936, 1, none⟩) (Kd.R_types HO942.out BK936.out (by decide)) (fun _ hk => hk.2) (.slice Ao37 y940.length co37)) (fun _ hk => hk.1)⟩, ⟨by (with_reducible repeat (first | refine blk_drewN ?_ _ | refine blk_drew ?_ | refine blk_alloc ?_ _)); refine blk_far ?_ NB928_936.out _; (with_reducible repeat (first | refine blk_drewN ?_ _ | refine blk_drew ?_ | refine blk_alloc ?_ _)); exact BK928.out⟩, ⟨by (with_reducible repeat (first | refine blk_drewN ?_ _ | refine blk_drew ?_ | refine blk_alloc ?_ _)); refine blk_far ?_ NB929_936.out _; (with_reducible repeat (first | refine blk_drewN ?_ _ | refine blk_drew ?_ | refine blk_alloc ?_ _)); exact BK929.out⟩, ⟨by (with_reducible repeat (first | refine blk_drewN ?_ _ | refine blk_drew ?_ | refine blk_alloc ?_ _)); refine blk_put (cs := #[.slice Ao22 t933.length co22, u937001]) ?_ 1 _ rfl; (with_reducible repeat (first | refine blk_drewN ?_ _ | refine blk_drew ?_ | refine blk_alloc ?_ _)); exact BK936.out⟩, ⟨by repeat (first | (with_reducible first | exact HB.out | apply below_alloc | apply pw_below_drewN | apply below_drew1 | refine below_set ?_ GE928.out | refine below_set ?_ GE929.out | refine below_set ?_ GE936.out) | exact HB.out)⟩⟩
         ·rw [if_neg c34] at H
          exact absurd H (by simp)
        ·rw [if_neg c31] at H
         exact absurd H (by simp)
       ·rw [if_neg c30] at H
        exact absurd H (by simp)
      ·rw [if_neg c29] at H
       have c29b0 : decide (x33_1 < (l0_1.length : Int)) = false := decide_eq_false c29
       clear c29
       (first | rw [c29b0] | (simp only [i64_w, i32_w]; rw [c29b0]) | skip)
       replace H := Option.bind_eq_some_iff.mp H
       obtain ⟨t943, A390, H⟩ := H
       replace H : ((slices_Compact_int_int.f t943).bind fun t944 => (some (t933, t944, 0))) = some (r1, r2, r3) := H
       have A39 := Aside0.mk A390
       clear A390
       replace H := Option.bind_eq_some_iff.mp H
       obtain ⟨t944, A400, H⟩ := H
       replace H : (some (t933, t944, 0)) = some (r1, r2, r3) := H
       have A40 := Aside0.mk A400
       clear A400
       simp only [Option.some.injEq, Prod.mk.injEq] at H
       obtain ⟨rfl, rfl, rfl⟩ := H
       have hnb41 := NB936_928.out
       have hnc41 := NB928_936.out
       have hnb42 := NB936_929.out
       have hnc42 := NB929_936.out
       have hcz43_0 : wr.cell? ⟨gb936, 0, none⟩ = some (.slice Ao22 t933.length co22) := (blk_cell BK936.out 0).trans rfl
       have hcz43_1 : wr.cell? ⟨gb936, 1, none⟩ = some (u937001) := (blk_cell BK936.out 1).trans rfl
       have hfz43_0 := blk_frozen BK936.out 0
       have hfz43_1 := blk_frozen BK936.out 1
       obtain ⟨Ao44, co44, eo44⟩ := Kd.R_slice HO_937001.out
       subst eo44
       go_wp2_with (first | ((with_reducible refine gate_callee (f := 70) rfl ?_); refine goesL_ (some 51) rfl rfl Try.func70 zK rfl #[.slice Ao44 x937001_1.length co44] rfl zM ?_; (with_reducible refine (slices_Sort_int_int.calls (fun k_ => some k_ = (.slice Ao44 x937001_1.length co44 : Value).ownBlock) (.slice Ao44 x937001_1.length co44) x937001_1 t943 w _ ?side1 ?side2 A39.out).mono ?_); (case side1 => repeat (first | (with_reducible first | exact HB.out | apply below_alloc | apply pw_below_drewN | apply below_drew1 | refine below_set ?_ GE928.out | refine below_set ?_ GE929.out | refine below_set ?_ GE936.out) | exact HB.out)); (case side2 => exact Kd.R_tight rfl HO_937001.out); rintro e w45 ⟨rfl, hy0, hb, hkp⟩; refine ⟨_, rfl, ?_⟩; have n0_ := Aside0.mk (Kd.R_mono (ok' := fun k_ => some k_ ≠ (.slice Ao44 x937001_1.length co44 : Value).ownBlock) (Kd.R_keptB (HO_937000.out) hkp (fun k_ hk_ hs_ => (hk_) hs_)) (fun k_ hk_ => hk_.1)); have n1_ := Aside0.mk (Kd.R_reok rfl hy0 (fun k_ e_ => HO_937001.out.1 k_ e_)); have n2_ := Aside0.mk (blk_kept (zk BK928) hkp (fun hs_ => (fun e_ => (Kd.R_ne HO_937001.out BK928.out (by decide)) e_) hs_)); have n3_ := Aside0.mk (blk_kept (zk BK929) hkp (fun hs_ => (fun e_ => (Kd.R_ne HO_937001.out BK929.out (by decide)) e_) hs_)); have n4_ := Aside0.mk (blk_kept (zk BK936) hkp (fun hs_ => (fun e_ => (Kd.R_ne HO_937001.out BK936.out (by decide)) e_) hs_)); have n5_ := Aside0.mk (hb); clear HO_937000; clear HO_937001; clear BK928; clear BK929; clear BK936; clear HB; have HO_937000 := n0_; have HO_937001 := n1_; have BK928 := n2_; have BK929 := n3_; have BK936 := n4_; have HB := n5_; clear n0_ n1_ n2_ n3_ n4_ n5_; (try clear hb); (try clear hkp); (try clear hy0); have hcz46_0 : w45.cell? ⟨gb936, 0, none⟩ = some (.slice Ao22 t933.length co22) := (blk_cell BK936.out 0).trans rfl; have hcz46_1 : w45.cell? ⟨gb936, 1, none⟩ = some (.slice Ao44 x937001_1.length co44) := (blk_cell BK936.out 1).trans rfl; have hfz46_0 := blk_frozen BK936.out 0; have hfz46_1 := blk_frozen BK936.out 1) | ((with_reducible refine gate_callee (f := 71) rfl ?_); refine goesL_ (some 54) rfl rfl Try.func71 zK rfl #[.slice Ao44 x937001_1.length co44] rfl zM ?_; (with_reducible refine (slices_Compact_int_int.calls (fun k_ => some k_ = (.slice Ao44 x937001_1.length co44 : Value).ownBlock) (.slice Ao44 x937001_1.length co44) t943 t944 w _ ?side1 ?side2 A40.out).mono ?_); (case side1 => repeat (first | (with_reducible first | exact HB.out | apply below_alloc | apply pw_below_drewN | apply below_drew1 | refine below_set ?_ GE928.out | refine below_set ?_ GE929.out | refine below_set ?_ GE936.out) | exact HB.out)); (case side2 => exact Kd.R_tight rfl HO_937001.out); rintro e w47 ⟨v945, rfl, ho0, hb, hkp⟩; refine ⟨_, rfl, ?_⟩; have n0_ := Aside0.mk (Kd.R_mono (ok' := fun k_ => some k_ ≠ (v945 : Value).ownBlock) (Kd.R_keptB (HO_937000.out) hkp (fun k_ hk_ hs_ => (hk_) hs_)) (fun k_ hk_ => fun e_ => Or.elim (ho0.1 k_ e_.symm) (fun hs_ => hk_.2.1 hs_) (fun hn_ => Nat.not_le.2 hk_.2.2 hn_))); have n1_ := Aside0.mk (blk_kept (zk BK928) hkp (fun hs_ => (fun e_ => (Kd.R_ne HO_937001.out BK928.out (by decide)) e_) hs_)); have n2_ := Aside0.mk (blk_kept (zk BK929) hkp (fun hs_ => (fun e_ => (Kd.R_ne HO_937001.out BK929.out (by decide)) e_) hs_)); have n3_ := Aside0.mk (blk_kept (zk BK936) hkp (fun hs_ => (fun e_ => (Kd.R_ne HO_937001.out BK936.out (by decide)) e_) hs_)); have n4_ := Aside0.mk (Kd.R_mono (ok' := fun k_ => some k_ ≠ (.slice Ao22 t933.length co22 : Value).ownBlock) ho0 (fun k_ hk_ => Or.elim hk_ (fun hs_ => fun e_ => (((HO_937000.out).1 k_ e_.symm)) hs_) (fun hn_ => (Kd.fresh' (Kd.R_lt (zR HO_937000)) k_ hn_)))); have n5_ := Aside0.mk (hb); clear HO_937000; clear BK928; clear BK929; clear BK936; clear HB; clear HO_937001; have HO_937000 := n0_; have BK928 := n1_; have BK929 := n2_; have BK936 := n3_; have HO946 := n4_; have HB := n5_; clear n0_ n1_ n2_ n3_ n4_ n5_; (try clear hb); (try clear hkp); (try clear ho0); obtain ⟨Ao48, co48, eo48⟩ := Kd.R_slice HO946.out; subst eo48; have hcz49_0 : w47.cell? ⟨gb936, 0, none⟩ = some (.slice Ao22 t933.length co22) := (blk_cell BK936.out 0).trans rfl; have hcz49_1 : w47.cell? ⟨gb936, 1, none⟩ = some (.slice Ao44 x937001_1.length co44) := (blk_cell BK936.out 1).trans rfl; have hfz49_0 := blk_frozen BK936.out 0; have hfz49_1 := blk_frozen BK936.out 1; have hnb50 := NB929_928.out; have hnc50 := NB928_929.out; have hcz51_0 : w47.cell? ⟨gb929, 0, none⟩ = some (.slice none 0 0) := (blk_cell BK929.out 0).trans rfl; have hcz51_1 : w47.cell? ⟨gb929, 1, none⟩ = some (.slice none 0 0) := (blk_cell BK929.out 1).trans rfl; have hfz51_0 := blk_frozen BK929.out 0; have hfz51_1 := blk_frozen BK929.out 1))
       refine bodyPost_ret (results_ct rfl _ _ gb929 29 #[.slice Ao22 t933.length co22, .slice Ao48 t944.length co48] (0, 0) _ rfl (by (with_reducible repeat (first | refine blk_drewN ?_ _ | refine blk_drew ?_ | refine blk_alloc ?_ _)); refine blk_put (cs := #[.slice Ao22 t933.length co22, .slice none 0 0]) ?_ 1 _ rfl; (with_reducible repeat (first | refine blk_drewN ?_ _ | refine blk_drew ?_ | refine blk_alloc ?_ _)); refine blk_put (cs := #[.slice none 0 0, .slice none 0 0]) ?_ 0 _ rfl; (with_reducible repeat (first | refine blk_drewN ?_ _ | refine blk_drew ?_ | refine blk_alloc ?_ _)); refine blk_far ?_ NB929_936.out _; (with_reducible repeat (first | refine blk_drewN ?_ _ | refine blk_drew ?_ | refine blk_alloc ?_ _)); exact BK929.out) Try.underlying29 rfl zK) rfl ?_
       exact ⟨_, _, by first | rfl | (simp [errW_none, errW_some] <;> rfl) | (simp [*, errW_none, errW_some] <;> rfl), by (with_reducible repeat (first | apply Kd.R_alloc | apply Kd.R_drewN | apply Kd.R_drew)); exact Kd.R_mono (Kd.R_far (p := ⟨gb929, 1, none⟩) (Kd.R_far (p := ⟨gb929, 0, none⟩) (Kd.R_far (p := ⟨gb936, 1, none⟩) (Kd.R_types (Kd.R_types HO_937000.out BK936.out (by decide)) BK929.out (by decide)) (fun _ hk => hk.1.2) (.slice Ao48 t944.length co48)) (fun _ hk => hk.2) (.slice Ao22 t933.length co22)) (fun _ hk => hk.2) (.slice Ao48 t944.length co48)) (fun _ hk => hk.1.1), by (with_reducible repeat (first | apply Kd.R_alloc | apply Kd.R_drewN | apply Kd.R_drew)); exact Kd.R_mono (Kd.R_far (p := ⟨gb929, 1, none⟩) (Kd.R_far (p := ⟨gb929, 0, none⟩) (Kd.R_far (p := ⟨gb936, 1, none⟩) (Kd.R_types (Kd.R_types HO946.out BK936.out (by decide)) BK929.out (by decide)) (fun _ hk => hk.1.2) (.slice Ao48 t944.length co48)) (fun _ hk => hk.2) (.slice Ao22 t933.length co22)) (fun _ hk => hk.2) (.slice Ao48 t944.length co48)) (fun _ hk => hk.1.1), by repeat (first | (with_reducible first | exact HB.out | apply below_alloc | apply pw_below_drewN | apply below_drew1 | refine below_set ?_ GE928.out | refine below_set ?_ GE929.out | refine below_set ?_ GE936.out) | exact HB.out)⟩
  ·rw [if_neg c13] at H
   have c13b0 : (t931 == 0) = false := beq_eq_false_iff_ne.mpr c13
   have c13b1 : (t931 != 0) = true := bne_iff_ne.mpr c13
   (first | rw [c13b0] | (simp only [i64_w, i32_w]; rw [c13b0]) | skip)
   (try rw [c13b1])
   simp only [Option.some.injEq, Prod.mk.injEq] at H
   obtain ⟨rfl, rfl, rfl⟩ := H
   have hnb52 := NB929_928.out
   have hnc52 := NB928_929.out
   have hcz53_0 : w9.cell? ⟨gb929, 0, none⟩ = some (.slice none 0 0) := (blk_cell BK929.out 0).trans rfl
   have hcz53_1 : w9.cell? ⟨gb929, 1, none⟩ = some (.slice none 0 0) := (blk_cell BK929.out 1).trans rfl
   have hfz53_0 := blk_frozen BK929.out 0
   have hfz53_1 := blk_frozen BK929.out 1
   go_wp2
   refine bodyPost_ret (results_ct rfl _ _ gb929 29 #[.slice none 0 0, .slice none 0 0] (0, 0) _ rfl (by (with_reducible repeat (first | refine blk_drewN ?_ _ | refine blk_drew ?_ | refine blk_alloc ?_ _)); refine blk_put (cs := #[.slice none 0 0, .slice none 0 0]) ?_ 1 _ rfl; (with_reducible repeat (first | refine blk_drewN ?_ _ | refine blk_drew ?_ | refine blk_alloc ?_ _)); refine blk_put (cs := #[.slice none 0 0, .slice none 0 0]) ?_ 0 _ rfl; (with_reducible repeat (first | refine blk_drewN ?_ _ | refine blk_drew ?_ | refine blk_alloc ?_ _)); exact BK929.out) Try.underlying29 rfl zK) rfl ?_
   exact ⟨_, _, by first | rfl | (simp [errW_none, errW_some] <;> rfl) | (simp [*, errW_none, errW_some] <;> rfl), by first | exact Kd.R_nil _ _ _ _ _ | exact Kd.N_nil _ _ _ _ _ | exact Kd.V_nil _ _ _ _ _ | exact Kd.Q_nil _ _ _ _ _ | exact Kd.S_nil _ _ _ _ _, by first | exact Kd.R_nil _ _ _ _ _ | exact Kd.N_nil _ _ _ _ _ | exact Kd.V_nil _ _ _ _ _ | exact Kd.Q_nil _ _ _ _ _ | exact Kd.S_nil _ _ _ _ _, by repeat (first | (with_reducible first | exact HB.out | apply below_alloc | apply pw_below_drewN | apply below_drew1 | refine below_set ?_ GE928.out | refine below_set ?_ GE929.out) | exact HB.out)⟩
 ·rw [if_neg c10] at H
  have c10b0 : (t930 == 0) = false := beq_eq_false_iff_ne.mpr c10
  have c10b1 : (t930 != 0) = true := bne_iff_ne.mpr c10
  (first | rw [c10b0] | (simp only [i64_w, i32_w]; rw [c10b0]) | skip)
  (try rw [c10b1])
  simp only [Option.some.injEq, Prod.mk.injEq] at H
  obtain ⟨rfl, rfl, rfl⟩ := H
  have hnb54 := NB929_928.out
  have hnc54 := NB928_929.out
  have hcz55_0 : w9.cell? ⟨gb929, 0, none⟩ = some (.slice none 0 0) := (blk_cell BK929.out 0).trans rfl
  have hcz55_1 : w9.cell? ⟨gb929, 1, none⟩ = some (.slice none 0 0) := (blk_cell BK929.out 1).trans rfl
  have hfz55_0 := blk_frozen BK929.out 0
  have hfz55_1 := blk_frozen BK929.out 1
  go_wp2
  refine bodyPost_ret (results_ct rfl _ _ gb929 29 #[.slice none 0 0, .slice none 0 0] (0, 0) _ rfl (by (with_reducible repeat (first | refine blk_drewN ?_ _ | refine blk_drew ?_ | refine blk_alloc ?_ _)); refine blk_put (cs := #[.slice none 0 0, .slice none 0 0]) ?_ 1 _ rfl; (with_reducible repeat (first | refine blk_drewN ?_ _ | refine blk_drew ?_ | refine blk_alloc ?_ _)); refine blk_put (cs := #[.slice none 0 0, .slice none 0 0]) ?_ 0 _ rfl; (with_reducible repeat (first | refine blk_drewN ?_ _ | refine blk_drew ?_ | refine blk_alloc ?_ _)); exact BK929.out) Try.underlying29 rfl zK) rfl ?_
  exact ⟨_, _, by first | rfl | (simp [errW_none, errW_some] <;> rfl) | (simp [*, errW_none, errW_some] <;> rfl), by first | exact Kd.R_nil _ _ _ _ _ | exact Kd.N_nil _ _ _ _ _ | exact Kd.V_nil _ _ _ _ _ | exact Kd.Q_nil _ _ _ _ _ | exact Kd.S_nil _ _ _ _ _, by first | exact Kd.R_nil _ _ _ _ _ | exact Kd.N_nil _ _ _ _ _ | exact Kd.V_nil _ _ _ _ _ | exact Kd.Q_nil _ _ _ _ _ | exact Kd.S_nil _ _ _ _ _, by repeat (first | (with_reducible first | exact HB.out | apply below_alloc | apply pw_below_drewN | apply below_drew1 | refine below_set ?_ GE928.out | refine below_set ?_ GE929.out) | exact HB.out)⟩
end Go.Proofs.Ythcfmdkhkikbcaa.T
