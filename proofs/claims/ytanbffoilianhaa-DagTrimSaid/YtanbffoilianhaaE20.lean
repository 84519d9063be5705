-- Written by wip/tools/myprint.py, a program of this session's.
import Derived.Test.YtanbffoilianhaaE0
import Derived.Test.YtanbffoilianhaaE3
namespace Go.Proofs.Ytanbffoilianhaa.E
open Go.RowKit Go.Proofs.YtanbffoilianhaaW.PrintWords Go.Proofs.YtanbffoilianhaaW.PrintLast Go.Proofs.YtanbffoilianhaaW.PrintMore
attribute [local go_sem] max2_int min2_int max_two min_two max_three min_three max_four min_four   -- for this text's walks alone
set_option linter.unusedVariables false
set_option linter.unusedSimpArgs false
/-! ### dag_CheckCut_1_v1: function 1000068 -/
def dag_CheckCut_1_v1.f (a0_0 : Int) (a0_1 : Int) (a0_2 : Int) (l1_0 : List Bool) : Option (Bool) := if 0 ≤ a0_0 then (if a0_0 < (l1_0.length : Int) then (if rdOf false l1_0 a0_0 = true then (if 0 ≤ a0_1 then (if a0_1 < (l1_0.length : Int) then (some (!(rdOf false l1_0 a0_1))) else (none)) else (none)) else (some false)) else (none)) else (none)
set_option maxHeartbeats 8000000 in
set_option maxRecDepth 100000 in
theorem dag_CheckCut_1_v1.calls (a0_0 : Int) (a0_1 : Int) (a0_2 : Int) (gp1_0 : Nat) (A1_0 : Option Addr) (c1_0 : Nat) (l1_0 : List Bool) (r : Bool) (w : World) (hr1_0 : Kd.C Kd.bool w A1_0 l1_0.length l1_0) (hc1_0 : l1_0.length ≤ c1_0) (hb_gp1_0 : w.heap[gp1_0]? = some (.cells #[.slice A1_0 l1_0.length c1_0] 79 (0, 0))) (h : dag_CheckCut_1_v1.f a0_0 a0_1 a0_2 l1_0 = some r) :
  Calls Try.prog 68 #[.agg #[.int .i64 a0_0, .int .i64 a0_1, .int .i64 a0_2], .pointer (some ⟨gp1_0, 0, none⟩)] w fun e w' => e = .returned (.bool r) ∧ Below w.heap.size w w' := by
 have hu69 := Try.underlying69
 have hu79 := Try.underlying79
 have hu3 := Try.underlying3
 have hu4 := Try.underlying4
 have HR1_0 := Aside0.mk hr1_0
 have HC1_0 := Aside0.mk hc1_0
 clear hr1_0 hc1_0
 have BK453 := Aside0.mk hb_gp1_0
 clear hb_gp1_0
 have HB := Aside0.mk (Below.refl w.heap.size w)
 have H : (if 0 ≤ a0_0 then (if a0_0 < (l1_0.length : Int) then (if rdOf false l1_0 a0_0 = true then (if 0 ≤ a0_1 then (if a0_1 < (l1_0.length : Int) then (some (!(rdOf false l1_0 a0_1))) else (none)) else (none)) else (some false)) else (none)) else (none)) = some r := h
 clear h
 have HC3 := Aside0.mk H
 clear H
 go_enter Try.func68, Try.ntmps68
 go_upto_region 1 with (first | ((with_reducible refine gate_dst (N := 2) rfl ?_); refine box_event ?hg (N := 2) ?hd (cs := #[.int .i64 a0_0, .int .i64 a0_1, .int .i64 a0_2]) (t := 69) ?hr ?_; (case hd => rfl); (case hg => rfl); (case hr => first | (go_simp; done) | (go_simp; rfl)); intro gb454 hg w4 hbox hb; have n0_ := Aside0.mk (blk_below (g := gp1_0) (o := .cells #[.slice A1_0 l1_0.length c1_0] 79 (0, 0)) (zk BK453) hb); have n1_ := Aside0.mk (below_step zB hb); have n2_ := Aside0.mk (hbox); have n3_ := Aside0.mk ((by rw [hg]; exact (below_size zB) : w.heap.size ≤ gb454)); have n4_ := Aside0.mk ((by rw [hg]; exact (below_size zB) : w.heap.size ≤ gb454)); have n5_ := Aside0.mk ((by rw [hg]; exact Nat.ne_of_lt (blk_lt (g := gp1_0) (o := .cells #[.slice A1_0 l1_0.length c1_0] 79 (0, 0)) (zk BK453)) : gp1_0 ≠ gb454)); have n6_ := Aside0.mk ((by rw [hg]; exact Nat.ne_of_gt (blk_lt (g := gp1_0) (o := .cells #[.slice A1_0 l1_0.length c1_0] 79 (0, 0)) (zk BK453)) : gb454 ≠ gp1_0)); clear BK453; clear HB; have BK453 := n0_; have HB := n1_; have BK454 := n2_; have GW454 := n3_; have GE454 := n4_; have NB453_454 := n5_; have NB454_453 := n6_; clear n0_ n1_ n2_ n3_ n4_ n5_ n6_; clear hb hbox hg))
 (try simp only [Act.put, List.setIfInBounds_toArray, List.set_cons_zero, List.set_cons_succ])
 have H := HC3.out
 clear HC3
 by_cases c5 : 0 ≤ a0_0
 ·rw [if_pos c5] at H
  have c5b0 : decide (0 ≤ a0_0) = true := decide_eq_true c5
  clear c5
  (first | rw [c5b0] | (simp only [i64_w, i32_w]; rw [c5b0]) | skip)
  by_cases c6 : a0_0 < (l1_0.length : Int)
  ·rw [if_pos c6] at H
   have c6b0 : decide (a0_0 < (l1_0.length : Int)) = true := decide_eq_true c6
   clear c6
   obtain ⟨bq7, hbq7⟩ : ∃ b_ : Bool, b_ = (rdOf false l1_0 a0_0) := ⟨_, rfl⟩
   replace H : (if bq7 = true then (if 0 ≤ a0_1 then (if a0_1 < (l1_0.length : Int) then (some (!(rdOf false l1_0 a0_1))) else (none)) else (none)) else (some false)) = some r := by rw [← hbq7] at H; exact H
   have Nbq7 := Aside0.mk hbq7
   clear hbq7
   by_cases c8 : bq7 = true
   ·subst c8
    have H1 : (if 0 ≤ a0_1 then (if a0_1 < (l1_0.length : Int) then (some (!(rdOf false l1_0 a0_1))) else (none)) else (none)) = some r := by rw [if_pos rfl] at H; exact H
    clear H
    have H := H1
    clear H1
    by_cases c9 : 0 ≤ a0_1
    ·rw [if_pos c9] at H
     have c9b0 : decide (0 ≤ a0_1) = true := decide_eq_true c9
     clear c9
     by_cases c10 : a0_1 < (l1_0.length : Int)
     ·rw [if_pos c10] at H
      have c10b0 : decide (a0_1 < (l1_0.length : Int)) = true := decide_eq_true c10
      clear c10
      obtain rfl := Option.some.inj H
      have hnb11 := NB453_454.out
      have hnc11 := NB454_453.out
      have hcz12_0 : w4.cell? ⟨gp1_0, 0, none⟩ = some (.slice A1_0 l1_0.length c1_0) := (blk_cell BK453.out 0).trans rfl
      have hfz12_0 := blk_frozen BK453.out 0
      have hcz13_0 : w4.cell? ⟨gb454, 0, none⟩ = some (.int .i64 a0_0) := (blk_cell BK454.out 0).trans rfl
      have hcz13_1 : w4.cell? ⟨gb454, 1, none⟩ = some (.int .i64 a0_1) := (blk_cell BK454.out 1).trans rfl
      have hcz13_2 : w4.cell? ⟨gb454, 2, none⟩ = some (.int .i64 a0_2) := (blk_cell BK454.out 2).trans rfl
      have hfz13_0 := blk_frozen BK454.out 0
      have hfz13_1 := blk_frozen BK454.out 1
      have hfz13_2 := blk_frozen BK454.out 2
      have p455 : 0 ≤ (a0_0 : Int) := of_decide_eq_true zh
      have q455 : a0_0 < (l1_0.length : Int) := of_decide_eq_true zh
      obtain ⟨ad455, e455, hx455_0⟩ := Kd.at_bool HR1_0.out a0_0 p455 q455
      (try rw [← Nbq7.out] at hx455_0)
      cases e455
      replace hx455_0 := (HB.out.cell (World.block_lt_of_cell? w _ hx455_0)).trans hx455_0
      replace p455 := eq_true p455
      replace q455 := eq_true q455
      have p456 : 0 ≤ (a0_1 : Int) := of_decide_eq_true zh
      have q456 : a0_1 < (l1_0.length : Int) := of_decide_eq_true zh
      obtain ⟨ad456, e456, hx456_0⟩ := Kd.at_bool HR1_0.out a0_1 p456 q456
      (try rw [← Nbq7.out] at hx456_0)
      obtain rfl : ad455 = ad456 := (by injection e456)
      replace hx456_0 := (HB.out.cell (World.block_lt_of_cell? w _ hx456_0)).trans hx456_0
      replace p456 := eq_true p456
      replace q456 := eq_true q456
      go_wp2
      go_ret
      exact ⟨by first | rfl | (simp [errW_none, errW_some] <;> rfl) | (simp [*, errW_none, errW_some] <;> rfl), by repeat (first | (with_reducible first | exact HB.out | apply below_alloc | apply pw_below_drewN | apply below_drew1 | refine below_set ?_ GE453.out | refine below_set ?_ GE454.out) | exact HB.out)⟩
     ·rw [if_neg c10] at H
      exact absurd H (by simp)
    ·rw [if_neg c9] at H
     exact absurd H (by simp)
   ·replace c8 := Bool.eq_false_iff.mpr c8
    subst c8
    have H1 : (some false) = some r := by rw [if_neg (show ¬ (false = true) by decide)] at H; exact H
    clear H
    have H := H1
    clear H1
    obtain rfl := Option.some.inj H
    have hnb14 := NB453_454.out
    have hnc14 := NB454_453.out
    have hcz15_0 : w4.cell? ⟨gp1_0, 0, none⟩ = some (.slice A1_0 l1_0.length c1_0) := (blk_cell BK453.out 0).trans rfl
    have hfz15_0 := blk_frozen BK453.out 0
    have hcz16_0 : w4.cell? ⟨gb454, 0, none⟩ = some (.int .i64 a0_0) := (blk_cell BK454.out 0).trans rfl
    have hcz16_1 : w4.cell? ⟨gb454, 1, none⟩ = some (.int .i64 a0_1) := (blk_cell BK454.out 1).trans rfl
    have hcz16_2 : w4.cell? ⟨gb454, 2, none⟩ = some (.int .i64 a0_2) := (blk_cell BK454.out 2).trans rfl
    have hfz16_0 := blk_frozen BK454.out 0
    have hfz16_1 := blk_frozen BK454.out 1
    have hfz16_2 := blk_frozen BK454.out 2
    have p455 : 0 ≤ (a0_0 : Int) := of_decide_eq_true zh
    have q455 : a0_0 < (l1_0.length : Int) := of_decide_eq_true zh
    obtain ⟨ad455, e455, hx455_0⟩ := Kd.at_bool HR1_0.out a0_0 p455 q455
    (try rw [← Nbq7.out] at hx455_0)
    cases e455
    replace hx455_0 := (HB.out.cell (World.block_lt_of_cell? w _ hx455_0)).trans hx455_0
    replace p455 := eq_true p455
    replace q455 := eq_true q455
    go_wp2
    go_ret
    exact ⟨by first | rfl | (simp [errW_none, errW_some] <;> rfl) | (simp [*, errW_none, errW_some] <;> rfl), by repeat (first | (with_reducible first | exact HB.out | apply below_alloc | apply pw_below_drewN | apply below_drew1 | refine below_set ?_ GE453.out | refine below_set ?_ GE454.out) | exact HB.out)⟩
  ·rw [if_neg c6] at H
   exact absurd H (by simp)
 ·rw [if_neg c5] at H
  exact absurd H (by simp)
/-! ### api_Arc_dag_CheckCut_1_v1: function 1000083 -/
def api_Arc_dag_CheckCut_1_v1.l0 : Nat → List (S69) → Int → Int → List Bool → Option (Int)
 | 0, _, _, _, _ => none
 | k + 1, x0, x7, x8, x458000 => if x8 < x7 then (if 0 ≤ x8 then (if x8 < (x0.length : Int) then ((dag_CheckCut_1_v1.f ((rd_T69 x0 x8).f0) ((rd_T69 x0 x8).f1) ((rd_T69 x0 x8).f2) x458000).bind fun t459 => (if t459 = true then (some x8) else (api_Arc_dag_CheckCut_1_v1.l0 k x0 x7 (wrap64 (x8 + 1)) x458000))) else (none)) else (none)) else (some (-1))
def api_Arc_dag_CheckCut_1_v1.f (k : Nat) (l0 : List (S69)) (l1_0 : List Bool) : Option (Int) := api_Arc_dag_CheckCut_1_v1.l0 k l0 (l0.length : Int) 0 l1_0
theorem api_Arc_dag_CheckCut_1_v1.mono_l : ∀ k, (∀ y0 y1 y2 y3, LeO (api_Arc_dag_CheckCut_1_v1.l0 k y0 y1 y2 y3) (api_Arc_dag_CheckCut_1_v1.l0 (k + 1) y0 y1 y2 y3))
 | 0 => fun _ _ _ _ r h => by simp [api_Arc_dag_CheckCut_1_v1.l0] at h
 | k + 1 => by
  have ih0 := api_Arc_dag_CheckCut_1_v1.mono_l k
  ·intro y0 y1 y2 y3
   unfold api_Arc_dag_CheckCut_1_v1.l0
   repeat' first
   | (with_reducible exact ih0 _ _ _ _)
   | (with_reducible exact LeO.refl _)
   | (with_reducible exact LeO.none _)
   | (with_reducible refine LeO.ite ?_ ?_)
   | (with_reducible refine LeO.bind ?_ (fun _ => ?_))
   | exact ih0 _ _ _ _
   | exact LeO.none _
   | refine LeO.ite ?_ ?_
   | refine LeO.bind ?_ (fun _ => ?_)
theorem api_Arc_dag_CheckCut_1_v1.mono : ∀ a0 a1 k, LeO (api_Arc_dag_CheckCut_1_v1.f k a0 a1) (api_Arc_dag_CheckCut_1_v1.f (k + 1) a0 a1) := by
 intro a0 a1 k
 have ih0 := api_Arc_dag_CheckCut_1_v1.mono_l k
 unfold api_Arc_dag_CheckCut_1_v1.f
 repeat' first
   | (with_reducible exact ih0 _ _ _ _)
   | (with_reducible exact LeO.refl _)
   | (with_reducible exact LeO.none _)
   | (with_reducible refine LeO.ite ?_ ?_)
   | (with_reducible refine LeO.bind ?_ (fun _ => ?_))
   | exact ih0 _ _ _ _
   | exact LeO.none _
   | refine LeO.ite ?_ ?_
   | refine LeO.bind ?_ (fun _ => ?_)
set_option maxHeartbeats 8000000 in
set_option maxRecDepth 100000 in
theorem api_Arc_dag_CheckCut_1_v1.calls (k : Nat) (A0 : Option Addr) (c0 : Nat) (l0 : List (S69)) (gp1_0 : Nat) (A1_0 : Option Addr) (c1_0 : Nat) (l1_0 : List Bool) (r : Int) (w : World) (hr0 : Kd.C k69 w A0 l0.length l0) (hc0 : l0.length ≤ c0) (hr1_0 : Kd.C Kd.bool w A1_0 l1_0.length l1_0) (hc1_0 : l1_0.length ≤ c1_0) (hb_gp1_0 : w.heap[gp1_0]? = some (.cells #[.slice A1_0 l1_0.length c1_0] 79 (0, 0))) (h : api_Arc_dag_CheckCut_1_v1.f k l0 l1_0 = some r) :
  Calls Try.prog 83 #[.slice A0 l0.length c0, .func (.func 68) #[] #[.pointer (some ⟨gp1_0, 0, none⟩)]] w fun e w' => e = .returned (.int .i64 r) ∧ Below w.heap.size w w' := by
 have hu69 := Try.underlying69
 have HR0 := Aside0.mk hr0
 have HC0 := Aside0.mk hc0
 clear hr0 hc0
 have HR1_0 := Aside0.mk hr1_0
 have HC1_0 := Aside0.mk hc1_0
 clear hr1_0 hc1_0
 have BK457 := Aside0.mk hb_gp1_0
 clear hb_gp1_0
 have HB := Aside0.mk (Below.refl w.heap.size w)
 have H : (api_Arc_dag_CheckCut_1_v1.l0 k l0 (l0.length : Int) 0 l1_0) = some r := h
 clear h
 have H' := Aside0.mk H
 clear H
 go_enter Try.func83, Try.ntmps83
 go_wp2
 go_loopg [8] k (fun kq v8 w' => ∃ (x8_1 : Int), v8 = .int .i64 x8_1 ∧ Aside0 (api_Arc_dag_CheckCut_1_v1.l0 kq l0 (l0.length : Int) x8_1 l1_0 = some r) ∧ Aside0 (kq ≤ k) ∧ Aside0 (w'.heap[gp1_0]? = some (.cells #[(.slice A1_0 l1_0.length c1_0)] 79 (0, 0))) ∧ Aside0 (Below w.heap.size w w'))
 case atStart => exact ⟨(0), zT, H', ⟨Nat.le_refl _⟩, ⟨by (with_reducible repeat (first | refine blk_drewN ?_ _ | refine blk_drew ?_ | refine blk_alloc ?_ _)); exact BK457.out⟩, ⟨by repeat (first | (with_reducible first | exact HB.out | apply below_alloc | apply pw_below_drewN | apply below_drew1 | refine below_set ?_ GE457.out) | exact HB.out)⟩⟩
 case round =>
  clear H'
  try clear c1
  try clear p1
  try clear p2
  obtain ⟨x8_1, rfl, HA, HK1, BK457, HB⟩ := hrel
  cases gk with
  | zero => exact absurd HA.out (by simp [api_Arc_dag_CheckCut_1_v1.l0])
  | succ k1 =>
   have H := HA.out
   clear HA
   simp only [api_Arc_dag_CheckCut_1_v1.l0] at H
   by_cases c3 : x8_1 < (l0.length : Int)
   ·rw [if_pos c3] at H
    have c3b0 : decide (x8_1 < (l0.length : Int)) = true := decide_eq_true c3
    clear c3
    by_cases c4 : 0 ≤ x8_1
    ·rw [if_pos c4] at H
     have c4b0 : decide (0 ≤ x8_1) = true := decide_eq_true c4
     clear c4
     by_cases c5 : x8_1 < (l0.length : Int)
     ·rw [if_pos c5] at H
      have c5b0 : decide (x8_1 < (l0.length : Int)) = true := decide_eq_true c5
      clear c5
      replace H := Option.bind_eq_some_iff.mp H
      obtain ⟨t459, A60, H⟩ := H
      replace H : (if t459 = true then (some x8_1) else (api_Arc_dag_CheckCut_1_v1.l0 k1 l0 (l0.length : Int) (wrap64 (x8_1 + 1)) l1_0)) = some r := H
      have A6 := Aside0.mk A60
      clear A60
      have HC7 := Aside0.mk H
      clear H
      have p458 : 0 ≤ (x8_1 : Int) := of_decide_eq_true zh
      have q458 : x8_1 < (l0.length : Int) := of_decide_eq_true zh
      obtain ⟨ad458, e458, hx458_0, hx458_1, hx458_2⟩ := at_T69 HR0.out x8_1 p458 q458
      cases e458
      replace hx458_0 := (HB.out.cell (World.block_lt_of_cell? w _ hx458_0)).trans hx458_0
      replace hx458_1 := (HB.out.cell (World.block_lt_of_cell? w _ hx458_1)).trans hx458_1
      replace hx458_2 := (HB.out.cell (World.block_lt_of_cell? w _ hx458_2)).trans hx458_2
      replace p458 := eq_true p458
      replace q458 := eq_true q458
      go_upto_if 16 with (first | (go_at_call 68; (with_reducible refine (dag_CheckCut_1_v1.calls ((rd_T69 l0 x8_1).f0) ((rd_T69 l0 x8_1).f1) ((rd_T69 l0 x8_1).f2) gp1_0 A1_0 c1_0 l1_0 t459 _ ?side1 ?side2 ?side3 A6.out).mono ?_); (case side1 => repeat (first | exact (Kd.C_below HR1_0.out HB.out) | (with_reducible refine Kd.C_alloc ?_ _) | (with_reducible refine Kd.C_drewN ?_ _) | (with_reducible refine Kd.C_drew ?_))); (case side2 => exact HC1_0.out); (case side3 => (with_reducible repeat (first | refine blk_drewN ?_ _ | refine blk_drew ?_ | refine blk_alloc ?_ _)); exact BK457.out); rintro e w8 ⟨rfl, hb⟩; have n0_ := Aside0.mk (blk_below (g := gp1_0) (o := .cells #[.slice A1_0 l1_0.length c1_0] 79 (0, 0)) (zk BK457) hb); have n1_ := Aside0.mk (below_step zB hb); clear BK457; clear HB; have BK457 := n0_; have HB := n1_; clear n0_ n1_; (try clear hb); (try clear hb2); (try clear hk); (try clear hi)))
      (try simp only [Act.put, List.setIfInBounds_toArray, List.set_cons_zero, List.set_cons_succ])
      have H := HC7.out
      clear HC7
      by_cases c9 : t459 = true
      ·subst c9
       have H1 : (some x8_1) = some r := by rw [if_pos rfl] at H; exact H
       clear H
       have H := H1
       clear H1
       obtain rfl := Option.some.inj H
       go_wp2
       go_ret
       exact ⟨by first | rfl | (simp [errW_none, errW_some] <;> rfl) | (simp [*, errW_none, errW_some] <;> rfl), by repeat (first | (with_reducible first | exact HB.out | apply below_alloc | apply pw_below_drewN | apply below_drew1 | refine below_set ?_ GE457.out) | exact HB.out)⟩
      ·replace c9 := Bool.eq_false_iff.mpr c9
       subst c9
       have H1 : (api_Arc_dag_CheckCut_1_v1.l0 k1 l0 (l0.length : Int) (wrap64 (x8_1 + 1)) l1_0) = some r := by rw [if_neg (show ¬ (false = true) by decide)] at H; exact H
       clear H
       have H := H1
       clear H1
       have H' := Aside0.mk H
       clear H
       go_wp2
       go_roundg k1
       case measure => have := HK1.out; omega
       case rel => exact ⟨(wrap64 (x8_1 + 1)), zT, H', ⟨by have := HK1.out; omega⟩, ⟨by (with_reducible repeat (first | refine blk_drewN ?_ _ | refine blk_drew ?_ | refine blk_alloc ?_ _)); exact BK457.out⟩, ⟨by repeat (first | (with_reducible first | exact HB.out | apply below_alloc | apply pw_below_drewN | apply below_drew1 | refine below_set ?_ GE457.out) | exact HB.out)⟩⟩
     ·rw [if_neg c5] at H
      exact absurd H (by simp)
    ·rw [if_neg c4] at H
     exact absurd H (by simp)
   ·rw [if_neg c3] at H
    have c3b0 : decide (x8_1 < (l0.length : Int)) = false := decide_eq_false c3
    clear c3
    obtain rfl := Option.some.inj H
    go_wp2
    go_ret
    exact ⟨by first | rfl | (simp [errW_none, errW_some] <;> rfl) | (simp [*, errW_none, errW_some] <;> rfl), by repeat (first | (with_reducible first | exact HB.out | apply below_alloc | apply pw_below_drewN | apply below_drew1 | refine below_set ?_ GE457.out) | exact HB.out)⟩
/-! ### api_Arc_dag_CheckCut_1: function 1000067 -/
def api_Arc_dag_CheckCut_1.f (k : Nat) (l0 : List (S69)) (l1_0 : List Bool) : Option (Bool) := (api_Arc_dag_CheckCut_1_v1.f k l0 l1_0).bind fun t461 => (some (decide (t461 ≥ 0)))
theorem api_Arc_dag_CheckCut_1.mono : ∀ a0 a1 k, LeO (api_Arc_dag_CheckCut_1.f k a0 a1) (api_Arc_dag_CheckCut_1.f (k + 1) a0 a1) := by
 intro a0 a1 k
 unfold api_Arc_dag_CheckCut_1.f
 repeat' first
   | (with_reducible exact api_Arc_dag_CheckCut_1_v1.mono _ _ _)
   | (with_reducible exact LeO.refl _)
   | (with_reducible exact LeO.none _)
   | (with_reducible refine LeO.ite ?_ ?_)
   | (with_reducible refine LeO.bind ?_ (fun _ => ?_))
   | exact api_Arc_dag_CheckCut_1_v1.mono _ _ _
   | exact LeO.none _
   | refine LeO.ite ?_ ?_
   | refine LeO.bind ?_ (fun _ => ?_)
set_option maxHeartbeats 8000000 in
set_option maxRecDepth 100000 in
theorem api_Arc_dag_CheckCut_1.calls (k : Nat) (A0 : Option Addr) (c0 : Nat) (l0 : List (S69)) (gp1_0 : Nat) (A1_0 : Option Addr) (c1_0 : Nat) (l1_0 : List Bool) (r : Bool) (w : World) (hr0 : Kd.C k69 w A0 l0.length l0) (hc0 : l0.length ≤ c0) (hr1_0 : Kd.C Kd.bool w A1_0 l1_0.length l1_0) (hc1_0 : l1_0.length ≤ c1_0) (hb_gp1_0 : w.heap[gp1_0]? = some (.cells #[.slice A1_0 l1_0.length c1_0] 79 (0, 0))) (h : api_Arc_dag_CheckCut_1.f k l0 l1_0 = some r) :
  Calls Try.prog 67 #[.slice A0 l0.length c0, .func (.func 68) #[] #[.pointer (some ⟨gp1_0, 0, none⟩)]] w fun e w' => e = .returned (.bool r) ∧ Below w.heap.size w w' := by
 have HR0 := Aside0.mk hr0
 have HC0 := Aside0.mk hc0
 clear hr0 hc0
 have HR1_0 := Aside0.mk hr1_0
 have HC1_0 := Aside0.mk hc1_0
 clear hr1_0 hc1_0
 have BK460 := Aside0.mk hb_gp1_0
 clear hb_gp1_0
 have HB := Aside0.mk (Below.refl w.heap.size w)
 have H : ((api_Arc_dag_CheckCut_1_v1.f k l0 l1_0).bind fun t461 => (some (decide (t461 ≥ 0)))) = some r := h
 clear h
 replace H := Option.bind_eq_some_iff.mp H
 obtain ⟨t461, A30, H⟩ := H
 replace H : (some (decide (t461 ≥ 0))) = some r := H
 have A3 := Aside0.mk A30
 clear A30
 obtain rfl := Option.some.inj H
 go_enter Try.func67, Try.ntmps67
 go_wp2_with (first | ((with_reducible refine gate_callee (f := 83) rfl ?_); refine goesL_ (some 7) rfl rfl Try.func83 zK rfl #[.slice A0 l0.length c0, .func (.func 68) #[] #[.pointer (some ⟨gp1_0, 0, none⟩)]] rfl zM ?_; (with_reducible refine (api_Arc_dag_CheckCut_1_v1.calls k _ _ l0 gp1_0 A1_0 c1_0 l1_0 t461 _ ?side1 ?side2 ?side3 ?side4 ?side5 A3.out).mono ?_); (case side1 => repeat (first | exact HR0.out | (with_reducible refine Kd.C_alloc ?_ _) | (with_reducible refine Kd.C_drewN ?_ _) | (with_reducible refine Kd.C_drew ?_))); (case side2 => exact HC0.out); (case side3 => repeat (first | exact HR1_0.out | (with_reducible refine Kd.C_alloc ?_ _) | (with_reducible refine Kd.C_drewN ?_ _) | (with_reducible refine Kd.C_drew ?_))); (case side4 => exact HC1_0.out); (case side5 => (with_reducible repeat (first | refine blk_drewN ?_ _ | refine blk_drew ?_ | refine blk_alloc ?_ _)); exact BK460.out); rintro e w4 ⟨rfl, hb⟩; refine ⟨_, rfl, ?_⟩; have n0_ := Aside0.mk (blk_below (g := gp1_0) (o := .cells #[.slice A1_0 l1_0.length c1_0] 79 (0, 0)) (zk BK460) hb); have n1_ := Aside0.mk (below_step zB hb); clear BK460; clear HB; have BK460 := n0_; have HB := n1_; clear n0_ n1_; (try clear hb); (try clear hb2); (try clear hk); (try clear hi)))
 go_ret
 exact ⟨by first | rfl | (simp [errW_none, errW_some] <;> rfl) | (simp [*, errW_none, errW_some] <;> rfl), by repeat (first | (with_reducible first | exact HB.out | apply below_alloc | apply pw_below_drewN | apply below_drew1 | refine below_set ?_ GE460.out) | exact HB.out)⟩
/-! ### dag_CheckCut: function 33 -/
def dag_CheckCut.l0 : Nat → List Int → List Int → Int → Int → Int → List (S69) → List Bool → Option (Bool)
 | 0, _, _, _, _, _, _, _ => none
 | k + 1, x1, x14, x15, x16, x463000, x463001, x468000 => if x16 < x15 then (if 0 ≤ x16 then (if x16 < (x14.length : Int) then (if (rd x14 x16) < 0 then (some false) else (if (rd x14 x16) ≥ x463000 then (some false) else (if x16 > 0 then (if 0 ≤ (wrap64 (x16 - 1)) then (if (wrap64 (x16 - 1)) < (x1.length : Int) then (if (rd x14 x16) ≤ (rd x1 (wrap64 (x16 - 1))) then (some false) else (if 0 ≤ (rd x14 x16) then (if (rd x14 x16) < (x468000.length : Int) then (dag_CheckCut.l0 k x1 x14 x15 (wrap64 (x16 + 1)) x463000 x463001 (x468000.set ((rd x14 x16) : Int).toNat true)) else (none)) else (none))) else (none)) else (none)) else (if 0 ≤ (rd x14 x16) then (if (rd x14 x16) < (x468000.length : Int) then (dag_CheckCut.l0 k x1 x14 x15 (wrap64 (x16 + 1)) x463000 x463001 (x468000.set ((rd x14 x16) : Int).toNat true)) else (none)) else (none))))) else (none)) else (none)) else (if 0 < (x468000.length : Int) then (if rdOf false x468000 0 = true then (if 0 ≤ (wrap64 (x463000 - 1)) then (if (wrap64 (x463000 - 1)) < (x468000.length : Int) then (if (rdOf false x468000 (wrap64 (x463000 - 1)) = true) then (some false) else ((api_Arc_dag_CheckCut_1.f k x463001 x468000).bind fun t474 => (some (!t474)))) else (none)) else (none)) else (some false)) else (none))
def dag_CheckCut.f (k : Nat) (a0_0 : Int) (l0_1 : List (S69)) (l1 : List Int) : Option (Bool) := (dag_Valid.f k a0_0 l0_1).bind fun t463 => (if t463 = 0 then (if 0 ≤ a0_0 then (if (a0_0 : Int).toNat ≤ 281474976710656 then (dag_CheckCut.l0 k l1 l1 (l1.length : Int) 0 a0_0 l0_1 (List.replicate (a0_0 : Int).toNat false)) else (none)) else (none)) else (some false))
theorem dag_CheckCut.mono_l : ∀ k, (∀ y0 y1 y2 y3 y4 y5 y6, LeO (dag_CheckCut.l0 k y0 y1 y2 y3 y4 y5 y6) (dag_CheckCut.l0 (k + 1) y0 y1 y2 y3 y4 y5 y6))
 | 0 => fun _ _ _ _ _ _ _ r h => by simp [dag_CheckCut.l0] at h
 | k + 1 => by
  have ih0 := dag_CheckCut.mono_l k
  ·intro y0 y1 y2 y3 y4 y5 y6
   unfold dag_CheckCut.l0
   repeat' first
   | (with_reducible exact ih0 _ _ _ _ _ _ _)
   | (with_reducible exact api_Arc_dag_CheckCut_1.mono _ _ _)
   | (with_reducible exact dag_Valid.mono _ _ _)
   | (with_reducible exact LeO.refl _)
   | (with_reducible exact LeO.none _)
   | (with_reducible refine LeO.ite ?_ ?_)
   | (with_reducible refine LeO.bind ?_ (fun _ => ?_))
   | exact ih0 _ _ _ _ _ _ _
   | exact api_Arc_dag_CheckCut_1.mono _ _ _
   | exact dag_Valid.mono _ _ _
   | exact LeO.none _
   | refine LeO.ite ?_ ?_
   | refine LeO.bind ?_ (fun _ => ?_)
theorem dag_CheckCut.mono : ∀ a0 a1 a2 k, LeO (dag_CheckCut.f k a0 a1 a2) (dag_CheckCut.f (k + 1) a0 a1 a2) := by
 intro a0 a1 a2 k
 have ih0 := dag_CheckCut.mono_l k
 unfold dag_CheckCut.f
 repeat' first
   | (with_reducible exact ih0 _ _ _ _ _ _ _)
   | (with_reducible exact api_Arc_dag_CheckCut_1.mono _ _ _)
   | (with_reducible exact dag_Valid.mono _ _ _)
   | (with_reducible exact LeO.refl _)
   | (with_reducible exact LeO.none _)
   | (with_reducible refine LeO.ite ?_ ?_)
   | (with_reducible refine LeO.bind ?_ (fun _ => ?_))
   | exact ih0 _ _ _ _ _ _ _
   | exact api_Arc_dag_CheckCut_1.mono _ _ _
   | exact dag_Valid.mono _ _ _
   | exact LeO.none _
   | refine LeO.ite ?_ ?_
   | refine LeO.bind ?_ (fun _ => ?_)
set_option maxHeartbeats 8000000 in
set_option maxRecDepth 100000 in
theorem dag_CheckCut.calls (k : Nat) (a0_0 : Int) (A0_1 : Option Addr) (c0_1 : Nat) (l0_1 : List (S69)) (A1 : Option Addr) (c1 : Nat) (l1 : List Int) (r : Bool) (w : World) (hr0_1 : Kd.C k69 w A0_1 l0_1.length l0_1) (hc0_1 : l0_1.length ≤ c0_1) (hr1 : Kd.C (Kd.int .i64) w A1 l1.length l1) (hc1 : l1.length ≤ c1) (h : dag_CheckCut.f k a0_0 l0_1 l1 = some r) :
  Calls Try.prog 33 #[.agg #[.int .i64 a0_0, .slice A0_1 l0_1.length c0_1], .slice A1 l1.length c1] w fun e w' => e = .returned (.bool r) ∧ Below w.heap.size w w' := by
 have hu24 := Try.underlying24
 have hu3 := Try.underlying3
 have hu79 := Try.underlying79
 have hu4 := Try.underlying4
 have hu22 := Try.underlying22
 have HR0_1 := Aside0.mk hr0_1
 have HC0_1 := Aside0.mk hc0_1
 clear hr0_1 hc0_1
 have HR1 := Aside0.mk hr1
 have HC1 := Aside0.mk hc1
 clear hr1 hc1
 have HB := Aside0.mk (Below.refl w.heap.size w)
 have H : ((dag_Valid.f k a0_0 l0_1).bind fun t463 => (if t463 = 0 then (if 0 ≤ a0_0 then (if (a0_0 : Int).toNat ≤ 281474976710656 then (dag_CheckCut.l0 k l1 l1 (l1.length : Int) 0 a0_0 l0_1 (List.replicate (a0_0 : Int).toNat false)) else (none)) else (none)) else (some false))) = some r := h
 clear h
 replace H := Option.bind_eq_some_iff.mp H
 obtain ⟨t463, A30, H⟩ := H
 replace H : (if t463 = 0 then (if 0 ≤ a0_0 then (if (a0_0 : Int).toNat ≤ 281474976710656 then (dag_CheckCut.l0 k l1 l1 (l1.length : Int) 0 a0_0 l0_1 (List.replicate (a0_0 : Int).toNat false)) else (none)) else (none)) else (some false)) = some r := H
 have A3 := Aside0.mk A30
 clear A30
 have HC4 := Aside0.mk H
 clear H
 go_enter Try.func33, Try.ntmps33
 go_upto_if 10 with (first | ((with_reducible refine gate_dst (N := 2) rfl ?_); refine box_event ?hg (N := 2) ?hd (cs := #[.int .i64 a0_0, .slice A0_1 l0_1.length c0_1]) (t := 24) ?hr ?_; (case hd => rfl); (case hg => rfl); (case hr => first | (go_simp; done) | (go_simp; rfl)); intro gb462 hg w5 hbox hb; have n0_ := Aside0.mk (below_step zB hb); have n1_ := Aside0.mk (hbox); have n2_ := Aside0.mk ((by rw [hg]; exact (below_size zB) : w.heap.size ≤ gb462)); have n3_ := Aside0.mk ((by rw [hg]; exact (below_size zB) : w.heap.size ≤ gb462)); clear HB; have HB := n0_; have BK462 := n1_; have GW462 := n2_; have GE462 := n3_; clear n0_ n1_ n2_ n3_; clear hb hbox hg; have hcz6_0 : w5.cell? ⟨gb462, 0, none⟩ = some (.int .i64 a0_0) := (blk_cell BK462.out 0).trans rfl; have hcz6_1 : w5.cell? ⟨gb462, 1, none⟩ = some (.slice A0_1 l0_1.length c0_1) := (blk_cell BK462.out 1).trans rfl; have hfz6_0 := blk_frozen BK462.out 0; have hfz6_1 := blk_frozen BK462.out 1) | ((with_reducible refine gate_callee (f := 27) rfl ?_); refine goesL_ (some 9) rfl rfl Try.func27 zK rfl #[.agg #[.int .i64 a0_0, .slice A0_1 l0_1.length c0_1]] rfl zM ?_; (with_reducible refine (dag_Valid.calls k a0_0 _ _ l0_1 t463 _ ?side1 ?side2 A3.out).mono ?_); (case side1 => repeat (first | exact (Kd.C_below HR0_1.out HB.out) | (with_reducible refine Kd.C_alloc ?_ _) | (with_reducible refine Kd.C_drewN ?_ _) | (with_reducible refine Kd.C_drew ?_))); (case side2 => exact HC0_1.out); rintro e w7 ⟨rfl, hb⟩; refine ⟨_, rfl, ?_⟩; have n0_ := Aside0.mk (blk_below (g := gb462) (o := .cells #[.int .i64 a0_0, .slice A0_1 l0_1.length c0_1] 24 (0, 0)) (zk BK462) hb); have n1_ := Aside0.mk (below_step zB hb); clear BK462; clear HB; have BK462 := n0_; have HB := n1_; clear n0_ n1_; (try clear hb); (try clear hb2); (try clear hk); (try clear hi)))
 (try simp only [Act.put, List.setIfInBounds_toArray, List.set_cons_zero, List.set_cons_succ])
 have H := HC4.out
 clear HC4
 by_cases c8 : t463 = 0
 ·rw [if_pos c8] at H
  have c8b0 : (t463 == 0) = true := beq_iff_eq.mpr c8
  have c8b1 : (t463 != 0) = false := bne_eq_false_iff_eq.mpr c8
  clear c8
  (first | rw [c8b0] | (simp only [i64_w, i32_w]; rw [c8b0]) | skip)
  (try rw [c8b1])
  by_cases c9 : 0 ≤ a0_0
  ·rw [if_pos c9] at H
   have c9b0 := eq_true c9
   have c9b1 : decide (0 ≤ a0_0) = true := decide_eq_true c9
   clear c9
   by_cases c10 : (a0_0 : Int).toNat ≤ 281474976710656
   ·rw [if_pos c10] at H
    have c10b0 := eq_true c10
    have c10b1 : decide ((a0_0 : Int).toNat ≤ 281474976710656) = true := decide_eq_true c10
    clear c10
    obtain ⟨y464, hy464⟩ : ∃ y_ : List Bool, y_ = (List.replicate (a0_0 : Int).toNat false) := ⟨_, rfl⟩
    replace H : (dag_CheckCut.l0 k l1 l1 (l1.length : Int) 0 a0_0 l0_1 y464) = some r := by first | (rw [hy464]; with_reducible exact H) | (have H2_ := (Option.bind_some _ _).symm.trans H; rw [hy464]; with_reducible exact H2_) | (have H2_ := (Option.bind_some _ _).symm.trans H; with_reducible exact H2_) | with_reducible exact H | (rw [hy464]; exact H) | exact H
    have Ny464 := Aside0.mk hy464
    clear hy464
    have H' := Aside0.mk H
    clear H
    have hcz11_0 : w7.cell? ⟨gb462, 0, none⟩ = some (.int .i64 a0_0) := (blk_cell BK462.out 0).trans rfl
    have hcz11_1 : w7.cell? ⟨gb462, 1, none⟩ = some (.slice A0_1 l0_1.length c0_1) := (blk_cell BK462.out 1).trans rfl
    have hfz11_0 := blk_frozen BK462.out 0
    have hfz11_1 := blk_frozen BK462.out 1
    go_wp2_with (first | ((with_reducible refine gate_dst (N := 13) rfl ?_); refine Kd.R_make Kd.bool _ 4 rfl (N := 13) rfl 79 _ _ rfl a0_0 rfl rfl Try.underlying79 (.bool false) 1 info4 rfl (by decide) (by omega) false (ok := fun _ => True) (okp := fun _ => True) rfl (fun _ hk => hk) trivial (of_decide_eq_true zh) (Nat.le_trans (Nat.mul_le_mul_right _ (of_decide_eq_true zh : a0_0.toNat ≤ 281474976710656)) (by omega)) (Below.refl _ _) (Nat.le_refl _) ?_; intro v465 w12 ho13 hb hg_ hnew_; clear hg_ hnew_; (first | rw [← Ny464.out] at ho13 | (simp only [Int.reduceToNat] at ho13; rw [← Ny464.out] at ho13)); have n0_ := Aside0.mk (Kd.R_lower ho13 (below_size zB)); have n1_ := Aside0.mk (blk_below (g := gb462) (o := .cells #[.int .i64 a0_0, .slice A0_1 l0_1.length c0_1] 24 (0, 0)) (zk BK462) hb); have n2_ := Aside0.mk (below_step zB hb); clear BK462; clear HB; have HO466 := n0_; have BK462 := n1_; have HB := n2_; clear n0_ n1_ n2_; clear hb ho13) | ((with_reducible refine gate_dst (N := 5) rfl ?_); refine box_event ?hg (N := 5) ?hd (cs := #[.slice none 0 0]) (t := 79) ?hr ?_; (case hd => rfl); (case hg => rfl); (case hr => first | (go_simp; done) | (go_simp; rfl)); intro gb467 hg w14 hbox hb; have n0_ := Aside0.mk (Kd.R_below (zR HO466) hb); have n1_ := Aside0.mk (blk_below (g := gb462) (o := .cells #[.int .i64 a0_0, .slice A0_1 l0_1.length c0_1] 24 (0, 0)) (zk BK462) hb); have n2_ := Aside0.mk (below_step zB hb); have n3_ := Aside0.mk (hbox); have n4_ := Aside0.mk ((by rw [hg]; exact (below_size zB) : w.heap.size ≤ gb467)); have n5_ := Aside0.mk ((by rw [hg]; exact (below_size zB) : w.heap.size ≤ gb467)); have n6_ := Aside0.mk ((by rw [hg]; exact Nat.ne_of_lt (blk_lt (g := gb462) (o := .cells #[.int .i64 a0_0, .slice A0_1 l0_1.length c0_1] 24 (0, 0)) (zk BK462)) : gb462 ≠ gb467)); have n7_ := Aside0.mk ((by rw [hg]; exact Nat.ne_of_gt (blk_lt (g := gb462) (o := .cells #[.int .i64 a0_0, .slice A0_1 l0_1.length c0_1] 24 (0, 0)) (zk BK462)) : gb467 ≠ gb462)); clear HO466; clear BK462; clear HB; have HO466 := n0_; have BK462 := n1_; have HB := n2_; have BK467 := n3_; have GW467 := n4_; have GE467 := n5_; have NB462_467 := n6_; have NB467_462 := n7_; clear n0_ n1_ n2_ n3_ n4_ n5_ n6_ n7_; clear hb hbox hg; obtain ⟨Ao15, co15, eo15⟩ := Kd.R_slice HO466.out; subst eo15; have hnb16 := NB467_462.out; have hnc16 := NB462_467.out; have hcz17_0 : w14.cell? ⟨gb467, 0, none⟩ = some (.slice none 0 0) := (blk_cell BK467.out 0).trans rfl; have hfz17_0 := blk_frozen BK467.out 0))
    go_loopg [16] k (fun kq v16 w' => ∃ (x16_1 : Int) (x468000_1 : List Bool) (u468000 : Value), v16 = .int .i64 x16_1 ∧ Aside0 (dag_CheckCut.l0 kq l1 l1 (l1.length : Int) x16_1 a0_0 l0_1 x468000_1 = some r) ∧ Aside0 (kq ≤ k) ∧ Aside0 (Kd.R Kd.bool 4 w' w.heap.size (fun _ => True) u468000 x468000_1) ∧ Aside0 (w'.heap[gb462]? = some (.cells #[.int .i64 a0_0, (.slice A0_1 l0_1.length c0_1)] 24 (0, 0))) ∧ Aside0 (w'.heap[gb467]? = some (.cells #[u468000] 79 (0, 0))) ∧ Aside0 (Below w.heap.size w w'))
    case atStart => exact ⟨(0), (y464), (.slice Ao15 y464.length co15), zT, H', ⟨Nat.le_refl _⟩, ⟨by (with_reducible repeat (first | apply Kd.R_alloc | apply Kd.R_drewN | apply Kd.R_drew)); exact Kd.R_mono (Kd.R_far (p := ⟨gb467, 0, none⟩) (Kd.R_types HO466.out BK467.out (by decide)) (fun _ hk => hk.2) (.slice Ao15 y464.length co15)) (fun _ hk => trivial)⟩, ⟨by (with_reducible repeat (first | refine blk_drewN ?_ _ | refine blk_drew ?_ | refine blk_alloc ?_ _)); refine blk_far ?_ NB462_467.out _; (with_reducible repeat (first | refine blk_drewN ?_ _ | refine blk_drew ?_ | refine blk_alloc ?_ _)); exact BK462.out⟩, ⟨by (with_reducible repeat (first | refine blk_drewN ?_ _ | refine blk_drew ?_ | refine blk_alloc ?_ _)); refine blk_put (cs := #[.slice none 0 0]) ?_ 0 _ rfl; (with_reducible repeat (first | refine blk_drewN ?_ _ | refine blk_drew ?_ | refine blk_alloc ?_ _)); exact BK467.out⟩, ⟨by repeat (first | (with_reducible first | exact HB.out | apply below_alloc | apply pw_below_drewN | apply below_drew1 | refine below_set ?_ GE462.out | refine below_set ?_ GE467.out) | exact HB.out)⟩⟩
    case round =>
     clear H'
     try clear c1
     try clear c2
     try clear p2
     try clear c3
     try clear c8
     try clear c8b0
     try clear c8b1
     try clear c9
     try clear c9b0
     try clear c9b1
     try clear c10
     try clear c10b0
     try clear c10b1
     try clear c16
     try clear hcz11_0
     try clear hcz11_1
     try clear hcz17_0
     try clear hcz6_0
     try clear hcz6_1
     try clear hfz11_0
     try clear hfz11_1
     try clear hfz17_0
     try clear hfz6_0
     try clear hfz6_1
     obtain ⟨x16_1, x468000_1, u468000, rfl, HA, HK1, HO_468000, BK462, BK467, HB⟩ := hrel
     cases gk with
     | zero => exact absurd HA.out (by simp [dag_CheckCut.l0])
     | succ k1 =>
      have H := HA.out
      clear HA
      simp only [dag_CheckCut.l0] at H
      by_cases c18 : x16_1 < (l1.length : Int)
      ·rw [if_pos c18] at H
       have c18b0 : decide (x16_1 < (l1.length : Int)) = true := decide_eq_true c18
       clear c18
       by_cases c19 : 0 ≤ x16_1
       ·rw [if_pos c19] at H
        have c19b0 : decide (0 ≤ x16_1) = true := decide_eq_true c19
        clear c19
        by_cases c20 : x16_1 < (l1.length : Int)
        ·rw [if_pos c20] at H
         have c20b0 : decide (x16_1 < (l1.length : Int)) = true := decide_eq_true c20
         clear c20
         by_cases c21 : (rd l1 x16_1) < 0
         ·rw [if_pos c21] at H
          have c21b0 : decide ((rd l1 x16_1) < 0) = true := decide_eq_true c21
          clear c21
          obtain rfl := Option.some.inj H
          have p468 : 0 ≤ (x16_1 : Int) := of_decide_eq_true zh
          have q468 : x16_1 < (l1.length : Int) := of_decide_eq_true zh
          obtain ⟨ad468, e468, hx468_0⟩ := Kd.at_int HR1.out x16_1 p468 q468
          cases e468
          replace hx468_0 := (HB.out.cell (World.block_lt_of_cell? w _ hx468_0)).trans hx468_0
          replace p468 := eq_true p468
          replace q468 := eq_true q468
          go_wp2
          go_ret
          exact ⟨by first | rfl | (simp [errW_none, errW_some] <;> rfl) | (simp [*, errW_none, errW_some] <;> rfl), by repeat (first | (with_reducible first | exact HB.out | apply below_alloc | apply pw_below_drewN | apply below_drew1 | refine below_set ?_ GE462.out | refine below_set ?_ GE467.out) | exact HB.out)⟩
         ·rw [if_neg c21] at H
          have c21b0 : decide ((rd l1 x16_1) < 0) = false := decide_eq_false c21
          clear c21
          by_cases c22 : (rd l1 x16_1) ≥ a0_0
          ·rw [if_pos c22] at H
           have c22b0 : decide (a0_0 ≤ (rd l1 x16_1)) = true := decide_eq_true c22
           clear c22
           obtain rfl := Option.some.inj H
           have p468 : 0 ≤ (x16_1 : Int) := of_decide_eq_true zh
           have q468 : x16_1 < (l1.length : Int) := of_decide_eq_true zh
           obtain ⟨ad468, e468, hx468_0⟩ := Kd.at_int HR1.out x16_1 p468 q468
           cases e468
           replace hx468_0 := (HB.out.cell (World.block_lt_of_cell? w _ hx468_0)).trans hx468_0
           replace p468 := eq_true p468
           replace q468 := eq_true q468
           have hnb23 := NB462_467.out
           have hnc23 := NB467_462.out
           have hcz24_0 : wr.cell? ⟨gb462, 0, none⟩ = some (.int .i64 a0_0) := (blk_cell BK462.out 0).trans rfl
           have hcz24_1 : wr.cell? ⟨gb462, 1, none⟩ = some (.slice A0_1 l0_1.length c0_1) := (blk_cell BK462.out 1).trans rfl
           have hfz24_0 := blk_frozen BK462.out 0
           have hfz24_1 := blk_frozen BK462.out 1
           go_wp2
           go_ret
           exact ⟨by first | rfl | (simp [errW_none, errW_some] <;> rfl) | (simp [*, errW_none, errW_some] <;> rfl), by repeat (first | (with_reducible first | exact HB.out | apply below_alloc | apply pw_below_drewN | apply below_drew1 | refine below_set ?_ GE462.out | refine below_set ?_ GE467.out) | exact HB.out)⟩
          ·rw [if_neg c22] at H
           have c22b0 : decide (a0_0 ≤ (rd l1 x16_1)) = false := decide_eq_false c22
           clear c22
           by_cases c25 : x16_1 > 0
           ·rw [if_pos c25] at H
            have c25b0 : decide (0 < x16_1) = true := decide_eq_true c25
            clear c25
            obtain ⟨ji26, hji26⟩ : ∃ j_ : Int, (wrap64 (x16_1 - 1)) = j_ := ⟨_, rfl⟩
            replace H : (if 0 ≤ (ji26) then (if (ji26) < (l1.length : Int) then (if (rd l1 x16_1) ≤ (rd l1 (ji26)) then (some false) else (if 0 ≤ (rd l1 x16_1) then (if (rd l1 x16_1) < (x468000_1.length : Int) then (dag_CheckCut.l0 k1 l1 l1 (l1.length : Int) (wrap64 (x16_1 + 1)) a0_0 l0_1 (x468000_1.set ((rd l1 x16_1) : Int).toNat true)) else (none)) else (none))) else (none)) else (none)) = some r := by first | (rw [hji26] at H; exact H) | (simp only [hji26] at H ⊢; exact H)
            have hji26w : (IntKind.i64.wrap (x16_1 - 1)) = ji26 := (i64_w _).trans hji26
            by_cases c27 : 0 ≤ (ji26)
            ·rw [if_pos c27] at H
             have c27b0 : decide (0 ≤ (ji26)) = true := decide_eq_true c27
             clear c27
             by_cases c28 : (ji26) < (l1.length : Int)
             ·rw [if_pos c28] at H
              have c28b0 : decide ((ji26) < (l1.length : Int)) = true := decide_eq_true c28
              clear c28
              by_cases c29 : (rd l1 x16_1) ≤ (rd l1 (ji26))
              ·rw [if_pos c29] at H
               have c29b0 : decide ((rd l1 x16_1) ≤ (rd l1 (ji26))) = true := decide_eq_true c29
               clear c29
               obtain rfl := Option.some.inj H
               have p468 : 0 ≤ (x16_1 : Int) := of_decide_eq_true zh
               have q468 : x16_1 < (l1.length : Int) := of_decide_eq_true zh
               obtain ⟨ad468, e468, hx468_0⟩ := Kd.at_int HR1.out x16_1 p468 q468
               cases e468
               replace hx468_0 := (HB.out.cell (World.block_lt_of_cell? w _ hx468_0)).trans hx468_0
               replace p468 := eq_true p468
               replace q468 := eq_true q468
               have hnb30 := NB462_467.out
               have hnc30 := NB467_462.out
               have hcz31_0 : wr.cell? ⟨gb462, 0, none⟩ = some (.int .i64 a0_0) := (blk_cell BK462.out 0).trans rfl
               have hcz31_1 : wr.cell? ⟨gb462, 1, none⟩ = some (.slice A0_1 l0_1.length c0_1) := (blk_cell BK462.out 1).trans rfl
               have hfz31_0 := blk_frozen BK462.out 0
               have hfz31_1 := blk_frozen BK462.out 1
               have p469 : 0 ≤ ((ji26) : Int) := of_decide_eq_true zh
               have q469 : (ji26) < (l1.length : Int) := of_decide_eq_true zh
               obtain ⟨ad469, e469, hx469_0⟩ := Kd.at_int HR1.out (ji26) p469 q469
               obtain rfl : ad468 = ad469 := (by injection e469)
               replace hx469_0 := (HB.out.cell (World.block_lt_of_cell? w _ hx469_0)).trans hx469_0
               replace p469 := eq_true p469
               replace q469 := eq_true q469
               go_wp2
               go_ret
               exact ⟨by first | rfl | (simp [errW_none, errW_some] <;> rfl) | (simp only [← hji26]; first | rfl | (simp [errW_none, errW_some] <;> rfl)) | (simp [*, errW_none, errW_some] <;> rfl), by repeat (first | (with_reducible first | exact HB.out | apply below_alloc | apply pw_below_drewN | apply below_drew1 | refine below_set ?_ GE462.out | refine below_set ?_ GE467.out) | exact HB.out)⟩
              ·rw [if_neg c29] at H
               have c29b0 : decide ((rd l1 x16_1) ≤ (rd l1 (ji26))) = false := decide_eq_false c29
               clear c29
               by_cases c32 : 0 ≤ (rd l1 x16_1)
               ·rw [if_pos c32] at H
                have c32b0 : decide (0 ≤ (rd l1 x16_1)) = true := decide_eq_true c32
                clear c32
                by_cases c33 : (rd l1 x16_1) < (x468000_1.length : Int)
                ·rw [if_pos c33] at H
                 have c33b0 : decide ((rd l1 x16_1) < (x468000_1.length : Int)) = true := decide_eq_true c33
                 clear c33
                 obtain ⟨y470, hy470⟩ : ∃ y_ : List Bool, y_ = (x468000_1.set ((rd l1 x16_1) : Int).toNat true) := ⟨_, rfl⟩
                 replace H : (dag_CheckCut.l0 k1 l1 l1 (l1.length : Int) (wrap64 (x16_1 + 1)) a0_0 l0_1 y470) = some r := by first | (rw [hy470]; with_reducible exact H) | (have H2_ := (Option.bind_some _ _).symm.trans H; rw [hy470]; with_reducible exact H2_) | (have H2_ := (Option.bind_some _ _).symm.trans H; with_reducible exact H2_) | with_reducible exact H | (rw [hy470]; exact H) | exact H
                 have Ny470 := Aside0.mk hy470
                 clear hy470
                 have H' := Aside0.mk H
                 clear H
                 have p468 : 0 ≤ (x16_1 : Int) := of_decide_eq_true zh
                 have q468 : x16_1 < (l1.length : Int) := of_decide_eq_true zh
                 obtain ⟨ad468, e468, hx468_0⟩ := Kd.at_int HR1.out x16_1 p468 q468
                 cases e468
                 replace hx468_0 := (HB.out.cell (World.block_lt_of_cell? w _ hx468_0)).trans hx468_0
                 replace p468 := eq_true p468
                 replace q468 := eq_true q468
                 have hnb35 := NB462_467.out
                 have hnc35 := NB467_462.out
                 have hcz36_0 : wr.cell? ⟨gb462, 0, none⟩ = some (.int .i64 a0_0) := (blk_cell BK462.out 0).trans rfl
                 have hcz36_1 : wr.cell? ⟨gb462, 1, none⟩ = some (.slice A0_1 l0_1.length c0_1) := (blk_cell BK462.out 1).trans rfl
                 have hfz36_0 := blk_frozen BK462.out 0
                 have hfz36_1 := blk_frozen BK462.out 1
                 have p469 : 0 ≤ ((ji26) : Int) := of_decide_eq_true zh
                 have q469 : (ji26) < (l1.length : Int) := of_decide_eq_true zh
                 obtain ⟨ad469, e469, hx469_0⟩ := Kd.at_int HR1.out (ji26) p469 q469
                 obtain rfl : ad468 = ad469 := (by injection e469)
                 replace hx469_0 := (HB.out.cell (World.block_lt_of_cell? w _ hx469_0)).trans hx469_0
                 replace p469 := eq_true p469
                 replace q469 := eq_true q469
                 have hcz37_0 : wr.cell? ⟨gb467, 0, none⟩ = some (u468000) := (blk_cell BK467.out 0).trans rfl
                 have hfz37_0 := blk_frozen BK467.out 0
                 have p34 : 0 ≤ ((rd l1 x16_1) : Int) := of_decide_eq_true zh
                 have q34 : ((rd l1 x16_1) : Int) < ((x468000_1.length : Int) : Int) := of_decide_eq_true zh
                 obtain ⟨go34, co34, eo34, gb34, gl34, cl34, HG34⟩ := Kd.R_form HO_468000.out (by omega)
                 (first | cases eo34 | (injection eo34 with ea_ en_ ec_; (first | subst ea_ | (injection ea_ with ea_; subst ea_)); subst ec_; clear en_))
                 have GB34 := Aside0.mk gb34
                 have GG34 := Aside0.mk HG34
                 clear gb34 gl34 HG34
                 obtain ⟨hx34_0, hf34_0⟩ := Kd.R_celln false HO_468000.out ((rd l1 x16_1) : Int) p34 q34
                 replace p34 := eq_true p34
                 replace q34 := eq_true q34
                 have HP38 := Kd.R_putg HO_468000.out ((rd l1 x16_1) : Int) true
                 go_wp2_with (first | ((with_reducible refine gate_store (t := 4) (p := 44) rfl ?_); refine store_event (t := 4) (p := 44) (v := ?vo_w39) (w1 := (wr.setCell ⟨go34, ((rd l1 x16_1) : Int).toNat, none⟩ (.bool true))) ?hg ?ho ?hn ?hr ?_; (case ho => rfl); (case hg => rfl); (case hn => rfl); (case hr => first | (go_simp; done) | (go_simp; rfl)); intro w39 hw; have hg : wr.grownBy w39 (some go34) := (by rw [hw]; exact HP38.2); have hp_ : Kd.R Kd.bool 4 w39 w.heap.size (fun _ => True) (.slice (some ⟨go34, 0, none⟩) x468000_1.length co34) y470 := (by rw [hw, Ny470.out]; exact HP38.1); clear HP38; have n0_ := Aside0.mk (hp_); have n1_ := Aside0.mk (blk_grown (g := gb462) (o := .cells #[.int .i64 a0_0, .slice A0_1 l0_1.length c0_1] 24 (0, 0)) (zk BK462) hg (Kd.R_ne HO_468000.out BK462.out (by decide))); have n2_ := Aside0.mk (blk_grown (g := gb467) (o := .cells #[.slice (some ⟨go34, 0, none⟩) x468000_1.length co34] 79 (0, 0)) (zk BK467) hg (Kd.R_ne HO_468000.out BK467.out (by decide))); have n3_ := Aside0.mk ((by rw [hw]; exact below_set (HB.out) GB34.out : Below w.heap.size w w39)); clear HO_468000; clear BK462; clear BK467; clear HB; have HO_468000 := n0_; have BK462 := n1_; have BK467 := n2_; have HB := n3_; clear n0_ n1_ n2_ n3_; clear hg hw hp_))
                 go_roundg k1
                 case measure => have := HK1.out; omega
                 case rel => exact ⟨(wrap64 (x16_1 + 1)), (y470), (.slice (some ⟨go34, 0, none⟩) x468000_1.length co34), zT, H', ⟨by have := HK1.out; omega⟩, ⟨by (with_reducible repeat (first | apply Kd.R_alloc | apply Kd.R_drewN | apply Kd.R_drew)); exact HO_468000.out⟩, ⟨by (with_reducible repeat (first | refine blk_drewN ?_ _ | refine blk_drew ?_ | refine blk_alloc ?_ _)); exact BK462.out⟩, ⟨by (with_reducible repeat (first | refine blk_drewN ?_ _ | refine blk_drew ?_ | refine blk_alloc ?_ _)); exact BK467.out⟩, ⟨by repeat (first | (with_reducible first | exact HB.out | apply below_alloc | apply pw_below_drewN | apply below_drew1 | refine below_set ?_ GE462.out | refine below_set ?_ GE467.out) | exact HB.out)⟩⟩
                ·rw [if_neg c33] at H
                 exact absurd H (by simp)
               ·rw [if_neg c32] at H
                exact absurd H (by simp)
             ·rw [if_neg c28] at H
              exact absurd H (by simp)
            ·rw [if_neg c27] at H
             exact absurd H (by simp)
           ·rw [if_neg c25] at H
            have c25b0 : decide (0 < x16_1) = false := decide_eq_false c25
            clear c25
            by_cases c40 : 0 ≤ (rd l1 x16_1)
            ·rw [if_pos c40] at H
             have c40b0 : decide (0 ≤ (rd l1 x16_1)) = true := decide_eq_true c40
             clear c40
             by_cases c41 : (rd l1 x16_1) < (x468000_1.length : Int)
             ·rw [if_pos c41] at H
              have c41b0 : decide ((rd l1 x16_1) < (x468000_1.length : Int)) = true := decide_eq_true c41
              clear c41
              obtain ⟨y471, hy471⟩ : ∃ y_ : List Bool, y_ = (x468000_1.set ((rd l1 x16_1) : Int).toNat true) := ⟨_, rfl⟩
              replace H : (dag_CheckCut.l0 k1 l1 l1 (l1.length : Int) (wrap64 (x16_1 + 1)) a0_0 l0_1 y471) = some r := by first | (rw [hy471]; with_reducible exact H) | (have H2_ := (Option.bind_some _ _).symm.trans H; rw [hy471]; with_reducible exact H2_) | (have H2_ := (Option.bind_some _ _).symm.trans H; with_reducible exact H2_) | with_reducible exact H | (rw [hy471]; exact H) | exact H
              have Ny471 := Aside0.mk hy471
              clear hy471
              have H' := Aside0.mk H
              clear H
              have p468 : 0 ≤ (x16_1 : Int) := of_decide_eq_true zh
              have q468 : x16_1 < (l1.length : Int) := of_decide_eq_true zh
              obtain ⟨ad468, e468, hx468_0⟩ := Kd.at_int HR1.out x16_1 p468 q468
              cases e468
              replace hx468_0 := (HB.out.cell (World.block_lt_of_cell? w _ hx468_0)).trans hx468_0
              replace p468 := eq_true p468
              replace q468 := eq_true q468
              have hnb43 := NB462_467.out
              have hnc43 := NB467_462.out
              have hcz44_0 : wr.cell? ⟨gb462, 0, none⟩ = some (.int .i64 a0_0) := (blk_cell BK462.out 0).trans rfl
              have hcz44_1 : wr.cell? ⟨gb462, 1, none⟩ = some (.slice A0_1 l0_1.length c0_1) := (blk_cell BK462.out 1).trans rfl
              have hfz44_0 := blk_frozen BK462.out 0
              have hfz44_1 := blk_frozen BK462.out 1
              have hcz45_0 : wr.cell? ⟨gb467, 0, none⟩ = some (u468000) := (blk_cell BK467.out 0).trans rfl
              have hfz45_0 := blk_frozen BK467.out 0
              have p42 : 0 ≤ ((rd l1 x16_1) : Int) := of_decide_eq_true zh
              have q42 : ((rd l1 x16_1) : Int) < ((x468000_1.length : Int) : Int) := of_decide_eq_true zh
              obtain ⟨go42, co42, eo42, gb42, gl42, cl42, HG42⟩ := Kd.R_form HO_468000.out (by omega)
              (first | cases eo42 | (injection eo42 with ea_ en_ ec_; (first | subst ea_ | (injection ea_ with ea_; subst ea_)); subst ec_; clear en_))
              have GB42 := Aside0.mk gb42
              have GG42 := Aside0.mk HG42
              clear gb42 gl42 HG42
              obtain ⟨hx42_0, hf42_0⟩ := Kd.R_celln false HO_468000.out ((rd l1 x16_1) : Int) p42 q42
              replace p42 := eq_true p42
              replace q42 := eq_true q42
              have HP46 := Kd.R_putg HO_468000.out ((rd l1 x16_1) : Int) true
              go_wp2_with (first | ((with_reducible refine gate_store (t := 4) (p := 44) rfl ?_); refine store_event (t := 4) (p := 44) (v := ?vo_w47) (w1 := (wr.setCell ⟨go42, ((rd l1 x16_1) : Int).toNat, none⟩ (.bool true))) ?hg ?ho ?hn ?hr ?_; (case ho => rfl); (case hg => rfl); (case hn => rfl); (case hr => first | (go_simp; done) | (go_simp; rfl)); intro w47 hw; have hg : wr.grownBy w47 (some go42) := (by rw [hw]; exact HP46.2); have hp_ : Kd.R Kd.bool 4 w47 w.heap.size (fun _ => True) (.slice (some ⟨go42, 0, none⟩) x468000_1.length co42) y471 := (by rw [hw, Ny471.out]; exact HP46.1); clear HP46; have n0_ := Aside0.mk (hp_); have n1_ := Aside0.mk (blk_grown (g := gb462) (o := .cells #[.int .i64 a0_0, .slice A0_1 l0_1.length c0_1] 24 (0, 0)) (zk BK462) hg (Kd.R_ne HO_468000.out BK462.out (by decide))); have n2_ := Aside0.mk (blk_grown (g := gb467) (o := .cells #[.slice (some ⟨go42, 0, none⟩) x468000_1.length co42] 79 (0, 0)) (zk BK467) hg (Kd.R_ne HO_468000.out BK467.out (by decide))); have n3_ := Aside0.mk ((by rw [hw]; exact below_set (HB.out) GB42.out : Below w.heap.size w w47)); clear HO_468000; clear BK462; clear BK467; clear HB; have HO_468000 := n0_; have BK462 := n1_; have BK467 := n2_; have HB := n3_; clear n0_ n1_ n2_ n3_; clear hg hw hp_))
              go_roundg k1
              case measure => have := HK1.out; omega
              case rel => exact ⟨(wrap64 (x16_1 + 1)), (y471), (.slice (some ⟨go42, 0, none⟩) x468000_1.length co42), zT, H', ⟨by have := HK1.out; omega⟩, ⟨by (with_reducible repeat (first | apply Kd.R_alloc | apply Kd.R_drewN | apply Kd.R_drew)); exact HO_468000.out⟩, ⟨by (with_reducible repeat (first | refine blk_drewN ?_ _ | refine blk_drew ?_ | refine blk_alloc ?_ _)); exact BK462.out⟩, ⟨by (with_reducible repeat (first | refine blk_drewN ?_ _ | refine blk_drew ?_ | refine blk_alloc ?_ _)); exact BK467.out⟩, ⟨by repeat (first | (with_reducible first | exact HB.out | apply below_alloc | apply pw_below_drewN | apply below_drew1 | refine below_set ?_ GE462.out | refine below_set ?_ GE467.out) | exact HB.out)⟩⟩
             ·rw [if_neg c41] at H
              exact absurd H (by simp)
            ·rw [if_neg c40] at H
             exact absurd H (by simp)
        ·rw [if_neg c20] at H
         exact absurd H (by simp)
       ·rw [if_neg c19] at H
        exact absurd H (by simp)
      ·rw [if_neg c18] at H
       have c18b0 : decide (x16_1 < (l1.length : Int)) = false := decide_eq_false c18
       clear c18
       by_cases c48 : 0 < (x468000_1.length : Int)
       ·rw [if_pos c48] at H
        have c48b0 : decide (0 < (x468000_1.length : Int)) = true := decide_eq_true c48
        have c48b1 : decide (0 < x468000_1.length) = true := decide_eq_true (by omega)
        clear c48
        obtain ⟨bq49, hbq49⟩ : ∃ b_ : Bool, b_ = (rdOf false x468000_1 0) := ⟨_, rfl⟩
        replace H : (if bq49 = true then (if 0 ≤ (wrap64 (a0_0 - 1)) then (if (wrap64 (a0_0 - 1)) < (x468000_1.length : Int) then (if (rdOf false x468000_1 (wrap64 (a0_0 - 1)) = true) then (some false) else ((api_Arc_dag_CheckCut_1.f k1 l0_1 x468000_1).bind fun t474 => (some (!t474)))) else (none)) else (none)) else (some false)) = some r := by rw [← hbq49] at H; exact H
        have Nbq49 := Aside0.mk hbq49
        clear hbq49
        by_cases c50 : bq49 = true
        ·subst c50
         have H1 : (if 0 ≤ (wrap64 (a0_0 - 1)) then (if (wrap64 (a0_0 - 1)) < (x468000_1.length : Int) then (if (rdOf false x468000_1 (wrap64 (a0_0 - 1)) = true) then (some false) else ((api_Arc_dag_CheckCut_1.f k1 l0_1 x468000_1).bind fun t474 => (some (!t474)))) else (none)) else (none)) = some r := by rw [if_pos rfl] at H; exact H
         clear H
         have H := H1
         clear H1
         obtain ⟨ji51, hji51⟩ : ∃ j_ : Int, (wrap64 (a0_0 - 1)) = j_ := ⟨_, rfl⟩
         replace H : (if 0 ≤ (ji51) then (if (ji51) < (x468000_1.length : Int) then (if (rdOf false x468000_1 (ji51) = true) then (some false) else ((api_Arc_dag_CheckCut_1.f k1 l0_1 x468000_1).bind fun t474 => (some (!t474)))) else (none)) else (none)) = some r := by first | (rw [hji51] at H; exact H) | (simp only [hji51] at H ⊢; exact H)
         have hji51w : (IntKind.i64.wrap (a0_0 - 1)) = ji51 := (i64_w _).trans hji51
         by_cases c52 : 0 ≤ (ji51)
         ·rw [if_pos c52] at H
          have c52b0 : decide (0 ≤ (ji51)) = true := decide_eq_true c52
          clear c52
          by_cases c53 : (ji51) < (x468000_1.length : Int)
          ·rw [if_pos c53] at H
           have c53b0 : decide ((ji51) < (x468000_1.length : Int)) = true := decide_eq_true c53
           clear c53
           obtain ⟨bq54, hbq54⟩ : ∃ b_ : Bool, b_ = (rdOf false x468000_1 (ji51)) := ⟨_, rfl⟩
           replace H : (if (bq54 = true) then (some false) else ((api_Arc_dag_CheckCut_1.f k1 l0_1 x468000_1).bind fun t474 => (some (!t474)))) = some r := by rw [← hbq54] at H; exact H
           have Nbq54 := Aside0.mk hbq54
           clear hbq54
           by_cases c55 : (bq54 = true)
           ·subst c55
            have H1 : (some false) = some r := by rw [if_pos rfl] at H; exact H
            clear H
            have H := H1
            clear H1
            obtain rfl := Option.some.inj H
            have hnb56 := NB467_462.out
            have hnc56 := NB462_467.out
            have hcz57_0 : wr.cell? ⟨gb467, 0, none⟩ = some (u468000) := (blk_cell BK467.out 0).trans rfl
            have hfz57_0 := blk_frozen BK467.out 0
            obtain ⟨Ao58, co58, eo58⟩ := Kd.R_slice HO_468000.out
            subst eo58
            have p472 : 0 ≤ (0 : Int) := (by omega)
            have q472 : 0 < (x468000_1.length : Int) := of_decide_eq_true zh
            obtain ⟨ad472, e472, hx472_0⟩ := Kd.at_bool (Kd.R_reads' HO_468000.out).2.2 0 p472 q472
            (try rw [← Nbq49.out] at hx472_0)
            (try rw [← Nbq54.out] at hx472_0)
            cases e472
            have qi472 : (0 < x468000_1.length) = True := eq_true (by omega)
            (try rw [show ((0 : Int)).toNat = 0 from rfl] at hx472_0)
            (try rw [Addr.add_zero'] at hx472_0)
            replace p472 := eq_true p472
            replace q472 := eq_true q472
            have hcz59_0 : wr.cell? ⟨gb462, 0, none⟩ = some (.int .i64 a0_0) := (blk_cell BK462.out 0).trans rfl
            have hcz59_1 : wr.cell? ⟨gb462, 1, none⟩ = some (.slice A0_1 l0_1.length c0_1) := (blk_cell BK462.out 1).trans rfl
            have hfz59_0 := blk_frozen BK462.out 0
            have hfz59_1 := blk_frozen BK462.out 1
            have p473 : 0 ≤ ((ji51) : Int) := of_decide_eq_true zh
            have q473 : (ji51) < (x468000_1.length : Int) := of_decide_eq_true zh
            obtain ⟨ad473, e473, hx473_0⟩ := Kd.at_bool (Kd.R_reads' HO_468000.out).2.2 (ji51) p473 q473
            (try rw [← Nbq49.out] at hx473_0)
            (try rw [← Nbq54.out] at hx473_0)
            obtain rfl : ad472 = ad473 := (by injection e473)
            replace p473 := eq_true p473
            replace q473 := eq_true q473
            go_wp2
            go_ret
            exact ⟨by first | rfl | (simp [errW_none, errW_some] <;> rfl) | (simp only [← hji51]; first | rfl | (simp [errW_none, errW_some] <;> rfl)) | (simp [*, errW_none, errW_some] <;> rfl), by repeat (first | (with_reducible first | exact HB.out | apply below_alloc | apply pw_below_drewN | apply below_drew1 | refine below_set ?_ GE462.out | refine below_set ?_ GE467.out) | exact HB.out)⟩
           ·replace c55 := Bool.eq_false_iff.mpr c55
            subst c55
            have H1 : ((api_Arc_dag_CheckCut_1.f k1 l0_1 x468000_1).bind fun t474 => (some (!t474))) = some r := by rw [if_neg (show ¬ (false = true) by decide)] at H; exact H
            clear H
            have H := H1
            clear H1
            replace H := Option.bind_eq_some_iff.mp H
            obtain ⟨t474, A600, H⟩ := H
            replace H : (some (!t474)) = some r := H
            have A60 := Aside0.mk A600
            clear A600
            obtain rfl := Option.some.inj H
            have hnb61 := NB467_462.out
            have hnc61 := NB462_467.out
            have hcz62_0 : wr.cell? ⟨gb467, 0, none⟩ = some (u468000) := (blk_cell BK467.out 0).trans rfl
            have hfz62_0 := blk_frozen BK467.out 0
            obtain ⟨Ao63, co63, eo63⟩ := Kd.R_slice HO_468000.out
            subst eo63
            have p472 : 0 ≤ (0 : Int) := (by omega)
            have q472 : 0 < (x468000_1.length : Int) := of_decide_eq_true zh
            obtain ⟨ad472, e472, hx472_0⟩ := Kd.at_bool (Kd.R_reads' HO_468000.out).2.2 0 p472 q472
            (try rw [← Nbq49.out] at hx472_0)
            (try rw [← Nbq54.out] at hx472_0)
            cases e472
            have qi472 : (0 < x468000_1.length) = True := eq_true (by omega)
            (try rw [show ((0 : Int)).toNat = 0 from rfl] at hx472_0)
            (try rw [Addr.add_zero'] at hx472_0)
            replace p472 := eq_true p472
            replace q472 := eq_true q472
            have hcz64_0 : wr.cell? ⟨gb462, 0, none⟩ = some (.int .i64 a0_0) := (blk_cell BK462.out 0).trans rfl
            have hcz64_1 : wr.cell? ⟨gb462, 1, none⟩ = some (.slice A0_1 l0_1.length c0_1) := (blk_cell BK462.out 1).trans rfl
            have hfz64_0 := blk_frozen BK462.out 0
            have hfz64_1 := blk_frozen BK462.out 1
            have p473 : 0 ≤ ((ji51) : Int) := of_decide_eq_true zh
            have q473 : (ji51) < (x468000_1.length : Int) := of_decide_eq_true zh
            obtain ⟨ad473, e473, hx473_0⟩ := Kd.at_bool (Kd.R_reads' HO_468000.out).2.2 (ji51) p473 q473
            (try rw [← Nbq49.out] at hx473_0)
            (try rw [← Nbq54.out] at hx473_0)
            obtain rfl : ad472 = ad473 := (by injection e473)
            replace p473 := eq_true p473
            replace q473 := eq_true q473
            go_wp2_with (first | (go_at_call 67; (with_reducible refine (api_Arc_dag_CheckCut_1.calls k1 _ _ l0_1 gb467 (some ad472) co63 x468000_1 t474 _ ?side1 ?side2 ?side3 ?side4 ?side5 A60.out).mono ?_); (case side1 => repeat (first | exact (Kd.C_below HR0_1.out HB.out) | (with_reducible refine Kd.C_alloc ?_ _) | (with_reducible refine Kd.C_drewN ?_ _) | (with_reducible refine Kd.C_drew ?_))); (case side2 => exact HC0_1.out); (case side3 => repeat (first | exact (Kd.R_reads' HO_468000.out).2.2 | (with_reducible refine Kd.C_alloc ?_ _) | (with_reducible refine Kd.C_drewN ?_ _) | (with_reducible refine Kd.C_drew ?_))); (case side4 => exact (Kd.R_reads' HO_468000.out).2.1); (case side5 => (with_reducible repeat (first | refine blk_drewN ?_ _ | refine blk_drew ?_ | refine blk_alloc ?_ _)); exact BK467.out); rintro e w65 ⟨rfl, hb⟩; have n0_ := Aside0.mk (Kd.R_below (zR HO_468000) hb); have n1_ := Aside0.mk (blk_below (g := gb462) (o := .cells #[.int .i64 a0_0, .slice A0_1 l0_1.length c0_1] 24 (0, 0)) (zk BK462) hb); have n2_ := Aside0.mk (blk_below (g := gb467) (o := .cells #[.slice (some ad472) x468000_1.length co63] 79 (0, 0)) (zk BK467) hb); have n3_ := Aside0.mk (below_step zB hb); clear HO_468000; clear BK462; clear BK467; clear HB; have HO_468000 := n0_; have BK462 := n1_; have BK467 := n2_; have HB := n3_; clear n0_ n1_ n2_ n3_; (try clear hb); (try clear hb2); (try clear hk); (try clear hi)))
            go_ret
            exact ⟨by first | rfl | (simp [errW_none, errW_some] <;> rfl) | (simp only [← hji51]; first | rfl | (simp [errW_none, errW_some] <;> rfl)) | (simp [*, errW_none, errW_some] <;> rfl), by repeat (first | (with_reducible first | exact HB.out | apply below_alloc | apply pw_below_drewN | apply below_drew1 | refine below_set ?_ GE462.out | refine below_set ?_ GE467.out) | exact HB.out)⟩
          ·rw [if_neg c53] at H
           exact absurd H (by simp)
         ·rw [if_neg c52] at H
          exact absurd H (by simp)
        ·replace c50 := Bool.eq_false_iff.mpr c50
         subst c50
         have H1 : (some false) = some r := by rw [if_neg (show ¬ (false = true) by decide)] at H; exact H
         clear H
         have H := H1
         clear H1
         obtain rfl := Option.some.inj H
         have hnb66 := NB467_462.out
         have hnc66 := NB462_467.out
         have hcz67_0 : wr.cell? ⟨gb467, 0, none⟩ = some (u468000) := (blk_cell BK467.out 0).trans rfl
         have hfz67_0 := blk_frozen BK467.out 0
         obtain ⟨Ao68, co68, eo68⟩ := Kd.R_slice HO_468000.out
         subst eo68
         have p472 : 0 ≤ (0 : Int) := (by omega)
         have q472 : 0 < (x468000_1.length : Int) := of_decide_eq_true zh
         obtain ⟨ad472, e472, hx472_0⟩ := Kd.at_bool (Kd.R_reads' HO_468000.out).2.2 0 p472 q472
         (try rw [← Nbq49.out] at hx472_0)
         cases e472
         have qi472 : (0 < x468000_1.length) = True := eq_true (by omega)
         (try rw [show ((0 : Int)).toNat = 0 from rfl] at hx472_0)
         (try rw [Addr.add_zero'] at hx472_0)
         replace p472 := eq_true p472
         replace q472 := eq_true q472
         go_wp2
         go_ret
         exact ⟨by first | rfl | (simp [errW_none, errW_some] <;> rfl) | (simp [*, errW_none, errW_some] <;> rfl), by repeat (first | (with_reducible first | exact HB.out | apply below_alloc | apply pw_below_drewN | apply below_drew1 | refine below_set ?_ GE462.out | refine below_set ?_ GE467.out) | exact HB.out)⟩
       ·rw [if_neg c48] at H
        exact absurd H (by simp)
   ·rw [if_neg c10] at H
    exact absurd H (by simp)
  ·rw [if_neg c9] at H
   exact absurd H (by simp)
 ·rw [if_neg c8] at H
  have c8b0 : (t463 == 0) = false := beq_eq_false_iff_ne.mpr c8
  have c8b1 : (t463 != 0) = true := bne_iff_ne.mpr c8
  (first | rw [c8b0] | (simp only [i64_w, i32_w]; rw [c8b0]) | skip)
  (try rw [c8b1])
  obtain rfl := Option.some.inj H
  go_wp2
  go_ret
  exact ⟨by first | rfl | (simp [errW_none, errW_some] <;> rfl) | (simp [*, errW_none, errW_some] <;> rfl), by repeat (first | (with_reducible first | exact HB.out | apply below_alloc | apply pw_below_drewN | apply below_drew1 | refine below_set ?_ GE462.out) | exact HB.out)⟩
end Go.Proofs.Ytanbffoilianhaa.E
