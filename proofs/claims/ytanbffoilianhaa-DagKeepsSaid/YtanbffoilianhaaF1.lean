-- Written by wip/tools/myprint.py, a program of this session's.
import Derived.Test.YtanbffoilianhaaF0
namespace Go.Proofs.Ytanbffoilianhaa.F
open Go.RowKit Go.Proofs.YtanbffoilianhaaW.PrintWords Go.Proofs.YtanbffoilianhaaW.PrintLast Go.Proofs.YtanbffoilianhaaW.PrintMore
attribute [local go_sem] max2_int min2_int max_two min_two max_three min_three max_four min_four   -- for this text's walks alone
set_option linter.unusedVariables false
set_option linter.unusedSimpArgs false
/-! ### dag_Valid_1_v1: function 1000064 -/
def dag_Valid_1_v1.f (a0 : Int) (a1_0 : Int) (l1_1 : List (S69)) : Option (Bool) := if a0 ≥ 0 then (some (decide (a0 < a1_0))) else (some false)
set_option maxHeartbeats 8000000 in
set_option maxRecDepth 100000 in
theorem dag_Valid_1_v1.calls (a0 : Int) (gp1_0 : Nat) (a1_0 : Int) (A1_1 : Option Addr) (c1_1 : Nat) (l1_1 : List (S69)) (r : Bool) (w : World) (hr1_1 : Kd.C k69 w A1_1 l1_1.length l1_1) (hc1_1 : l1_1.length ≤ c1_1) (hb_gp1_0 : w.heap[gp1_0]? = some (.cells #[.int .i64 a1_0, .slice A1_1 l1_1.length c1_1] 24 (0, 0))) (h : dag_Valid_1_v1.f a0 a1_0 l1_1 = some r) :
  Calls Try.prog 64 #[.int .i64 a0, .pointer (some ⟨gp1_0, 0, none⟩)] w fun e w' => e = .returned (.bool r) ∧ Drawn0 w w' := by
 have hu3 := Try.underlying3
 have HR1_1 := Aside0.mk hr1_1
 have HC1_1 := Aside0.mk hc1_1
 clear hr1_1 hc1_1
 have BK101 := Aside0.mk hb_gp1_0
 clear hb_gp1_0
 have H : (if a0 ≥ 0 then (some (decide (a0 < a1_0))) else (some false)) = some r := h
 clear h
 by_cases c3 : a0 ≥ 0
 ·rw [if_pos c3] at H
  have c3b0 : decide (0 ≤ a0) = true := decide_eq_true c3
  clear c3
  obtain rfl := Option.some.inj H
  have hcz4_0 : w.cell? ⟨gp1_0, 0, none⟩ = some (.int .i64 a1_0) := (blk_cell BK101.out 0).trans rfl
  have hcz4_1 : w.cell? ⟨gp1_0, 1, none⟩ = some (.slice A1_1 l1_1.length c1_1) := (blk_cell BK101.out 1).trans rfl
  have hfz4_0 := blk_frozen BK101.out 0
  have hfz4_1 := blk_frozen BK101.out 1
  go_enter Try.func64, Try.ntmps64
  go_wp2
  go_ret
  exact ⟨by first | rfl | (simp; done) | (simp [*]; done), by repeat (first | exact Drawn0.refl _ | apply Drawn0.step)⟩
 ·rw [if_neg c3] at H
  have c3b0 : decide (0 ≤ a0) = false := decide_eq_false c3
  clear c3
  obtain rfl := Option.some.inj H
  go_enter Try.func64, Try.ntmps64
  go_wp2
  go_ret
  exact ⟨by first | rfl | (simp; done) | (simp [*]; done), by repeat (first | exact Drawn0.refl _ | apply Drawn0.step)⟩
/-! ### dag_Valid: function 27 -/
mutual
def dag_Valid.l0 : Nat → List (S69) → Int → Int → Int → List (S69) → Option (Int)
 | 0, _, _, _, _, _ => none
 | k + 1, x22, x23, x24, x103000, x103001 => if x24 < x23 then (if 0 ≤ x24 then (if x24 < (x22.length : Int) then ((dag_Valid_1_v1.f ((rd_T69 x22 x24).f0) x103000 x103001).bind fun t105 => (if t105 = true then ((dag_Valid_1_v1.f ((rd_T69 x22 x24).f1) x103000 x103001).bind fun t106 => (if t106 = true then (if ((rd_T69 x22 x24).f2) < 0 then (dag_Valid.j1 k x22 x23 x24 true x103000 x103001 ((rd_T69 x22 x24).f0) ((rd_T69 x22 x24).f1) ((rd_T69 x22 x24).f2)) else (dag_Valid.j1 k x22 x23 x24 (decide (((rd_T69 x22 x24).f2) > 1000000)) x103000 x103001 ((rd_T69 x22 x24).f0) ((rd_T69 x22 x24).f1) ((rd_T69 x22 x24).f2))) else (dag_Valid.j1 k x22 x23 x24 true x103000 x103001 ((rd_T69 x22 x24).f0) ((rd_T69 x22 x24).f1) ((rd_T69 x22 x24).f2)))) else (dag_Valid.j1 k x22 x23 x24 true x103000 x103001 ((rd_T69 x22 x24).f0) ((rd_T69 x22 x24).f1) ((rd_T69 x22 x24).f2)))) else (none)) else (none)) else (some 0)
def dag_Valid.j1 : Nat → List (S69) → Int → Int → Bool → Int → List (S69) → Int → Int → Int → Option (Int)
 | 0, _, _, _, _, _, _, _, _, _ => none
 | k + 1, x22, x23, x24, x49, x103000, x103001, x105000, x105001, x105002 => if x49 = true then (some 6) else (if x105001 ≤ x105000 then (some 18) else (dag_Valid.l0 k x22 x23 (wrap64 (x24 + 1)) x103000 x103001))
end
def dag_Valid.f (k : Nat) (a0_0 : Int) (l0_1 : List (S69)) : Option (Int) := if a0_0 < 1 then (some 7) else (if a0_0 > 2000 then (some 3) else (if (l0_1.length : Int) > 6000 then (some 3) else (dag_Valid.l0 k l0_1 (l0_1.length : Int) 0 a0_0 l0_1)))
theorem dag_Valid.mono_l : ∀ k, (∀ y0 y1 y2 y3 y4, LeO (dag_Valid.l0 k y0 y1 y2 y3 y4) (dag_Valid.l0 (k + 1) y0 y1 y2 y3 y4)) ∧ (∀ y0 y1 y2 y3 y4 y5 y6 y7 y8, LeO (dag_Valid.j1 k y0 y1 y2 y3 y4 y5 y6 y7 y8) (dag_Valid.j1 (k + 1) y0 y1 y2 y3 y4 y5 y6 y7 y8))
 | 0 => ⟨fun _ _ _ _ _ r h => by simp [dag_Valid.l0] at h, fun _ _ _ _ _ _ _ _ _ r h => by simp [dag_Valid.j1] at h⟩
 | k + 1 => by
  obtain ⟨ih0, ih1⟩ := dag_Valid.mono_l k
  refine ⟨?_, ?_⟩
  ·intro y0 y1 y2 y3 y4
   unfold dag_Valid.l0
   repeat' first
   | (with_reducible exact ih0 _ _ _ _ _)
   | (with_reducible exact ih1 _ _ _ _ _ _ _ _ _)
   | (with_reducible exact LeO.refl _)
   | (with_reducible exact LeO.none _)
   | (with_reducible refine LeO.ite ?_ ?_)
   | (with_reducible refine LeO.bind ?_ (fun _ => ?_))
   | exact ih0 _ _ _ _ _
   | exact ih1 _ _ _ _ _ _ _ _ _
   | exact LeO.none _
   | refine LeO.ite ?_ ?_
   | refine LeO.bind ?_ (fun _ => ?_)
  ·intro y0 y1 y2 y3 y4 y5 y6 y7 y8
   unfold dag_Valid.j1
   repeat' first
   | (with_reducible exact ih0 _ _ _ _ _)
   | (with_reducible exact ih1 _ _ _ _ _ _ _ _ _)
   | (with_reducible exact LeO.refl _)
   | (with_reducible exact LeO.none _)
   | (with_reducible refine LeO.ite ?_ ?_)
   | (with_reducible refine LeO.bind ?_ (fun _ => ?_))
   | exact ih0 _ _ _ _ _
   | exact ih1 _ _ _ _ _ _ _ _ _
   | exact LeO.none _
   | refine LeO.ite ?_ ?_
   | refine LeO.bind ?_ (fun _ => ?_)
theorem dag_Valid.mono : ∀ a0 a1 k, LeO (dag_Valid.f k a0 a1) (dag_Valid.f (k + 1) a0 a1) := by
 intro a0 a1 k
 obtain ⟨ih0, ih1⟩ := dag_Valid.mono_l k
 unfold dag_Valid.f
 repeat' first
   | (with_reducible exact ih0 _ _ _ _ _)
   | (with_reducible exact ih1 _ _ _ _ _ _ _ _ _)
   | (with_reducible exact LeO.refl _)
   | (with_reducible exact LeO.none _)
   | (with_reducible refine LeO.ite ?_ ?_)
   | (with_reducible refine LeO.bind ?_ (fun _ => ?_))
   | exact ih0 _ _ _ _ _
   | exact ih1 _ _ _ _ _ _ _ _ _
   | exact LeO.none _
   | refine LeO.ite ?_ ?_
   | refine LeO.bind ?_ (fun _ => ?_)
set_option maxHeartbeats 8000000 in
set_option maxRecDepth 100000 in
theorem dag_Valid.calls (k : Nat) (a0_0 : Int) (A0_1 : Option Addr) (c0_1 : Nat) (l0_1 : List (S69)) (r : Int) (w : World) (hr0_1 : Kd.C k69 w A0_1 l0_1.length l0_1) (hc0_1 : l0_1.length ≤ c0_1) (h : dag_Valid.f k a0_0 l0_1 = some r) :
  Calls Try.prog 27 #[.agg #[.int .i64 a0_0, .slice A0_1 l0_1.length c0_1]] w fun e w' => e = .returned (.int .i64 r) ∧ Below w.heap.size w w' := by
 have hu24 := Try.underlying24
 have hu3 := Try.underlying3
 have hu22 := Try.underlying22
 have hu69 := Try.underlying69
 have HR0_1 := Aside0.mk hr0_1
 have HC0_1 := Aside0.mk hc0_1
 clear hr0_1 hc0_1
 have HB := Aside0.mk (Below.refl w.heap.size w)
 have H : (if a0_0 < 1 then (some 7) else (if a0_0 > 2000 then (some 3) else (if (l0_1.length : Int) > 6000 then (some 3) else (dag_Valid.l0 k l0_1 (l0_1.length : Int) 0 a0_0 l0_1)))) = some r := h
 clear h
 have HC2 := Aside0.mk H
 clear H
 go_enter Try.func27, Try.ntmps27
 go_upto_if 6 with (first | ((with_reducible refine gate_dst (N := 1) rfl ?_); (try (refine gate_guard (by rfl) ?_; dsimp only)); refine box_event ?hg (N := 1) ?hd (cs := #[.int .i64 a0_0, .slice A0_1 l0_1.length c0_1]) (t := 24) ?hr ?_; (case hd => rfl); (case hg => rfl); (case hr => first | (go_simp; done) | (go_simp; rfl)); intro gb102 hg w3 hbox hb; have n0_ := Aside0.mk (below_step zB hb); have n1_ := Aside0.mk (hbox); have n2_ := Aside0.mk ((by rw [hg]; exact (below_size zB) : w.heap.size ≤ gb102)); have n3_ := Aside0.mk ((by rw [hg]; exact (below_size zB) : w.heap.size ≤ gb102)); clear HB; have HB := n0_; have BK102 := n1_; have GW102 := n2_; have GE102 := n3_; clear n0_ n1_ n2_ n3_; clear hb hbox hg; have hcz4_0 : w3.cell? ⟨gb102, 0, none⟩ = some (.int .i64 a0_0) := (blk_cell BK102.out 0).trans rfl; have hcz4_1 : w3.cell? ⟨gb102, 1, none⟩ = some (.slice A0_1 l0_1.length c0_1) := (blk_cell BK102.out 1).trans rfl; have hfz4_0 := blk_frozen BK102.out 0; have hfz4_1 := blk_frozen BK102.out 1))
 (try simp only [Act.put, List.setIfInBounds_toArray, List.set_cons_zero, List.set_cons_succ])
 have H := HC2.out
 clear HC2
 by_cases c5 : a0_0 < 1
 ·rw [if_pos c5] at H
  have c5b0 : decide (a0_0 < 1) = true := decide_eq_true c5
  clear c5
  (first | rw [c5b0] | (simp only [i64_w, i32_w]; rw [c5b0]) | skip)
  obtain rfl := Option.some.inj H
  go_wp2
  go_ret
  exact ⟨by first | rfl | (simp [errW_none, errW_some] <;> rfl) | (simp [*, errW_none, errW_some] <;> rfl), by repeat (first | (with_reducible first | exact HB.out | apply below_alloc | apply pw_below_drewN | apply below_drew1 | refine below_set ?_ GE102.out) | exact HB.out)⟩
 ·rw [if_neg c5] at H
  have c5b0 : decide (a0_0 < 1) = false := decide_eq_false c5
  clear c5
  (first | rw [c5b0] | (simp only [i64_w, i32_w]; rw [c5b0]) | skip)
  by_cases c6 : a0_0 > 2000
  ·rw [if_pos c6] at H
   have c6b0 : decide (2000 < a0_0) = true := decide_eq_true c6
   clear c6
   obtain rfl := Option.some.inj H
   have hcz7_0 : w3.cell? ⟨gb102, 0, none⟩ = some (.int .i64 a0_0) := (blk_cell BK102.out 0).trans rfl
   have hcz7_1 : w3.cell? ⟨gb102, 1, none⟩ = some (.slice A0_1 l0_1.length c0_1) := (blk_cell BK102.out 1).trans rfl
   have hfz7_0 := blk_frozen BK102.out 0
   have hfz7_1 := blk_frozen BK102.out 1
   go_wp2
   go_ret
   exact ⟨by first | rfl | (simp [errW_none, errW_some] <;> rfl) | (simp [*, errW_none, errW_some] <;> rfl), by repeat (first | (with_reducible first | exact HB.out | apply below_alloc | apply pw_below_drewN | apply below_drew1 | refine below_set ?_ GE102.out) | exact HB.out)⟩
  ·rw [if_neg c6] at H
   have c6b0 : decide (2000 < a0_0) = false := decide_eq_false c6
   clear c6
   by_cases c8 : (l0_1.length : Int) > 6000
   ·rw [if_pos c8] at H
    have c8b0 : decide (6000 < (l0_1.length : Int)) = true := decide_eq_true c8
    have c8b1 : decide (6000 < l0_1.length) = true := decide_eq_true (by omega)
    clear c8
    obtain rfl := Option.some.inj H
    have hcz9_0 : w3.cell? ⟨gb102, 0, none⟩ = some (.int .i64 a0_0) := (blk_cell BK102.out 0).trans rfl
    have hcz9_1 : w3.cell? ⟨gb102, 1, none⟩ = some (.slice A0_1 l0_1.length c0_1) := (blk_cell BK102.out 1).trans rfl
    have hfz9_0 := blk_frozen BK102.out 0
    have hfz9_1 := blk_frozen BK102.out 1
    go_wp2
    go_ret
    exact ⟨by first | rfl | (simp [errW_none, errW_some] <;> rfl) | (simp [*, errW_none, errW_some] <;> rfl), by repeat (first | (with_reducible first | exact HB.out | apply below_alloc | apply pw_below_drewN | apply below_drew1 | refine below_set ?_ GE102.out) | exact HB.out)⟩
   ·rw [if_neg c8] at H
    have c8b0 : decide (6000 < (l0_1.length : Int)) = false := decide_eq_false c8
    have c8b1 : decide (6000 < l0_1.length) = false := decide_eq_false (by omega)
    clear c8
    have H' := Aside0.mk H
    clear H
    have hcz10_0 : w3.cell? ⟨gb102, 0, none⟩ = some (.int .i64 a0_0) := (blk_cell BK102.out 0).trans rfl
    have hcz10_1 : w3.cell? ⟨gb102, 1, none⟩ = some (.slice A0_1 l0_1.length c0_1) := (blk_cell BK102.out 1).trans rfl
    have hfz10_0 := blk_frozen BK102.out 0
    have hfz10_1 := blk_frozen BK102.out 1
    go_wp2
    go_loopg [24] k (fun kq v24 w' => ∃ (x24_1 : Int), v24 = .int .i64 x24_1 ∧ Aside0 (dag_Valid.l0 kq l0_1 (l0_1.length : Int) x24_1 a0_0 l0_1 = some r) ∧ Aside0 (kq ≤ k) ∧ Aside0 (w'.heap[gb102]? = some (.cells #[.int .i64 a0_0, (.slice A0_1 l0_1.length c0_1)] 24 (0, 0))) ∧ Aside0 (Below w.heap.size w w'))
    case atStart => exact ⟨(0), zT, H', ⟨Nat.le_refl _⟩, ⟨by (with_reducible repeat (first | refine blk_drewN ?_ _ | refine blk_drew ?_ | refine blk_alloc ?_ _)); exact BK102.out⟩, ⟨by repeat (first | (with_reducible first | exact HB.out | apply below_alloc | apply pw_below_drewN | apply below_drew1 | refine below_set ?_ GE102.out) | exact HB.out)⟩⟩
    case round =>
     clear H'
     try clear c5
     try clear c5b0
     try clear c6
     try clear c6b0
     try clear c8
     try clear c8b0
     try clear c8b1
     try clear hcz10_0
     try clear hcz10_1
     try clear hcz4_0
     try clear hcz4_1
     try clear hfz10_0
     try clear hfz10_1
     try clear hfz4_0
     try clear hfz4_1
     obtain ⟨x24_1, rfl, HA, HK1, BK102, HB⟩ := hrel
     cases gk with
     | zero => exact absurd HA.out (by simp [dag_Valid.l0])
     | succ k1 =>
      have H := HA.out
      clear HA
      simp only [dag_Valid.l0] at H
      by_cases c11 : x24_1 < (l0_1.length : Int)
      ·rw [if_pos c11] at H
       have c11b0 : decide (x24_1 < (l0_1.length : Int)) = true := decide_eq_true c11
       clear c11
       by_cases c12 : 0 ≤ x24_1
       ·rw [if_pos c12] at H
        have c12b0 : decide (0 ≤ x24_1) = true := decide_eq_true c12
        clear c12
        by_cases c13 : x24_1 < (l0_1.length : Int)
        ·rw [if_pos c13] at H
         have c13b0 : decide (x24_1 < (l0_1.length : Int)) = true := decide_eq_true c13
         clear c13
         have HC14 := Aside0.mk H
         clear H
         have p103 : 0 ≤ (x24_1 : Int) := of_decide_eq_true zh
         have q103 : x24_1 < (l0_1.length : Int) := of_decide_eq_true zh
         obtain ⟨ad103, e103, hx103_0, hx103_1, hx103_2⟩ := at_T69 HR0_1.out x24_1 p103 q103
         cases e103
         replace hx103_0 := (HB.out.cell (World.block_lt_of_cell? w _ hx103_0)).trans hx103_0
         replace hx103_1 := (HB.out.cell (World.block_lt_of_cell? w _ hx103_1)).trans hx103_1
         replace hx103_2 := (HB.out.cell (World.block_lt_of_cell? w _ hx103_2)).trans hx103_2
         replace p103 := eq_true p103
         replace q103 := eq_true q103
         go_upto_region 9 with (first | ((with_reducible refine gate_dst (N := 5) rfl ?_); (try (refine gate_guard (by rfl) ?_; dsimp only)); refine box_event ?hg (N := 5) ?hd (cs := #[.int .i64 0, .int .i64 0, .int .i64 0]) (t := 69) ?hr ?_; (case hd => rfl); (case hg => rfl); (case hr => first | (go_simp; done) | (go_simp; rfl)); intro gb104 hg w15 hbox hb; have n0_ := Aside0.mk (blk_below (g := gb102) (o := .cells #[.int .i64 a0_0, .slice (some ad103) l0_1.length c0_1] 24 (0, 0)) (zk BK102) hb); have n1_ := Aside0.mk (below_step zB hb); have n2_ := Aside0.mk (hbox); have n3_ := Aside0.mk ((by rw [hg]; exact (below_size zB) : w.heap.size ≤ gb104)); have n4_ := Aside0.mk ((by rw [hg]; exact (below_size zB) : w.heap.size ≤ gb104)); have n5_ := Aside0.mk ((by rw [hg]; exact Nat.ne_of_lt (blk_lt (g := gb102) (o := .cells #[.int .i64 a0_0, .slice (some ad103) l0_1.length c0_1] 24 (0, 0)) (zk BK102)) : gb102 ≠ gb104)); have n6_ := Aside0.mk ((by rw [hg]; exact Nat.ne_of_gt (blk_lt (g := gb102) (o := .cells #[.int .i64 a0_0, .slice (some ad103) l0_1.length c0_1] 24 (0, 0)) (zk BK102)) : gb104 ≠ gb102)); clear BK102; clear HB; have BK102 := n0_; have HB := n1_; have BK104 := n2_; have GW104 := n3_; have GE104 := n4_; have NB102_104 := n5_; have NB104_102 := n6_; clear n0_ n1_ n2_ n3_ n4_ n5_ n6_; clear hb hbox hg; have hnb16 := NB104_102.out; have hnc16 := NB102_104.out; have hcz17_0 : w15.cell? ⟨gb104, 0, none⟩ = some (.int .i64 0) := (blk_cell BK104.out 0).trans rfl; have hcz17_1 : w15.cell? ⟨gb104, 1, none⟩ = some (.int .i64 0) := (blk_cell BK104.out 1).trans rfl; have hcz17_2 : w15.cell? ⟨gb104, 2, none⟩ = some (.int .i64 0) := (blk_cell BK104.out 2).trans rfl; have hfz17_0 := blk_frozen BK104.out 0; have hfz17_1 := blk_frozen BK104.out 1; have hfz17_2 := blk_frozen BK104.out 2))
         (try simp only [Act.put, List.setIfInBounds_toArray, List.set_cons_zero, List.set_cons_succ])
         go_cut [49] (fun v49 wc => ∃ (kq : Nat) (x49_13 : Bool), v49 = .bool x49_13 ∧ Aside0 (dag_Valid.j1 kq l0_1 (l0_1.length : Int) x24_1 x49_13 a0_0 l0_1 ((rd_T69 l0_1 x24_1).f0) ((rd_T69 l0_1 x24_1).f1) ((rd_T69 l0_1 x24_1).f2) = some r) ∧ Aside0 (kq ≤ k1) ∧ Aside0 (wc.heap[gb102]? = some (.cells #[.int .i64 a0_0, (.slice (some ad103) l0_1.length c0_1)] 24 (0, 0))) ∧ Aside0 (wc.heap[gb104]? = some (.cells #[.int .i64 ((rd_T69 l0_1 x24_1).f0), .int .i64 ((rd_T69 l0_1 x24_1).f1), .int .i64 ((rd_T69 l0_1 x24_1).f2)] 69 (0, 0))) ∧ Aside0 (Below w.heap.size w wc))
         case first =>
          have H := HC14.out
          clear HC14
          replace H := Option.bind_eq_some_iff.mp H
          obtain ⟨t105, A180, H⟩ := H
          replace H : (if t105 = true then ((dag_Valid_1_v1.f ((rd_T69 l0_1 x24_1).f1) a0_0 l0_1).bind fun t106 => (if t106 = true then (if ((rd_T69 l0_1 x24_1).f2) < 0 then (dag_Valid.j1 k1 l0_1 (l0_1.length : Int) x24_1 true a0_0 l0_1 ((rd_T69 l0_1 x24_1).f0) ((rd_T69 l0_1 x24_1).f1) ((rd_T69 l0_1 x24_1).f2)) else (dag_Valid.j1 k1 l0_1 (l0_1.length : Int) x24_1 (decide (((rd_T69 l0_1 x24_1).f2) > 1000000)) a0_0 l0_1 ((rd_T69 l0_1 x24_1).f0) ((rd_T69 l0_1 x24_1).f1) ((rd_T69 l0_1 x24_1).f2))) else (dag_Valid.j1 k1 l0_1 (l0_1.length : Int) x24_1 true a0_0 l0_1 ((rd_T69 l0_1 x24_1).f0) ((rd_T69 l0_1 x24_1).f1) ((rd_T69 l0_1 x24_1).f2)))) else (dag_Valid.j1 k1 l0_1 (l0_1.length : Int) x24_1 true a0_0 l0_1 ((rd_T69 l0_1 x24_1).f0) ((rd_T69 l0_1 x24_1).f1) ((rd_T69 l0_1 x24_1).f2))) = some r := H
          have A18 := Aside0.mk A180
          clear A180
          by_cases c19 : t105 = true
          ·subst c19
           have H1 : ((dag_Valid_1_v1.f ((rd_T69 l0_1 x24_1).f1) a0_0 l0_1).bind fun t106 => (if t106 = true then (if ((rd_T69 l0_1 x24_1).f2) < 0 then (dag_Valid.j1 k1 l0_1 (l0_1.length : Int) x24_1 true a0_0 l0_1 ((rd_T69 l0_1 x24_1).f0) ((rd_T69 l0_1 x24_1).f1) ((rd_T69 l0_1 x24_1).f2)) else (dag_Valid.j1 k1 l0_1 (l0_1.length : Int) x24_1 (decide (((rd_T69 l0_1 x24_1).f2) > 1000000)) a0_0 l0_1 ((rd_T69 l0_1 x24_1).f0) ((rd_T69 l0_1 x24_1).f1) ((rd_T69 l0_1 x24_1).f2))) else (dag_Valid.j1 k1 l0_1 (l0_1.length : Int) x24_1 true a0_0 l0_1 ((rd_T69 l0_1 x24_1).f0) ((rd_T69 l0_1 x24_1).f1) ((rd_T69 l0_1 x24_1).f2)))) = some r := by rw [if_pos rfl] at H; exact H
           clear H
           have H := H1
           clear H1
           replace H := Option.bind_eq_some_iff.mp H
           obtain ⟨t106, A200, H⟩ := H
           replace H : (if t106 = true then (if ((rd_T69 l0_1 x24_1).f2) < 0 then (dag_Valid.j1 k1 l0_1 (l0_1.length : Int) x24_1 true a0_0 l0_1 ((rd_T69 l0_1 x24_1).f0) ((rd_T69 l0_1 x24_1).f1) ((rd_T69 l0_1 x24_1).f2)) else (dag_Valid.j1 k1 l0_1 (l0_1.length : Int) x24_1 (decide (((rd_T69 l0_1 x24_1).f2) > 1000000)) a0_0 l0_1 ((rd_T69 l0_1 x24_1).f0) ((rd_T69 l0_1 x24_1).f1) ((rd_T69 l0_1 x24_1).f2))) else (dag_Valid.j1 k1 l0_1 (l0_1.length : Int) x24_1 true a0_0 l0_1 ((rd_T69 l0_1 x24_1).f0) ((rd_T69 l0_1 x24_1).f1) ((rd_T69 l0_1 x24_1).f2))) = some r := H
           have A20 := Aside0.mk A200
           clear A200
           by_cases c21 : t106 = true
           ·subst c21
            have H1 : (if ((rd_T69 l0_1 x24_1).f2) < 0 then (dag_Valid.j1 k1 l0_1 (l0_1.length : Int) x24_1 true a0_0 l0_1 ((rd_T69 l0_1 x24_1).f0) ((rd_T69 l0_1 x24_1).f1) ((rd_T69 l0_1 x24_1).f2)) else (dag_Valid.j1 k1 l0_1 (l0_1.length : Int) x24_1 (decide (((rd_T69 l0_1 x24_1).f2) > 1000000)) a0_0 l0_1 ((rd_T69 l0_1 x24_1).f0) ((rd_T69 l0_1 x24_1).f1) ((rd_T69 l0_1 x24_1).f2))) = some r := by rw [if_pos rfl] at H; exact H
            clear H
            have H := H1
            clear H1
            by_cases c22 : ((rd_T69 l0_1 x24_1).f2) < 0
            ·rw [if_pos c22] at H
             have c22b0 : decide (((rd_T69 l0_1 x24_1).f2) < 0) = true := decide_eq_true c22
             clear c22
             (first | rw [c22b0] | (simp only [i64_w, i32_w]; rw [c22b0]) | skip)
             have H' := Aside0.mk H
             clear H
             have hnb23 := NB104_102.out
             have hnc23 := NB102_104.out
             have hcz24_0 : w15.cell? ⟨gb104, 0, none⟩ = some (.int .i64 0) := (blk_cell BK104.out 0).trans rfl
             have hcz24_1 : w15.cell? ⟨gb104, 1, none⟩ = some (.int .i64 0) := (blk_cell BK104.out 1).trans rfl
             have hcz24_2 : w15.cell? ⟨gb104, 2, none⟩ = some (.int .i64 0) := (blk_cell BK104.out 2).trans rfl
             have hfz24_0 := blk_frozen BK104.out 0
             have hfz24_1 := blk_frozen BK104.out 1
             have hfz24_2 := blk_frozen BK104.out 2
             go_wp2_with (first | (go_at_call 64; (with_reducible refine (dag_Valid_1_v1.calls ((rd_T69 l0_1 x24_1).f0) gb102 a0_0 (some ad103) c0_1 l0_1 true _ ?side1 ?side2 ?side3 A18.out).mono ?_); (case side1 => exact Kd.C_below HR0_1.out zB); (case side2 => exact HC0_1.out); (case side3 => (with_reducible repeat (first | refine blk_drewN ?_ _ | refine blk_drew ?_ | refine blk_alloc ?_ _)); refine blk_far ?_ NB102_104.out _; (with_reducible repeat (first | refine blk_drewN ?_ _ | refine blk_drew ?_ | refine blk_alloc ?_ _)); refine blk_far ?_ NB102_104.out _; (with_reducible repeat (first | refine blk_drewN ?_ _ | refine blk_drew ?_ | refine blk_alloc ?_ _)); refine blk_far ?_ NB102_104.out _; (with_reducible repeat (first | refine blk_drewN ?_ _ | refine blk_drew ?_ | refine blk_alloc ?_ _)); exact BK102.out); rintro e w' ⟨rfl, ⟨nd, rfl⟩⟩) | (go_at_call 64; (with_reducible refine (dag_Valid_1_v1.calls ((rd_T69 l0_1 x24_1).f1) gb102 a0_0 (some ad103) c0_1 l0_1 true _ ?side1 ?side2 ?side3 A20.out).mono ?_); (case side1 => exact Kd.C_below HR0_1.out zB); (case side2 => exact HC0_1.out); (case side3 => (with_reducible repeat (first | refine blk_drewN ?_ _ | refine blk_drew ?_ | refine blk_alloc ?_ _)); refine blk_far ?_ NB102_104.out _; (with_reducible repeat (first | refine blk_drewN ?_ _ | refine blk_drew ?_ | refine blk_alloc ?_ _)); refine blk_far ?_ NB102_104.out _; (with_reducible repeat (first | refine blk_drewN ?_ _ | refine blk_drew ?_ | refine blk_alloc ?_ _)); refine blk_far ?_ NB102_104.out _; (with_reducible repeat (first | refine blk_drewN ?_ _ | refine blk_drew ?_ | refine blk_alloc ?_ _)); exact BK102.out); rintro e w' ⟨rfl, ⟨nd, rfl⟩⟩))
             go_meet
             case rel => exact ⟨_, (true), zT, H', ⟨by have := HK1.out; first | omega | exact Nat.le_refl _⟩, ⟨by (with_reducible repeat (first | refine blk_drewN ?_ _ | refine blk_drew ?_ | refine blk_alloc ?_ _)); refine blk_far ?_ NB102_104.out _; (with_reducible repeat (first | refine blk_drewN ?_ _ | refine blk_drew ?_ | refine blk_alloc ?_ _)); refine blk_far ?_ NB102_104.out _; (with_reducible repeat (first | refine blk_drewN ?_ _ | refine blk_drew ?_ | refine blk_alloc ?_ _)); refine blk_far ?_ NB102_104.out _; (with_reducible repeat (first | refine blk_drewN ?_ _ | refine blk_drew ?_ | refine blk_alloc ?_ _)); exact BK102.out⟩, ⟨by (with_reducible repeat (first | refine blk_drewN ?_ _ | refine blk_drew ?_ | refine blk_alloc ?_ _)); refine blk_put (cs := #[.int .i64 ((rd_T69 l0_1 x24_1).f0), .int .i64 ((rd_T69 l0_1 x24_1).f1), .int .i64 0]) ?_ 2 _ rfl; (with_reducible repeat (first | refine blk_drewN ?_ _ | refine blk_drew ?_ | refine blk_alloc ?_ _)); refine blk_put (cs := #[.int .i64 ((rd_T69 l0_1 x24_1).f0), .int .i64 0, .int .i64 0]) ?_ 1 _ rfl; (with_reducible repeat (first | refine blk_drewN ?_ _ | refine blk_drew ?_ | refine blk_alloc ?_ _)); refine blk_put (cs := #[.int .i64 0, .int .i64 0, .int .i64 0]) ?_ 0 _ rfl; (with_reducible repeat (first | refine blk_drewN ?_ _ | refine blk_drew ?_ | refine blk_alloc ?_ _)); exact BK104.out⟩, ⟨by repeat (first | (with_reducible first | exact HB.out | apply below_alloc | apply pw_below_drewN | apply below_drew1 | refine below_set ?_ GE102.out | refine below_set ?_ GE104.out) | exact HB.out)⟩⟩
            ·rw [if_neg c22] at H
             have c22b0 : decide (((rd_T69 l0_1 x24_1).f2) < 0) = false := decide_eq_false c22
             clear c22
             (first | rw [c22b0] | (simp only [i64_w, i32_w]; rw [c22b0]) | skip)
             have H' := Aside0.mk H
             clear H
             have hnb25 := NB104_102.out
             have hnc25 := NB102_104.out
             have hcz26_0 : w15.cell? ⟨gb104, 0, none⟩ = some (.int .i64 0) := (blk_cell BK104.out 0).trans rfl
             have hcz26_1 : w15.cell? ⟨gb104, 1, none⟩ = some (.int .i64 0) := (blk_cell BK104.out 1).trans rfl
             have hcz26_2 : w15.cell? ⟨gb104, 2, none⟩ = some (.int .i64 0) := (blk_cell BK104.out 2).trans rfl
             have hfz26_0 := blk_frozen BK104.out 0
             have hfz26_1 := blk_frozen BK104.out 1
             have hfz26_2 := blk_frozen BK104.out 2
             go_wp2_with (first | (go_at_call 64; (with_reducible refine (dag_Valid_1_v1.calls ((rd_T69 l0_1 x24_1).f0) gb102 a0_0 (some ad103) c0_1 l0_1 true _ ?side1 ?side2 ?side3 A18.out).mono ?_); (case side1 => exact Kd.C_below HR0_1.out zB); (case side2 => exact HC0_1.out); (case side3 => (with_reducible repeat (first | refine blk_drewN ?_ _ | refine blk_drew ?_ | refine blk_alloc ?_ _)); refine blk_far ?_ NB102_104.out _; (with_reducible repeat (first | refine blk_drewN ?_ _ | refine blk_drew ?_ | refine blk_alloc ?_ _)); refine blk_far ?_ NB102_104.out _; (with_reducible repeat (first | refine blk_drewN ?_ _ | refine blk_drew ?_ | refine blk_alloc ?_ _)); refine blk_far ?_ NB102_104.out _; (with_reducible repeat (first | refine blk_drewN ?_ _ | refine blk_drew ?_ | refine blk_alloc ?_ _)); exact BK102.out); rintro e w' ⟨rfl, ⟨nd, rfl⟩⟩) | (go_at_call 64; (with_reducible refine (dag_Valid_1_v1.calls ((rd_T69 l0_1 x24_1).f1) gb102 a0_0 (some ad103) c0_1 l0_1 true _ ?side1 ?side2 ?side3 A20.out).mono ?_); (case side1 => exact Kd.C_below HR0_1.out zB); (case side2 => exact HC0_1.out); (case side3 => (with_reducible repeat (first | refine blk_drewN ?_ _ | refine blk_drew ?_ | refine blk_alloc ?_ _)); refine blk_far ?_ NB102_104.out _; (with_reducible repeat (first | refine blk_drewN ?_ _ | refine blk_drew ?_ | refine blk_alloc ?_ _)); refine blk_far ?_ NB102_104.out _; (with_reducible repeat (first | refine blk_drewN ?_ _ | refine blk_drew ?_ | refine blk_alloc ?_ _)); refine blk_far ?_ NB102_104.out _; (with_reducible repeat (first | refine blk_drewN ?_ _ | refine blk_drew ?_ | refine blk_alloc ?_ _)); exact BK102.out); rintro e w' ⟨rfl, ⟨nd, rfl⟩⟩))
             go_meet
             case rel => exact ⟨_, (decide (((rd_T69 l0_1 x24_1).f2) > 1000000)), zT, H', ⟨by have := HK1.out; first | omega | exact Nat.le_refl _⟩, ⟨by (with_reducible repeat (first | refine blk_drewN ?_ _ | refine blk_drew ?_ | refine blk_alloc ?_ _)); refine blk_far ?_ NB102_104.out _; (with_reducible repeat (first | refine blk_drewN ?_ _ | refine blk_drew ?_ | refine blk_alloc ?_ _)); refine blk_far ?_ NB102_104.out _; (with_reducible repeat (first | refine blk_drewN ?_ _ | refine blk_drew ?_ | refine blk_alloc ?_ _)); refine blk_far ?_ NB102_104.out _; (with_reducible repeat (first | refine blk_drewN ?_ _ | refine blk_drew ?_ | refine blk_alloc ?_ _)); exact BK102.out⟩, ⟨by (with_reducible repeat (first | refine blk_drewN ?_ _ | refine blk_drew ?_ | refine blk_alloc ?_ _)); refine blk_put (cs := #[.int .i64 ((rd_T69 l0_1 x24_1).f0), .int .i64 ((rd_T69 l0_1 x24_1).f1), .int .i64 0]) ?_ 2 _ rfl; (with_reducible repeat (first | refine blk_drewN ?_ _ | refine blk_drew ?_ | refine blk_alloc ?_ _)); refine blk_put (cs := #[.int .i64 ((rd_T69 l0_1 x24_1).f0), .int .i64 0, .int .i64 0]) ?_ 1 _ rfl; (with_reducible repeat (first | refine blk_drewN ?_ _ | refine blk_drew ?_ | refine blk_alloc ?_ _)); refine blk_put (cs := #[.int .i64 0, .int .i64 0, .int .i64 0]) ?_ 0 _ rfl; (with_reducible repeat (first | refine blk_drewN ?_ _ | refine blk_drew ?_ | refine blk_alloc ?_ _)); exact BK104.out⟩, ⟨by repeat (first | (with_reducible first | exact HB.out | apply below_alloc | apply pw_below_drewN | apply below_drew1 | refine below_set ?_ GE102.out | refine below_set ?_ GE104.out) | exact HB.out)⟩⟩
           ·replace c21 := Bool.eq_false_iff.mpr c21
            subst c21
            have H1 : (dag_Valid.j1 k1 l0_1 (l0_1.length : Int) x24_1 true a0_0 l0_1 ((rd_T69 l0_1 x24_1).f0) ((rd_T69 l0_1 x24_1).f1) ((rd_T69 l0_1 x24_1).f2)) = some r := by rw [if_neg (show ¬ (false = true) by decide)] at H; exact H
            clear H
            have H := H1
            clear H1
            have H' := Aside0.mk H
            clear H
            have hnb27 := NB104_102.out
            have hnc27 := NB102_104.out
            have hcz28_0 : w15.cell? ⟨gb104, 0, none⟩ = some (.int .i64 0) := (blk_cell BK104.out 0).trans rfl
            have hcz28_1 : w15.cell? ⟨gb104, 1, none⟩ = some (.int .i64 0) := (blk_cell BK104.out 1).trans rfl
            have hcz28_2 : w15.cell? ⟨gb104, 2, none⟩ = some (.int .i64 0) := (blk_cell BK104.out 2).trans rfl
            have hfz28_0 := blk_frozen BK104.out 0
            have hfz28_1 := blk_frozen BK104.out 1
            have hfz28_2 := blk_frozen BK104.out 2
            go_wp2_with (first | (go_at_call 64; (with_reducible refine (dag_Valid_1_v1.calls ((rd_T69 l0_1 x24_1).f0) gb102 a0_0 (some ad103) c0_1 l0_1 true _ ?side1 ?side2 ?side3 A18.out).mono ?_); (case side1 => exact Kd.C_below HR0_1.out zB); (case side2 => exact HC0_1.out); (case side3 => (with_reducible repeat (first | refine blk_drewN ?_ _ | refine blk_drew ?_ | refine blk_alloc ?_ _)); refine blk_far ?_ NB102_104.out _; (with_reducible repeat (first | refine blk_drewN ?_ _ | refine blk_drew ?_ | refine blk_alloc ?_ _)); refine blk_far ?_ NB102_104.out _; (with_reducible repeat (first | refine blk_drewN ?_ _ | refine blk_drew ?_ | refine blk_alloc ?_ _)); refine blk_far ?_ NB102_104.out _; (with_reducible repeat (first | refine blk_drewN ?_ _ | refine blk_drew ?_ | refine blk_alloc ?_ _)); exact BK102.out); rintro e w' ⟨rfl, ⟨nd, rfl⟩⟩) | (go_at_call 64; (with_reducible refine (dag_Valid_1_v1.calls ((rd_T69 l0_1 x24_1).f1) gb102 a0_0 (some ad103) c0_1 l0_1 false _ ?side1 ?side2 ?side3 A20.out).mono ?_); (case side1 => exact Kd.C_below HR0_1.out zB); (case side2 => exact HC0_1.out); (case side3 => (with_reducible repeat (first | refine blk_drewN ?_ _ | refine blk_drew ?_ | refine blk_alloc ?_ _)); refine blk_far ?_ NB102_104.out _; (with_reducible repeat (first | refine blk_drewN ?_ _ | refine blk_drew ?_ | refine blk_alloc ?_ _)); refine blk_far ?_ NB102_104.out _; (with_reducible repeat (first | refine blk_drewN ?_ _ | refine blk_drew ?_ | refine blk_alloc ?_ _)); refine blk_far ?_ NB102_104.out _; (with_reducible repeat (first | refine blk_drewN ?_ _ | refine blk_drew ?_ | refine blk_alloc ?_ _)); exact BK102.out); rintro e w' ⟨rfl, ⟨nd, rfl⟩⟩))
            go_meet
            case rel => exact ⟨_, (true), zT, H', ⟨by have := HK1.out; first | omega | exact Nat.le_refl _⟩, ⟨by (with_reducible repeat (first | refine blk_drewN ?_ _ | refine blk_drew ?_ | refine blk_alloc ?_ _)); refine blk_far ?_ NB102_104.out _; (with_reducible repeat (first | refine blk_drewN ?_ _ | refine blk_drew ?_ | refine blk_alloc ?_ _)); refine blk_far ?_ NB102_104.out _; (with_reducible repeat (first | refine blk_drewN ?_ _ | refine blk_drew ?_ | refine blk_alloc ?_ _)); refine blk_far ?_ NB102_104.out _; (with_reducible repeat (first | refine blk_drewN ?_ _ | refine blk_drew ?_ | refine blk_alloc ?_ _)); exact BK102.out⟩, ⟨by (with_reducible repeat (first | refine blk_drewN ?_ _ | refine blk_drew ?_ | refine blk_alloc ?_ _)); refine blk_put (cs := #[.int .i64 ((rd_T69 l0_1 x24_1).f0), .int .i64 ((rd_T69 l0_1 x24_1).f1), .int .i64 0]) ?_ 2 _ rfl; (with_reducible repeat (first | refine blk_drewN ?_ _ | refine blk_drew ?_ | refine blk_alloc ?_ _)); refine blk_put (cs := #[.int .i64 ((rd_T69 l0_1 x24_1).f0), .int .i64 0, .int .i64 0]) ?_ 1 _ rfl; (with_reducible repeat (first | refine blk_drewN ?_ _ | refine blk_drew ?_ | refine blk_alloc ?_ _)); refine blk_put (cs := #[.int .i64 0, .int .i64 0, .int .i64 0]) ?_ 0 _ rfl; (with_reducible repeat (first | refine blk_drewN ?_ _ | refine blk_drew ?_ | refine blk_alloc ?_ _)); exact BK104.out⟩, ⟨by repeat (first | (with_reducible first | exact HB.out | apply below_alloc | apply pw_below_drewN | apply below_drew1 | refine below_set ?_ GE102.out | refine below_set ?_ GE104.out) | exact HB.out)⟩⟩
          ·replace c19 := Bool.eq_false_iff.mpr c19
           subst c19
           have H1 : (dag_Valid.j1 k1 l0_1 (l0_1.length : Int) x24_1 true a0_0 l0_1 ((rd_T69 l0_1 x24_1).f0) ((rd_T69 l0_1 x24_1).f1) ((rd_T69 l0_1 x24_1).f2)) = some r := by rw [if_neg (show ¬ (false = true) by decide)] at H; exact H
           clear H
           have H := H1
           clear H1
           have H' := Aside0.mk H
           clear H
           have hnb29 := NB104_102.out
           have hnc29 := NB102_104.out
           have hcz30_0 : w15.cell? ⟨gb104, 0, none⟩ = some (.int .i64 0) := (blk_cell BK104.out 0).trans rfl
           have hcz30_1 : w15.cell? ⟨gb104, 1, none⟩ = some (.int .i64 0) := (blk_cell BK104.out 1).trans rfl
           have hcz30_2 : w15.cell? ⟨gb104, 2, none⟩ = some (.int .i64 0) := (blk_cell BK104.out 2).trans rfl
           have hfz30_0 := blk_frozen BK104.out 0
           have hfz30_1 := blk_frozen BK104.out 1
           have hfz30_2 := blk_frozen BK104.out 2
           go_wp2_with (first | (go_at_call 64; (with_reducible refine (dag_Valid_1_v1.calls ((rd_T69 l0_1 x24_1).f0) gb102 a0_0 (some ad103) c0_1 l0_1 false _ ?side1 ?side2 ?side3 A18.out).mono ?_); (case side1 => exact Kd.C_below HR0_1.out zB); (case side2 => exact HC0_1.out); (case side3 => (with_reducible repeat (first | refine blk_drewN ?_ _ | refine blk_drew ?_ | refine blk_alloc ?_ _)); refine blk_far ?_ NB102_104.out _; (with_reducible repeat (first | refine blk_drewN ?_ _ | refine blk_drew ?_ | refine blk_alloc ?_ _)); refine blk_far ?_ NB102_104.out _; (with_reducible repeat (first | refine blk_drewN ?_ _ | refine blk_drew ?_ | refine blk_alloc ?_ _)); refine blk_far ?_ NB102_104.out _; (with_reducible repeat (first | refine blk_drewN ?_ _ | refine blk_drew ?_ | refine blk_alloc ?_ _)); exact BK102.out); rintro e w' ⟨rfl, ⟨nd, rfl⟩⟩))
           go_meet
           case rel => exact ⟨_, (true), zT, H', ⟨by have := HK1.out; first | omega | exact Nat.le_refl _⟩, ⟨by (with_reducible repeat (first | refine blk_drewN ?_ _ | refine blk_drew ?_ | refine blk_alloc ?_ _)); refine blk_far ?_ NB102_104.out _; (with_reducible repeat (first | refine blk_drewN ?_ _ | refine blk_drew ?_ | refine blk_alloc ?_ _)); refine blk_far ?_ NB102_104.out _; (with_reducible repeat (first | refine blk_drewN ?_ _ | refine blk_drew ?_ | refine blk_alloc ?_ _)); refine blk_far ?_ NB102_104.out _; (with_reducible repeat (first | refine blk_drewN ?_ _ | refine blk_drew ?_ | refine blk_alloc ?_ _)); exact BK102.out⟩, ⟨by (with_reducible repeat (first | refine blk_drewN ?_ _ | refine blk_drew ?_ | refine blk_alloc ?_ _)); refine blk_put (cs := #[.int .i64 ((rd_T69 l0_1 x24_1).f0), .int .i64 ((rd_T69 l0_1 x24_1).f1), .int .i64 0]) ?_ 2 _ rfl; (with_reducible repeat (first | refine blk_drewN ?_ _ | refine blk_drew ?_ | refine blk_alloc ?_ _)); refine blk_put (cs := #[.int .i64 ((rd_T69 l0_1 x24_1).f0), .int .i64 0, .int .i64 0]) ?_ 1 _ rfl; (with_reducible repeat (first | refine blk_drewN ?_ _ | refine blk_drew ?_ | refine blk_alloc ?_ _)); refine blk_put (cs := #[.int .i64 0, .int .i64 0, .int .i64 0]) ?_ 0 _ rfl; (with_reducible repeat (first | refine blk_drewN ?_ _ | refine blk_drew ?_ | refine blk_alloc ?_ _)); exact BK104.out⟩, ⟨by repeat (first | (with_reducible first | exact HB.out | apply below_alloc | apply pw_below_drewN | apply below_drew1 | refine below_set ?_ GE102.out | refine below_set ?_ GE104.out) | exact HB.out)⟩⟩
         case rest =>
          clear HC14
          try clear c5
          try clear c5b0
          try clear c6
          try clear c6b0
          try clear c8
          try clear c8b0
          try clear c8b1
          try clear c11
          try clear c11b0
          try clear c12
          try clear c12b0
          try clear c13
          try clear c13b0
          try clear hcz10_0
          try clear hcz10_1
          try clear hcz17_0
          try clear hcz17_1
          try clear hcz17_2
          try clear hcz4_0
          try clear hcz4_1
          try clear hfz10_0
          try clear hfz10_1
          try clear hfz17_0
          try clear hfz17_1
          try clear hfz17_2
          try clear hfz4_0
          try clear hfz4_1
          try clear hx103_0
          try clear hx103_1
          try clear hx103_2
          try clear p103
          try clear q103
          obtain ⟨kq, x49_13, rfl, HA, HJ13, BK102, BK104, HB⟩ := hcut
          cases kq with
          | zero => exact absurd HA.out (by simp [dag_Valid.j1])
          | succ kj13 =>
           have H := HA.out
           clear HA
           simp only [dag_Valid.j1] at H
           by_cases c31 : x49_13 = true
           ·subst c31
            have H1 : (some 6) = some r := by rw [if_pos rfl] at H; exact H
            clear H
            have H := H1
            clear H1
            obtain rfl := Option.some.inj H
            go_wp2
            go_ret
            exact ⟨by first | rfl | (simp [errW_none, errW_some] <;> rfl) | (simp [*, errW_none, errW_some] <;> rfl), by repeat (first | (with_reducible first | exact HB.out | apply below_alloc | apply pw_below_drewN | apply below_drew1 | refine below_set ?_ GE102.out | refine below_set ?_ GE104.out) | exact HB.out)⟩
           ·replace c31 := Bool.eq_false_iff.mpr c31
            subst c31
            have H1 : (if ((rd_T69 l0_1 x24_1).f1) ≤ ((rd_T69 l0_1 x24_1).f0) then (some 18) else (dag_Valid.l0 kj13 l0_1 (l0_1.length : Int) (wrap64 (x24_1 + 1)) a0_0 l0_1)) = some r := by rw [if_neg (show ¬ (false = true) by decide)] at H; exact H
            clear H
            have H := H1
            clear H1
            by_cases c32 : ((rd_T69 l0_1 x24_1).f1) ≤ ((rd_T69 l0_1 x24_1).f0)
            ·rw [if_pos c32] at H
             have c32b0 : decide (((rd_T69 l0_1 x24_1).f1) ≤ ((rd_T69 l0_1 x24_1).f0)) = true := decide_eq_true c32
             clear c32
             obtain rfl := Option.some.inj H
             have hnb33 := NB104_102.out
             have hnc33 := NB102_104.out
             have hcz34_0 : wc.cell? ⟨gb104, 0, none⟩ = some (.int .i64 ((rd_T69 l0_1 x24_1).f0)) := (blk_cell BK104.out 0).trans rfl
             have hcz34_1 : wc.cell? ⟨gb104, 1, none⟩ = some (.int .i64 ((rd_T69 l0_1 x24_1).f1)) := (blk_cell BK104.out 1).trans rfl
             have hcz34_2 : wc.cell? ⟨gb104, 2, none⟩ = some (.int .i64 ((rd_T69 l0_1 x24_1).f2)) := (blk_cell BK104.out 2).trans rfl
             have hfz34_0 := blk_frozen BK104.out 0
             have hfz34_1 := blk_frozen BK104.out 1
             have hfz34_2 := blk_frozen BK104.out 2
             go_wp2
             go_ret
             exact ⟨by first | rfl | (simp [errW_none, errW_some] <;> rfl) | (simp [*, errW_none, errW_some] <;> rfl), by repeat (first | (with_reducible first | exact HB.out | apply below_alloc | apply pw_below_drewN | apply below_drew1 | refine below_set ?_ GE102.out | refine below_set ?_ GE104.out) | exact HB.out)⟩
            ·rw [if_neg c32] at H
             have c32b0 : decide (((rd_T69 l0_1 x24_1).f1) ≤ ((rd_T69 l0_1 x24_1).f0)) = false := decide_eq_false c32
             clear c32
             have H' := Aside0.mk H
             clear H
             have hnb35 := NB104_102.out
             have hnc35 := NB102_104.out
             have hcz36_0 : wc.cell? ⟨gb104, 0, none⟩ = some (.int .i64 ((rd_T69 l0_1 x24_1).f0)) := (blk_cell BK104.out 0).trans rfl
             have hcz36_1 : wc.cell? ⟨gb104, 1, none⟩ = some (.int .i64 ((rd_T69 l0_1 x24_1).f1)) := (blk_cell BK104.out 1).trans rfl
             have hcz36_2 : wc.cell? ⟨gb104, 2, none⟩ = some (.int .i64 ((rd_T69 l0_1 x24_1).f2)) := (blk_cell BK104.out 2).trans rfl
             have hfz36_0 := blk_frozen BK104.out 0
             have hfz36_1 := blk_frozen BK104.out 1
             have hfz36_2 := blk_frozen BK104.out 2
             go_wp2
             go_roundg kj13
             case measure => have := HK1.out; have := HJ13.out; omega
             case rel => exact ⟨(wrap64 (x24_1 + 1)), zT, H', ⟨by have := HK1.out; have := HJ13.out; omega⟩, ⟨by (with_reducible repeat (first | refine blk_drewN ?_ _ | refine blk_drew ?_ | refine blk_alloc ?_ _)); exact BK102.out⟩, ⟨by repeat (first | (with_reducible first | exact HB.out | apply below_alloc | apply pw_below_drewN | apply below_drew1 | refine below_set ?_ GE102.out | refine below_set ?_ GE104.out) | exact HB.out)⟩⟩
        ·rw [if_neg c13] at H
         exact absurd H (by simp)
       ·rw [if_neg c12] at H
        exact absurd H (by simp)
      ·rw [if_neg c11] at H
       have c11b0 : decide (x24_1 < (l0_1.length : Int)) = false := decide_eq_false c11
       clear c11
       obtain rfl := Option.some.inj H
       go_wp2
       go_ret
       exact ⟨by first | rfl | (simp [errW_none, errW_some] <;> rfl) | (simp [*, errW_none, errW_some] <;> rfl), by repeat (first | (with_reducible first | exact HB.out | apply below_alloc | apply pw_below_drewN | apply below_drew1 | refine below_set ?_ GE102.out) | exact HB.out)⟩
/-! ### dag_Check: function 17 -/
def dag_Check.l0 : Nat → Int → List Int → Int → Int → Int → List (S69) → Option (Bool)
 | 0, _, _, _, _, _, _ => none
 | k + 1, x5, x11, x12, x13, x108000, x108001 => if x13 < x12 then (if 0 ≤ x13 then (if x13 < (x11.length : Int) then (if (rd x11 x13) < 0 then (some false) else (if (rd x11 x13) ≥ (x108001.length : Int) then (some false) else (if 0 ≤ (rd x11 x13) then (if (rd x11 x13) < (x108001.length : Int) then (if ((rd_T69 x108001 (rd x11 x13)).f0) = x5 then (dag_Check.l0 k ((rd_T69 x108001 (rd x11 x13)).f1) x11 x12 (wrap64 (x13 + 1)) x108000 x108001) else (some false)) else (none)) else (none)))) else (none)) else (none)) else (some (x5 == (wrap64 (x108000 - 1))))
def dag_Check.f (k : Nat) (a0_0 : Int) (l0_1 : List (S69)) (l1 : List Int) : Option (Bool) := (dag_Valid.f k a0_0 l0_1).bind fun t108 => (if t108 = 0 then (dag_Check.l0 k 0 l1 (l1.length : Int) 0 a0_0 l0_1) else (some false))
theorem dag_Check.mono_l : ∀ k, (∀ y0 y1 y2 y3 y4 y5, LeO (dag_Check.l0 k y0 y1 y2 y3 y4 y5) (dag_Check.l0 (k + 1) y0 y1 y2 y3 y4 y5))
 | 0 => fun _ _ _ _ _ _ r h => by simp [dag_Check.l0] at h
 | k + 1 => by
  have ih0 := dag_Check.mono_l k
  ·intro y0 y1 y2 y3 y4 y5
   unfold dag_Check.l0
   repeat' first
   | (with_reducible exact ih0 _ _ _ _ _ _)
   | (with_reducible exact dag_Valid.mono _ _ _)
   | (with_reducible exact LeO.refl _)
   | (with_reducible exact LeO.none _)
   | (with_reducible refine LeO.ite ?_ ?_)
   | (with_reducible refine LeO.bind ?_ (fun _ => ?_))
   | exact ih0 _ _ _ _ _ _
   | exact dag_Valid.mono _ _ _
   | exact LeO.none _
   | refine LeO.ite ?_ ?_
   | refine LeO.bind ?_ (fun _ => ?_)
theorem dag_Check.mono : ∀ a0 a1 a2 k, LeO (dag_Check.f k a0 a1 a2) (dag_Check.f (k + 1) a0 a1 a2) := by
 intro a0 a1 a2 k
 have ih0 := dag_Check.mono_l k
 unfold dag_Check.f
 repeat' first
   | (with_reducible exact ih0 _ _ _ _ _ _)
   | (with_reducible exact dag_Valid.mono _ _ _)
   | (with_reducible exact LeO.refl _)
   | (with_reducible exact LeO.none _)
   | (with_reducible refine LeO.ite ?_ ?_)
   | (with_reducible refine LeO.bind ?_ (fun _ => ?_))
   | exact ih0 _ _ _ _ _ _
   | exact dag_Valid.mono _ _ _
   | exact LeO.none _
   | refine LeO.ite ?_ ?_
   | refine LeO.bind ?_ (fun _ => ?_)
set_option maxHeartbeats 8000000 in
set_option maxRecDepth 100000 in
theorem dag_Check.calls (k : Nat) (a0_0 : Int) (A0_1 : Option Addr) (c0_1 : Nat) (l0_1 : List (S69)) (A1 : Option Addr) (c1 : Nat) (l1 : List Int) (r : Bool) (w : World) (hr0_1 : Kd.C k69 w A0_1 l0_1.length l0_1) (hc0_1 : l0_1.length ≤ c0_1) (hr1 : Kd.C (Kd.int .i64) w A1 l1.length l1) (hc1 : l1.length ≤ c1) (h : dag_Check.f k a0_0 l0_1 l1 = some r) :
  Calls Try.prog 17 #[.agg #[.int .i64 a0_0, .slice A0_1 l0_1.length c0_1], .slice A1 l1.length c1] w fun e w' => e = .returned (.bool r) ∧ Below w.heap.size w w' := by
 have hu24 := Try.underlying24
 have hu3 := Try.underlying3
 have hu22 := Try.underlying22
 have HR0_1 := Aside0.mk hr0_1
 have HC0_1 := Aside0.mk hc0_1
 clear hr0_1 hc0_1
 have HR1 := Aside0.mk hr1
 have HC1 := Aside0.mk hc1
 clear hr1 hc1
 have HB := Aside0.mk (Below.refl w.heap.size w)
 have H : ((dag_Valid.f k a0_0 l0_1).bind fun t108 => (if t108 = 0 then (dag_Check.l0 k 0 l1 (l1.length : Int) 0 a0_0 l0_1) else (some false))) = some r := h
 clear h
 replace H := Option.bind_eq_some_iff.mp H
 obtain ⟨t108, A30, H⟩ := H
 replace H : (if t108 = 0 then (dag_Check.l0 k 0 l1 (l1.length : Int) 0 a0_0 l0_1) else (some false)) = some r := H
 have A3 := Aside0.mk A30
 clear A30
 have HC4 := Aside0.mk H
 clear H
 go_enter Try.func17, Try.ntmps17
 go_upto_if 10 with (first | ((with_reducible refine gate_dst (N := 2) rfl ?_); (try (refine gate_guard (by rfl) ?_; dsimp only)); refine box_event ?hg (N := 2) ?hd (cs := #[.int .i64 a0_0, .slice A0_1 l0_1.length c0_1]) (t := 24) ?hr ?_; (case hd => rfl); (case hg => rfl); (case hr => first | (go_simp; done) | (go_simp; rfl)); intro gb107 hg w5 hbox hb; have n0_ := Aside0.mk (below_step zB hb); have n1_ := Aside0.mk (hbox); have n2_ := Aside0.mk ((by rw [hg]; exact (below_size zB) : w.heap.size ≤ gb107)); have n3_ := Aside0.mk ((by rw [hg]; exact (below_size zB) : w.heap.size ≤ gb107)); clear HB; have HB := n0_; have BK107 := n1_; have GW107 := n2_; have GE107 := n3_; clear n0_ n1_ n2_ n3_; clear hb hbox hg; have hcz6_0 : w5.cell? ⟨gb107, 0, none⟩ = some (.int .i64 a0_0) := (blk_cell BK107.out 0).trans rfl; have hcz6_1 : w5.cell? ⟨gb107, 1, none⟩ = some (.slice A0_1 l0_1.length c0_1) := (blk_cell BK107.out 1).trans rfl; have hfz6_0 := blk_frozen BK107.out 0; have hfz6_1 := blk_frozen BK107.out 1) | ((with_reducible refine gate_callee (f := 27) rfl ?_); refine goesL_ (some 9) rfl rfl Try.func27 zK rfl #[.agg #[.int .i64 a0_0, .slice A0_1 l0_1.length c0_1]] rfl zM ?_; (with_reducible refine (dag_Valid.calls k a0_0 _ _ l0_1 t108 _ ?side1 ?side2 A3.out).mono ?_); (case side1 => repeat (first | exact (Kd.C_below HR0_1.out HB.out) | (with_reducible refine Kd.C_alloc ?_ _) | (with_reducible refine Kd.C_drewN ?_ _) | (with_reducible refine Kd.C_drew ?_))); (case side2 => exact HC0_1.out); rintro e w7 ⟨rfl, hb⟩; refine ⟨_, rfl, ?_⟩; have n0_ := Aside0.mk (blk_below (g := gb107) (o := .cells #[.int .i64 a0_0, .slice A0_1 l0_1.length c0_1] 24 (0, 0)) (zk BK107) hb); have n1_ := Aside0.mk (below_step zB hb); clear BK107; clear HB; have BK107 := n0_; have HB := n1_; clear n0_ n1_; (try clear hb); (try clear hb2); (try clear hk); (try clear hi)))
 (try simp only [Act.put, List.setIfInBounds_toArray, List.set_cons_zero, List.set_cons_succ])
 have H := HC4.out
 clear HC4
 by_cases c8 : t108 = 0
 ·rw [if_pos c8] at H
  have c8b0 : (t108 == 0) = true := beq_iff_eq.mpr c8
  have c8b1 : (t108 != 0) = false := bne_eq_false_iff_eq.mpr c8
  clear c8
  (first | rw [c8b0] | (simp only [i64_w, i32_w]; rw [c8b0]) | skip)
  (try rw [c8b1])
  have H' := Aside0.mk H
  clear H
  go_wp2
  go_loopg [5, 13] k (fun kq v5 v13 w' => ∃ (x5_1 : Int) (x13_1 : Int), v5 = .int .i64 x5_1 ∧ v13 = .int .i64 x13_1 ∧ Aside0 (dag_Check.l0 kq x5_1 l1 (l1.length : Int) x13_1 a0_0 l0_1 = some r) ∧ Aside0 (kq ≤ k) ∧ Aside0 (w'.heap[gb107]? = some (.cells #[.int .i64 a0_0, (.slice A0_1 l0_1.length c0_1)] 24 (0, 0))) ∧ Aside0 (Below w.heap.size w w'))
  case atStart => exact ⟨(0), (0), zT, zT, H', ⟨Nat.le_refl _⟩, ⟨by (with_reducible repeat (first | refine blk_drewN ?_ _ | refine blk_drew ?_ | refine blk_alloc ?_ _)); exact BK107.out⟩, ⟨by repeat (first | (with_reducible first | exact HB.out | apply below_alloc | apply pw_below_drewN | apply below_drew1 | refine below_set ?_ GE107.out) | exact HB.out)⟩⟩
  case round =>
   clear H'
   try clear c8
   try clear c8b0
   try clear c8b1
   try clear hcz6_0
   try clear hcz6_1
   try clear hfz6_0
   try clear hfz6_1
   obtain ⟨x5_1, x13_1, rfl, rfl, HA, HK1, BK107, HB⟩ := hrel
   cases gk with
   | zero => exact absurd HA.out (by simp [dag_Check.l0])
   | succ k1 =>
    have H := HA.out
    clear HA
    simp only [dag_Check.l0] at H
    by_cases c9 : x13_1 < (l1.length : Int)
    ·rw [if_pos c9] at H
     have c9b0 : decide (x13_1 < (l1.length : Int)) = true := decide_eq_true c9
     clear c9
     by_cases c10 : 0 ≤ x13_1
     ·rw [if_pos c10] at H
      have c10b0 : decide (0 ≤ x13_1) = true := decide_eq_true c10
      clear c10
      by_cases c11 : x13_1 < (l1.length : Int)
      ·rw [if_pos c11] at H
       have c11b0 : decide (x13_1 < (l1.length : Int)) = true := decide_eq_true c11
       clear c11
       by_cases c12 : (rd l1 x13_1) < 0
       ·rw [if_pos c12] at H
        have c12b0 : decide ((rd l1 x13_1) < 0) = true := decide_eq_true c12
        clear c12
        obtain rfl := Option.some.inj H
        have p109 : 0 ≤ (x13_1 : Int) := of_decide_eq_true zh
        have q109 : x13_1 < (l1.length : Int) := of_decide_eq_true zh
        obtain ⟨ad109, e109, hx109_0⟩ := Kd.at_int HR1.out x13_1 p109 q109
        cases e109
        replace hx109_0 := (HB.out.cell (World.block_lt_of_cell? w _ hx109_0)).trans hx109_0
        replace p109 := eq_true p109
        replace q109 := eq_true q109
        go_wp2
        go_ret
        exact ⟨by first | rfl | (simp [errW_none, errW_some] <;> rfl) | (simp [*, errW_none, errW_some] <;> rfl), by repeat (first | (with_reducible first | exact HB.out | apply below_alloc | apply pw_below_drewN | apply below_drew1 | refine below_set ?_ GE107.out) | exact HB.out)⟩
       ·rw [if_neg c12] at H
        have c12b0 : decide ((rd l1 x13_1) < 0) = false := decide_eq_false c12
        clear c12
        by_cases c13 : (rd l1 x13_1) ≥ (l0_1.length : Int)
        ·rw [if_pos c13] at H
         have c13b0 : decide ((l0_1.length : Int) ≤ (rd l1 x13_1)) = true := decide_eq_true c13
         clear c13
         obtain rfl := Option.some.inj H
         have p109 : 0 ≤ (x13_1 : Int) := of_decide_eq_true zh
         have q109 : x13_1 < (l1.length : Int) := of_decide_eq_true zh
         obtain ⟨ad109, e109, hx109_0⟩ := Kd.at_int HR1.out x13_1 p109 q109
         cases e109
         replace hx109_0 := (HB.out.cell (World.block_lt_of_cell? w _ hx109_0)).trans hx109_0
         replace p109 := eq_true p109
         replace q109 := eq_true q109
         have hcz14_0 : wr.cell? ⟨gb107, 0, none⟩ = some (.int .i64 a0_0) := (blk_cell BK107.out 0).trans rfl
         have hcz14_1 : wr.cell? ⟨gb107, 1, none⟩ = some (.slice A0_1 l0_1.length c0_1) := (blk_cell BK107.out 1).trans rfl
         have hfz14_0 := blk_frozen BK107.out 0
         have hfz14_1 := blk_frozen BK107.out 1
         go_wp2
         go_ret
         exact ⟨by first | rfl | (simp [errW_none, errW_some] <;> rfl) | (simp [*, errW_none, errW_some] <;> rfl), by repeat (first | (with_reducible first | exact HB.out | apply below_alloc | apply pw_below_drewN | apply below_drew1 | refine below_set ?_ GE107.out) | exact HB.out)⟩
        ·rw [if_neg c13] at H
         have c13b0 : decide ((l0_1.length : Int) ≤ (rd l1 x13_1)) = false := decide_eq_false c13
         clear c13
         by_cases c15 : 0 ≤ (rd l1 x13_1)
         ·rw [if_pos c15] at H
          have c15b0 : decide (0 ≤ (rd l1 x13_1)) = true := decide_eq_true c15
          clear c15
          by_cases c16 : (rd l1 x13_1) < (l0_1.length : Int)
          ·rw [if_pos c16] at H
           have c16b0 : decide ((rd l1 x13_1) < (l0_1.length : Int)) = true := decide_eq_true c16
           clear c16
           by_cases c17 : ((rd_T69 l0_1 (rd l1 x13_1)).f0) = x5_1
           ·rw [if_pos c17] at H
            have c17b0 : (((rd_T69 l0_1 (rd l1 x13_1)).f0) == x5_1) = true := beq_iff_eq.mpr c17
            have c17b1 : (((rd_T69 l0_1 (rd l1 x13_1)).f0) != x5_1) = false := bne_eq_false_iff_eq.mpr c17
            clear c17
            have H' := Aside0.mk H
            clear H
            have p109 : 0 ≤ (x13_1 : Int) := of_decide_eq_true zh
            have q109 : x13_1 < (l1.length : Int) := of_decide_eq_true zh
            obtain ⟨ad109, e109, hx109_0⟩ := Kd.at_int HR1.out x13_1 p109 q109
            cases e109
            replace hx109_0 := (HB.out.cell (World.block_lt_of_cell? w _ hx109_0)).trans hx109_0
            replace p109 := eq_true p109
            replace q109 := eq_true q109
            have hcz18_0 : wr.cell? ⟨gb107, 0, none⟩ = some (.int .i64 a0_0) := (blk_cell BK107.out 0).trans rfl
            have hcz18_1 : wr.cell? ⟨gb107, 1, none⟩ = some (.slice A0_1 l0_1.length c0_1) := (blk_cell BK107.out 1).trans rfl
            have hfz18_0 := blk_frozen BK107.out 0
            have hfz18_1 := blk_frozen BK107.out 1
            have p110 : 0 ≤ ((rd l1 x13_1) : Int) := of_decide_eq_true zh
            have q110 : (rd l1 x13_1) < (l0_1.length : Int) := of_decide_eq_true zh
            obtain ⟨ad110, e110, hx110_0, hx110_1, hx110_2⟩ := at_T69 HR0_1.out (rd l1 x13_1) p110 q110
            cases e110
            replace hx110_0 := (HB.out.cell (World.block_lt_of_cell? w _ hx110_0)).trans hx110_0
            replace hx110_1 := (HB.out.cell (World.block_lt_of_cell? w _ hx110_1)).trans hx110_1
            replace hx110_2 := (HB.out.cell (World.block_lt_of_cell? w _ hx110_2)).trans hx110_2
            replace p110 := eq_true p110
            replace q110 := eq_true q110
            have p111 : 0 ≤ ((rd l1 x13_1) : Int) := of_decide_eq_true zh
            have q111 : (rd l1 x13_1) < (l0_1.length : Int) := of_decide_eq_true zh
            obtain ⟨ad111, e111, hx111_0, hx111_1, hx111_2⟩ := at_T69 HR0_1.out (rd l1 x13_1) p111 q111
            obtain rfl : ad110 = ad111 := (by injection e111)
            replace hx111_0 := (HB.out.cell (World.block_lt_of_cell? w _ hx111_0)).trans hx111_0
            replace hx111_1 := (HB.out.cell (World.block_lt_of_cell? w _ hx111_1)).trans hx111_1
            replace hx111_2 := (HB.out.cell (World.block_lt_of_cell? w _ hx111_2)).trans hx111_2
            replace p111 := eq_true p111
            replace q111 := eq_true q111
            go_wp2
            go_roundg k1
            case measure => have := HK1.out; omega
            case rel => exact ⟨((rd_T69 l0_1 (rd l1 x13_1)).f1), (wrap64 (x13_1 + 1)), zT, zT, H', ⟨by have := HK1.out; omega⟩, ⟨by (with_reducible repeat (first | refine blk_drewN ?_ _ | refine blk_drew ?_ | refine blk_alloc ?_ _)); exact BK107.out⟩, ⟨by repeat (first | (with_reducible first | exact HB.out | apply below_alloc | apply pw_below_drewN | apply below_drew1 | refine below_set ?_ GE107.out) | exact HB.out)⟩⟩
           ·rw [if_neg c17] at H
            have c17b0 : (((rd_T69 l0_1 (rd l1 x13_1)).f0) == x5_1) = false := beq_eq_false_iff_ne.mpr c17
            have c17b1 : (((rd_T69 l0_1 (rd l1 x13_1)).f0) != x5_1) = true := bne_iff_ne.mpr c17
            obtain rfl := Option.some.inj H
            have p109 : 0 ≤ (x13_1 : Int) := of_decide_eq_true zh
            have q109 : x13_1 < (l1.length : Int) := of_decide_eq_true zh
            obtain ⟨ad109, e109, hx109_0⟩ := Kd.at_int HR1.out x13_1 p109 q109
            cases e109
            replace hx109_0 := (HB.out.cell (World.block_lt_of_cell? w _ hx109_0)).trans hx109_0
            replace p109 := eq_true p109
            replace q109 := eq_true q109
            have hcz19_0 : wr.cell? ⟨gb107, 0, none⟩ = some (.int .i64 a0_0) := (blk_cell BK107.out 0).trans rfl
            have hcz19_1 : wr.cell? ⟨gb107, 1, none⟩ = some (.slice A0_1 l0_1.length c0_1) := (blk_cell BK107.out 1).trans rfl
            have hfz19_0 := blk_frozen BK107.out 0
            have hfz19_1 := blk_frozen BK107.out 1
            have p110 : 0 ≤ ((rd l1 x13_1) : Int) := of_decide_eq_true zh
            have q110 : (rd l1 x13_1) < (l0_1.length : Int) := of_decide_eq_true zh
            obtain ⟨ad110, e110, hx110_0, hx110_1, hx110_2⟩ := at_T69 HR0_1.out (rd l1 x13_1) p110 q110
            cases e110
            replace hx110_0 := (HB.out.cell (World.block_lt_of_cell? w _ hx110_0)).trans hx110_0
            replace hx110_1 := (HB.out.cell (World.block_lt_of_cell? w _ hx110_1)).trans hx110_1
            replace hx110_2 := (HB.out.cell (World.block_lt_of_cell? w _ hx110_2)).trans hx110_2
            replace p110 := eq_true p110
            replace q110 := eq_true q110
            go_wp2
            go_ret
            exact ⟨by first | rfl | (simp [errW_none, errW_some] <;> rfl) | (simp [*, errW_none, errW_some] <;> rfl), by repeat (first | (with_reducible first | exact HB.out | apply below_alloc | apply pw_below_drewN | apply below_drew1 | refine below_set ?_ GE107.out) | exact HB.out)⟩
          ·rw [if_neg c16] at H
           exact absurd H (by simp)
         ·rw [if_neg c15] at H
          exact absurd H (by simp)
      ·rw [if_neg c11] at H
       exact absurd H (by simp)
     ·rw [if_neg c10] at H
      exact absurd H (by simp)
    ·rw [if_neg c9] at H
     have c9b0 : decide (x13_1 < (l1.length : Int)) = false := decide_eq_false c9
     clear c9
     obtain rfl := Option.some.inj H
     have hcz20_0 : wr.cell? ⟨gb107, 0, none⟩ = some (.int .i64 a0_0) := (blk_cell BK107.out 0).trans rfl
     have hcz20_1 : wr.cell? ⟨gb107, 1, none⟩ = some (.slice A0_1 l0_1.length c0_1) := (blk_cell BK107.out 1).trans rfl
     have hfz20_0 := blk_frozen BK107.out 0
     have hfz20_1 := blk_frozen BK107.out 1
     go_wp2
     go_ret
     exact ⟨by first | rfl | (simp [errW_none, errW_some] <;> rfl) | (simp [*, errW_none, errW_some] <;> rfl), by repeat (first | (with_reducible first | exact HB.out | apply below_alloc | apply pw_below_drewN | apply below_drew1 | refine below_set ?_ GE107.out) | exact HB.out)⟩
 ·rw [if_neg c8] at H
  have c8b0 : (t108 == 0) = false := beq_eq_false_iff_ne.mpr c8
  have c8b1 : (t108 != 0) = true := bne_iff_ne.mpr c8
  (first | rw [c8b0] | (simp only [i64_w, i32_w]; rw [c8b0]) | skip)
  (try rw [c8b1])
  obtain rfl := Option.some.inj H
  go_wp2
  go_ret
  exact ⟨by first | rfl | (simp [errW_none, errW_some] <;> rfl) | (simp [*, errW_none, errW_some] <;> rfl), by repeat (first | (with_reducible first | exact HB.out | apply below_alloc | apply pw_below_drewN | apply below_drew1 | refine below_set ?_ GE107.out) | exact HB.out)⟩
/-! ### dag_Cost: function 15 -/
def dag_Cost.l0 : Nat → Int → List Int → Int → Int → Int → List (S69) → Option (Int × Int)
 | 0, _, _, _, _, _, _ => none
 | k + 1, x7, x19, x20, x21, x113000, x113001 => if x21 < x20 then (if 0 ≤ x21 then (if x21 < (x19.length : Int) then (if 0 ≤ (rd x19 x21) then (if (rd x19 x21) < (x113001.length : Int) then (dag_Cost.l0 k (wrap64 (x7 + ((rd_T69 x113001 (rd x19 x21)).f2))) x19 x20 (wrap64 (x21 + 1)) x113000 x113001) else (none)) else (none)) else (none)) else (none)) else (some (x7, 0))
def dag_Cost.f (k : Nat) (a0_0 : Int) (l0_1 : List (S69)) (l1 : List Int) : Option (Int × Int) := (dag_Valid.f k a0_0 l0_1).bind fun t113 => (if t113 = 0 then ((dag_Check.f k a0_0 l0_1 l1).bind fun t114 => (if t114 = true then (dag_Cost.l0 k 0 l1 (l1.length : Int) 0 a0_0 l0_1) else (some (0, 1)))) else (some (0, t113)))
theorem dag_Cost.mono_l : ∀ k, (∀ y0 y1 y2 y3 y4 y5, LeO (dag_Cost.l0 k y0 y1 y2 y3 y4 y5) (dag_Cost.l0 (k + 1) y0 y1 y2 y3 y4 y5))
 | 0 => fun _ _ _ _ _ _ r h => by simp [dag_Cost.l0] at h
 | k + 1 => by
  have ih0 := dag_Cost.mono_l k
  ·intro y0 y1 y2 y3 y4 y5
   unfold dag_Cost.l0
   repeat' first
   | (with_reducible exact ih0 _ _ _ _ _ _)
   | (with_reducible exact dag_Check.mono _ _ _ _)
   | (with_reducible exact dag_Valid.mono _ _ _)
   | (with_reducible exact LeO.refl _)
   | (with_reducible exact LeO.none _)
   | (with_reducible refine LeO.ite ?_ ?_)
   | (with_reducible refine LeO.bind ?_ (fun _ => ?_))
   | exact ih0 _ _ _ _ _ _
   | exact dag_Check.mono _ _ _ _
   | exact dag_Valid.mono _ _ _
   | exact LeO.none _
   | refine LeO.ite ?_ ?_
   | refine LeO.bind ?_ (fun _ => ?_)
theorem dag_Cost.mono : ∀ a0 a1 a2 k, LeO (dag_Cost.f k a0 a1 a2) (dag_Cost.f (k + 1) a0 a1 a2) := by
 intro a0 a1 a2 k
 have ih0 := dag_Cost.mono_l k
 unfold dag_Cost.f
 repeat' first
   | (with_reducible exact ih0 _ _ _ _ _ _)
   | (with_reducible exact dag_Check.mono _ _ _ _)
   | (with_reducible exact dag_Valid.mono _ _ _)
   | (with_reducible exact LeO.refl _)
   | (with_reducible exact LeO.none _)
   | (with_reducible refine LeO.ite ?_ ?_)
   | (with_reducible refine LeO.bind ?_ (fun _ => ?_))
   | exact ih0 _ _ _ _ _ _
   | exact dag_Check.mono _ _ _ _
   | exact dag_Valid.mono _ _ _
   | exact LeO.none _
   | refine LeO.ite ?_ ?_
   | refine LeO.bind ?_ (fun _ => ?_)
set_option maxHeartbeats 8000000 in
set_option maxRecDepth 100000 in
theorem dag_Cost.calls (k : Nat) (a0_0 : Int) (A0_1 : Option Addr) (c0_1 : Nat) (l0_1 : List (S69)) (A1 : Option Addr) (c1 : Nat) (l1 : List Int) (r1 : Int) (r2 : Int) (w : World) (hr0_1 : Kd.C k69 w A0_1 l0_1.length l0_1) (hc0_1 : l0_1.length ≤ c0_1) (hr1 : Kd.C (Kd.int .i64) w A1 l1.length l1) (hc1 : l1.length ≤ c1) (h : dag_Cost.f k a0_0 l0_1 l1 = some (r1, r2)) :
  Calls Try.prog 15 #[.agg #[.int .i64 a0_0, .slice A0_1 l0_1.length c0_1], .slice A1 l1.length c1] w fun e w' => e = .returned (.tuple #[.int .i64 r1, .int .i64 r2]) ∧ Below w.heap.size w w' := by
 have hu24 := Try.underlying24
 have hu3 := Try.underlying3
 have hu22 := Try.underlying22
 have HR0_1 := Aside0.mk hr0_1
 have HC0_1 := Aside0.mk hc0_1
 clear hr0_1 hc0_1
 have HR1 := Aside0.mk hr1
 have HC1 := Aside0.mk hc1
 clear hr1 hc1
 have HB := Aside0.mk (Below.refl w.heap.size w)
 have H : ((dag_Valid.f k a0_0 l0_1).bind fun t113 => (if t113 = 0 then ((dag_Check.f k a0_0 l0_1 l1).bind fun t114 => (if t114 = true then (dag_Cost.l0 k 0 l1 (l1.length : Int) 0 a0_0 l0_1) else (some (0, 1)))) else (some (0, t113)))) = some (r1, r2) := h
 clear h
 replace H := Option.bind_eq_some_iff.mp H
 obtain ⟨t113, A30, H⟩ := H
 replace H : (if t113 = 0 then ((dag_Check.f k a0_0 l0_1 l1).bind fun t114 => (if t114 = true then (dag_Cost.l0 k 0 l1 (l1.length : Int) 0 a0_0 l0_1) else (some (0, 1)))) else (some (0, t113))) = some (r1, r2) := H
 have A3 := Aside0.mk A30
 clear A30
 have HC4 := Aside0.mk H
 clear H
 go_enter Try.func15, Try.ntmps15
 go_upto_if 13 with (first | ((with_reducible refine gate_dst (N := 2) rfl ?_); refine box_event ?hg (N := 2) ?hd (cs := #[.int .i64 a0_0, .slice A0_1 l0_1.length c0_1]) (t := 24) ?hr ?_; (case hd => rfl); (case hg => rfl); (case hr => first | (go_simp; done) | (go_simp; rfl)); intro gb112 hg w5 hbox hb; have n0_ := Aside0.mk (below_step zB hb); have n1_ := Aside0.mk (hbox); have n2_ := Aside0.mk ((by rw [hg]; exact (below_size zB) : w.heap.size ≤ gb112)); have n3_ := Aside0.mk ((by rw [hg]; exact (below_size zB) : w.heap.size ≤ gb112)); clear HB; have HB := n0_; have BK112 := n1_; have GW112 := n2_; have GE112 := n3_; clear n0_ n1_ n2_ n3_; clear hb hbox hg; have hcz6_0 : w5.cell? ⟨gb112, 0, none⟩ = some (.int .i64 a0_0) := (blk_cell BK112.out 0).trans rfl; have hcz6_1 : w5.cell? ⟨gb112, 1, none⟩ = some (.slice A0_1 l0_1.length c0_1) := (blk_cell BK112.out 1).trans rfl; have hfz6_0 := blk_frozen BK112.out 0; have hfz6_1 := blk_frozen BK112.out 1) | ((with_reducible refine gate_callee (f := 27) rfl ?_); refine goesL_ (some 11) rfl rfl Try.func27 zK rfl #[.agg #[.int .i64 a0_0, .slice A0_1 l0_1.length c0_1]] rfl zM ?_; (with_reducible refine (dag_Valid.calls k a0_0 _ _ l0_1 t113 _ ?side1 ?side2 A3.out).mono ?_); (case side1 => repeat (first | exact (Kd.C_below HR0_1.out HB.out) | (with_reducible refine Kd.C_alloc ?_ _) | (with_reducible refine Kd.C_drewN ?_ _) | (with_reducible refine Kd.C_drew ?_))); (case side2 => exact HC0_1.out); rintro e w7 ⟨rfl, hb⟩; refine ⟨_, rfl, ?_⟩; have n0_ := Aside0.mk (blk_below (g := gb112) (o := .cells #[.int .i64 a0_0, .slice A0_1 l0_1.length c0_1] 24 (0, 0)) (zk BK112) hb); have n1_ := Aside0.mk (below_step zB hb); clear BK112; clear HB; have BK112 := n0_; have HB := n1_; clear n0_ n1_; (try clear hb); (try clear hb2); (try clear hk); (try clear hi)))
 (try simp only [Act.put, List.setIfInBounds_toArray, List.set_cons_zero, List.set_cons_succ])
 have H := HC4.out
 clear HC4
 by_cases c8 : t113 = 0
 ·rw [if_pos c8] at H
  have c8b0 : (t113 == 0) = true := beq_iff_eq.mpr c8
  have c8b1 : (t113 != 0) = false := bne_eq_false_iff_eq.mpr c8
  clear c8
  (first | rw [c8b0] | (simp only [i64_w, i32_w]; rw [c8b0]) | skip)
  (try rw [c8b1])
  replace H := Option.bind_eq_some_iff.mp H
  obtain ⟨t114, A90, H⟩ := H
  replace H : (if t114 = true then (dag_Cost.l0 k 0 l1 (l1.length : Int) 0 a0_0 l0_1) else (some (0, 1))) = some (r1, r2) := H
  have A9 := Aside0.mk A90
  clear A90
  have HC10 := Aside0.mk H
  clear H
  have hcz11_0 : w7.cell? ⟨gb112, 0, none⟩ = some (.int .i64 a0_0) := (blk_cell BK112.out 0).trans rfl
  have hcz11_1 : w7.cell? ⟨gb112, 1, none⟩ = some (.slice A0_1 l0_1.length c0_1) := (blk_cell BK112.out 1).trans rfl
  have hfz11_0 := blk_frozen BK112.out 0
  have hfz11_1 := blk_frozen BK112.out 1
  go_upto_if 18 with (first | ((with_reducible refine gate_callee (f := 17) rfl ?_); refine goesL_ (some 17) rfl rfl Try.func17 zK rfl #[.agg #[.int .i64 a0_0, .slice A0_1 l0_1.length c0_1], .slice A1 l1.length c1] rfl zM ?_; (with_reducible refine (dag_Check.calls k a0_0 _ _ l0_1 _ _ l1 t114 _ ?side1 ?side2 ?side3 ?side4 A9.out).mono ?_); (case side1 => repeat (first | exact (Kd.C_below HR0_1.out HB.out) | (with_reducible refine Kd.C_alloc ?_ _) | (with_reducible refine Kd.C_drewN ?_ _) | (with_reducible refine Kd.C_drew ?_))); (case side2 => exact HC0_1.out); (case side3 => repeat (first | exact (Kd.C_below HR1.out HB.out) | (with_reducible refine Kd.C_alloc ?_ _) | (with_reducible refine Kd.C_drewN ?_ _) | (with_reducible refine Kd.C_drew ?_))); (case side4 => exact HC1.out); rintro e w12 ⟨rfl, hb⟩; refine ⟨_, rfl, ?_⟩; have n0_ := Aside0.mk (blk_below (g := gb112) (o := .cells #[.int .i64 a0_0, .slice A0_1 l0_1.length c0_1] 24 (0, 0)) (zk BK112) hb); have n1_ := Aside0.mk (below_step zB hb); clear BK112; clear HB; have BK112 := n0_; have HB := n1_; clear n0_ n1_; (try clear hb); (try clear hb2); (try clear hk); (try clear hi)))
  (try simp only [Act.put, List.setIfInBounds_toArray, List.set_cons_zero, List.set_cons_succ])
  have H := HC10.out
  clear HC10
  by_cases c13 : t114 = true
  ·subst c13
   have H1 : (dag_Cost.l0 k 0 l1 (l1.length : Int) 0 a0_0 l0_1) = some (r1, r2) := by rw [if_pos rfl] at H; exact H
   clear H
   have H := H1
   clear H1
   have H' := Aside0.mk H
   clear H
   go_wp2
   go_loopg [7, 21] k (fun kq v7 v21 w' => ∃ (x7_1 : Int) (x21_1 : Int), v7 = .int .i64 x7_1 ∧ v21 = .int .i64 x21_1 ∧ Aside0 (dag_Cost.l0 kq x7_1 l1 (l1.length : Int) x21_1 a0_0 l0_1 = some (r1, r2)) ∧ Aside0 (kq ≤ k) ∧ Aside0 (w'.heap[gb112]? = some (.cells #[.int .i64 a0_0, (.slice A0_1 l0_1.length c0_1)] 24 (0, 0))) ∧ Aside0 (Below w.heap.size w w'))
   case atStart => exact ⟨(0), (0), zT, zT, H', ⟨Nat.le_refl _⟩, ⟨by (with_reducible repeat (first | refine blk_drewN ?_ _ | refine blk_drew ?_ | refine blk_alloc ?_ _)); exact BK112.out⟩, ⟨by repeat (first | (with_reducible first | exact HB.out | apply below_alloc | apply pw_below_drewN | apply below_drew1 | refine below_set ?_ GE112.out) | exact HB.out)⟩⟩
   case round =>
    clear H'
    try clear c1
    try clear c8
    try clear c8b0
    try clear c8b1
    try clear c13
    try clear hcz11_0
    try clear hcz11_1
    try clear hcz6_0
    try clear hcz6_1
    try clear hfz11_0
    try clear hfz11_1
    try clear hfz6_0
    try clear hfz6_1
    obtain ⟨x7_1, x21_1, rfl, rfl, HA, HK1, BK112, HB⟩ := hrel
    cases gk with
    | zero => exact absurd HA.out (by simp [dag_Cost.l0])
    | succ k1 =>
     have H := HA.out
     clear HA
     simp only [dag_Cost.l0] at H
     by_cases c14 : x21_1 < (l1.length : Int)
     ·rw [if_pos c14] at H
      have c14b0 : decide (x21_1 < (l1.length : Int)) = true := decide_eq_true c14
      clear c14
      (first | rw [c14b0] | (simp only [i64_w, i32_w]; rw [c14b0]) | skip)
      by_cases c15 : 0 ≤ x21_1
      ·rw [if_pos c15] at H
       have c15b0 : decide (0 ≤ x21_1) = true := decide_eq_true c15
       clear c15
       by_cases c16 : x21_1 < (l1.length : Int)
       ·rw [if_pos c16] at H
        have c16b0 : decide (x21_1 < (l1.length : Int)) = true := decide_eq_true c16
        clear c16
        by_cases c17 : 0 ≤ (rd l1 x21_1)
        ·rw [if_pos c17] at H
         have c17b0 : decide (0 ≤ (rd l1 x21_1)) = true := decide_eq_true c17
         clear c17
         by_cases c18 : (rd l1 x21_1) < (l0_1.length : Int)
         ·rw [if_pos c18] at H
          have c18b0 : decide ((rd l1 x21_1) < (l0_1.length : Int)) = true := decide_eq_true c18
          clear c18
          have H' := Aside0.mk H
          clear H
          have p115 : 0 ≤ (x21_1 : Int) := of_decide_eq_true zh
          have q115 : x21_1 < (l1.length : Int) := of_decide_eq_true zh
          obtain ⟨ad115, e115, hx115_0⟩ := Kd.at_int HR1.out x21_1 p115 q115
          cases e115
          replace hx115_0 := (HB.out.cell (World.block_lt_of_cell? w _ hx115_0)).trans hx115_0
          replace p115 := eq_true p115
          replace q115 := eq_true q115
          have hcz19_0 : wr.cell? ⟨gb112, 0, none⟩ = some (.int .i64 a0_0) := (blk_cell BK112.out 0).trans rfl
          have hcz19_1 : wr.cell? ⟨gb112, 1, none⟩ = some (.slice A0_1 l0_1.length c0_1) := (blk_cell BK112.out 1).trans rfl
          have hfz19_0 := blk_frozen BK112.out 0
          have hfz19_1 := blk_frozen BK112.out 1
          have p116 : 0 ≤ ((rd l1 x21_1) : Int) := of_decide_eq_true zh
          have q116 : (rd l1 x21_1) < (l0_1.length : Int) := of_decide_eq_true zh
          obtain ⟨ad116, e116, hx116_0, hx116_1, hx116_2⟩ := at_T69 HR0_1.out (rd l1 x21_1) p116 q116
          cases e116
          replace hx116_0 := (HB.out.cell (World.block_lt_of_cell? w _ hx116_0)).trans hx116_0
          replace hx116_1 := (HB.out.cell (World.block_lt_of_cell? w _ hx116_1)).trans hx116_1
          replace hx116_2 := (HB.out.cell (World.block_lt_of_cell? w _ hx116_2)).trans hx116_2
          replace p116 := eq_true p116
          replace q116 := eq_true q116
          go_wp2
          go_roundg k1
          case measure => have := HK1.out; omega
          case rel => exact ⟨(wrap64 (x7_1 + ((rd_T69 l0_1 (rd l1 x21_1)).f2))), (wrap64 (x21_1 + 1)), zT, zT, H', ⟨by have := HK1.out; omega⟩, ⟨by (with_reducible repeat (first | refine blk_drewN ?_ _ | refine blk_drew ?_ | refine blk_alloc ?_ _)); exact BK112.out⟩, ⟨by repeat (first | (with_reducible first | exact HB.out | apply below_alloc | apply pw_below_drewN | apply below_drew1 | refine below_set ?_ GE112.out) | exact HB.out)⟩⟩
         ·rw [if_neg c18] at H
          exact absurd H (by simp)
        ·rw [if_neg c17] at H
         exact absurd H (by simp)
       ·rw [if_neg c16] at H
        exact absurd H (by simp)
      ·rw [if_neg c15] at H
       exact absurd H (by simp)
     ·rw [if_neg c14] at H
      have c14b0 : decide (x21_1 < (l1.length : Int)) = false := decide_eq_false c14
      clear c14
      (first | rw [c14b0] | (simp only [i64_w, i32_w]; rw [c14b0]) | skip)
      simp only [Option.some.injEq, Prod.mk.injEq] at H
      obtain ⟨rfl, rfl⟩ := H
      go_wp2
      go_ret2
      exact ⟨by first | rfl | (simp [errW_none, errW_some] <;> rfl) | (simp [*, errW_none, errW_some] <;> rfl), by repeat (first | (with_reducible first | exact HB.out | apply below_alloc | apply pw_below_drewN | apply below_drew1 | refine below_set ?_ GE112.out) | exact HB.out)⟩
  ·replace c13 := Bool.eq_false_iff.mpr c13
   subst c13
   have H1 : (some (0, 1)) = some (r1, r2) := by rw [if_neg (show ¬ (false = true) by decide)] at H; exact H
   clear H
   have H := H1
   clear H1
   simp only [Option.some.injEq, Prod.mk.injEq] at H
   obtain ⟨rfl, rfl⟩ := H
   go_wp2
   go_ret2
   exact ⟨by first | rfl | (simp [errW_none, errW_some] <;> rfl) | (simp [*, errW_none, errW_some] <;> rfl), by repeat (first | (with_reducible first | exact HB.out | apply below_alloc | apply pw_below_drewN | apply below_drew1 | refine below_set ?_ GE112.out) | exact HB.out)⟩
 ·rw [if_neg c8] at H
  have c8b0 : (t113 == 0) = false := beq_eq_false_iff_ne.mpr c8
  have c8b1 : (t113 != 0) = true := bne_iff_ne.mpr c8
  (first | rw [c8b0] | (simp only [i64_w, i32_w]; rw [c8b0]) | skip)
  (try rw [c8b1])
  simp only [Option.some.injEq, Prod.mk.injEq] at H
  obtain ⟨rfl, rfl⟩ := H
  go_wp2
  go_ret2
  exact ⟨by first | rfl | (simp [errW_none, errW_some] <;> rfl) | (simp [*, errW_none, errW_some] <;> rfl), by repeat (first | (with_reducible first | exact HB.out | apply below_alloc | apply pw_below_drewN | apply below_drew1 | refine below_set ?_ GE112.out) | exact HB.out)⟩
/-! ### dag_byFrom: function 58 -/
def dag_byFrom.l0 : Nat → List (List Int) → List (S69) → Int → Int → Option ((List (List Int)))
 | 0, _, _, _, _ => none
 | k + 1, x3, x10, x11, x12 => if x12 < x11 then (if 0 ≤ x12 then (if x12 < (x10.length : Int) then (if 0 ≤ ((rd_T69 x10 x12).f0) then (if ((rd_T69 x10 x12).f0) < (x3.length : Int) then (if (rd_L2 x3 ((rd_T69 x10 x12).f0)).length < 17592186044416 then (dag_byFrom.l0 k (x3.set (((rd_T69 x10 x12).f0) : Int).toNat ((rd_L2 x3 ((rd_T69 x10 x12).f0)) ++ [x12])) x10 x11 (wrap64 (x12 + 1))) else (none)) else (none)) else (none)) else (none)) else (none)) else (some x3)
def dag_byFrom.f (k : Nat) (a0_0 : Int) (l0_1 : List (S69)) : Option ((List (List Int))) := if 0 ≤ a0_0 then (if (a0_0 : Int).toNat ≤ 11728124029610 then (dag_byFrom.l0 k (List.replicate (a0_0 : Int).toNat []) l0_1 (l0_1.length : Int) 0) else (none)) else (none)
theorem dag_byFrom.mono_l : ∀ k, (∀ y0 y1 y2 y3, LeO (dag_byFrom.l0 k y0 y1 y2 y3) (dag_byFrom.l0 (k + 1) y0 y1 y2 y3))
 | 0 => fun _ _ _ _ r h => by simp [dag_byFrom.l0] at h
 | k + 1 => by
  have ih0 := dag_byFrom.mono_l k
  ·intro y0 y1 y2 y3
   unfold dag_byFrom.l0
   repeat' first
   | (with_reducible exact ih0 _ _ _ _)
   | (with_reducible exact LeO.refl _)
   | (with_reducible exact LeO.none _)
   | (with_reducible refine LeO.ite ?_ ?_)
   | (with_reducible refine LeO.bind ?_ (fun _ => ?_))
   | exact ih0 _ _ _ _
   | exact LeO.none _
   | refine LeO.ite ?_ ?_
   | refine LeO.bind ?_ (fun _ => ?_)
theorem dag_byFrom.mono : ∀ a0 a1 k, LeO (dag_byFrom.f k a0 a1) (dag_byFrom.f (k + 1) a0 a1) := by
 intro a0 a1 k
 have ih0 := dag_byFrom.mono_l k
 unfold dag_byFrom.f
 repeat' first
   | (with_reducible exact ih0 _ _ _ _)
   | (with_reducible exact LeO.refl _)
   | (with_reducible exact LeO.none _)
   | (with_reducible refine LeO.ite ?_ ?_)
   | (with_reducible refine LeO.bind ?_ (fun _ => ?_))
   | exact ih0 _ _ _ _
   | exact LeO.none _
   | refine LeO.ite ?_ ?_
   | refine LeO.bind ?_ (fun _ => ?_)
def dag_byFrom.T5 : Bool × List (List Nat × List Nat) := (true, [([], []), ([], []), ([1], [1]), ([], []), ([], []), ([4], [4]), ([3, 5], [3, 5]), ([6], [6]), ([], []), ([8], [8]), ([7, 9], [7, 9]), ([0, 2, 0, 1, 2, 3, 4, 5, 6, 7, 8, 9, 10], [0, 2]), ([11, 10, 10, 0, 1, 2, 3, 4, 5, 6, 7, 8, 9, 10], [10, 11])])
def dag_byFrom.B5 : List Nat := [0, 0, 2, 0, 0, 16, 56, 120, 0, 256, 1016, 2047, 4095]
theorem dag_byFrom.tab5 : rtab .any (opsOf Try.f58 5) = dag_byFrom.T5 := by kernel_rfl
theorem dag_byFrom.bits5 : waitsOk dag_byFrom.T5.2 dag_byFrom.B5 = true := by kernel_rfl
set_option maxHeartbeats 8000000 in
set_option maxRecDepth 100000 in
theorem dag_byFrom.calls (k : Nat) (a0_0 : Int) (A0_1 : Option Addr) (c0_1 : Nat) (l0_1 : List (S69)) (r : List (List Int)) (w : World) (hr0_1 : Kd.C k69 w A0_1 l0_1.length l0_1) (hc0_1 : l0_1.length ≤ c0_1) (h : dag_byFrom.f k a0_0 l0_1 = some r) :
  Calls Try.prog 58 #[.agg #[.int .i64 a0_0, .slice A0_1 l0_1.length c0_1]] w fun e w' => ∃ v0_ : Value, e = .returned (v0_) ∧ Kd.S (Kd.slice 3 (Kd.int .i64)) 25 w' w.heap.size (fun _ => True) v0_ r ∧ Below w.heap.size w w' := by
 have hu24 := Try.underlying24
 have hu3 := Try.underlying3
 have hu22 := Try.underlying22
 have hu69 := Try.underlying69
 have hu25 := Try.underlying25
 have HR0_1 := Aside0.mk hr0_1
 have HC0_1 := Aside0.mk hc0_1
 clear hr0_1 hc0_1
 have HB := Aside0.mk (Below.refl w.heap.size w)
 have H : (if 0 ≤ a0_0 then (if (a0_0 : Int).toNat ≤ 11728124029610 then (dag_byFrom.l0 k (List.replicate (a0_0 : Int).toNat []) l0_1 (l0_1.length : Int) 0) else (none)) else (none)) = some r := h
 clear h
 by_cases c2 : 0 ≤ a0_0
 ·rw [if_pos c2] at H
  have c2b0 := eq_true c2
  have c2b1 : decide (0 ≤ a0_0) = true := decide_eq_true c2
  clear c2
  by_cases c3 : (a0_0 : Int).toNat ≤ 11728124029610
  ·rw [if_pos c3] at H
   have c3b0 := eq_true c3
   have c3b1 : decide ((a0_0 : Int).toNat ≤ 11728124029610) = true := decide_eq_true c3
   clear c3
   obtain ⟨y118, hy118⟩ : ∃ y_ : List (List Int), y_ = (List.replicate (a0_0 : Int).toNat []) := ⟨_, rfl⟩
   replace H : (dag_byFrom.l0 k y118 l0_1 (l0_1.length : Int) 0) = some r := by first | (rw [hy118]; with_reducible exact H) | (have H2_ := (Option.bind_some _ _).symm.trans H; rw [hy118]; with_reducible exact H2_) | (have H2_ := (Option.bind_some _ _).symm.trans H; with_reducible exact H2_) | with_reducible exact H | (rw [hy118]; exact H) | exact H
   have Ny118 := Aside0.mk hy118
   clear hy118
   have H' := Aside0.mk H
   clear H
   go_enter Try.func58, Try.ntmps58
   go_wp2_with (first | ((with_reducible refine gate_dst (N := 1) rfl ?_); refine box_event ?hg (N := 1) ?hd (cs := #[.int .i64 a0_0, .slice A0_1 l0_1.length c0_1]) (t := 24) ?hr ?_; (case hd => rfl); (case hg => rfl); (case hr => first | (go_simp; done) | (go_simp; rfl)); intro gb117 hg w4 hbox hb; have n0_ := Aside0.mk (below_step zB hb); have n1_ := Aside0.mk (hbox); have n2_ := Aside0.mk ((by rw [hg]; exact (below_size zB) : w.heap.size ≤ gb117)); have n3_ := Aside0.mk ((by rw [hg]; exact (below_size zB) : w.heap.size ≤ gb117)); clear HB; have HB := n0_; have BK117 := n1_; have GW117 := n2_; have GE117 := n3_; clear n0_ n1_ n2_ n3_; clear hb hbox hg; have hcz5_0 : w4.cell? ⟨gb117, 0, none⟩ = some (.int .i64 a0_0) := (blk_cell BK117.out 0).trans rfl; have hcz5_1 : w4.cell? ⟨gb117, 1, none⟩ = some (.slice A0_1 l0_1.length c0_1) := (blk_cell BK117.out 1).trans rfl; have hfz5_0 := blk_frozen BK117.out 0; have hfz5_1 := blk_frozen BK117.out 1) | ((with_reducible refine gate_dst (N := 8) rfl ?_); refine Kd.S_make (Kd.slice 3 (Kd.int .i64)) _ 25 rfl (N := 8) rfl 34 _ _ rfl a0_0 rfl rfl Try.underlying34 (.slice none 0 0) 24 info25 rfl (by decide) (by omega) [] (ok := fun _ => True) (okp := fun _ => True) ⟨_, rfl, Kd.R_nil _ _ _ _ _⟩ (fun _ hk => hk) trivial (of_decide_eq_true zh) (Nat.le_trans (Nat.mul_le_mul_right _ (of_decide_eq_true zh : a0_0.toNat ≤ 11728124029610)) (by omega)) (Below.refl _ _) (Nat.le_refl _) ?_; intro v119 w6 ho7 hb hg_ hnew_; clear hg_ hnew_; (first | rw [← Ny118.out] at ho7 | (simp only [Int.reduceToNat] at ho7; rw [← Ny118.out] at ho7)); have n0_ := Aside0.mk (Kd.S_lower ho7 (below_size zB)); have n1_ := Aside0.mk (blk_below (g := gb117) (o := .cells #[.int .i64 a0_0, .slice A0_1 l0_1.length c0_1] 24 (0, 0)) (zk BK117) hb); have n2_ := Aside0.mk (below_step zB hb); clear BK117; clear HB; have HO120 := n0_; have BK117 := n1_; have HB := n2_; clear n0_ n1_ n2_; clear hb ho7; have hcz8_0 : w6.cell? ⟨gb117, 0, none⟩ = some (.int .i64 a0_0) := (blk_cell BK117.out 0).trans rfl; have hcz8_1 : w6.cell? ⟨gb117, 1, none⟩ = some (.slice A0_1 l0_1.length c0_1) := (blk_cell BK117.out 1).trans rfl; have hfz8_0 := blk_frozen BK117.out 0; have hfz8_1 := blk_frozen BK117.out 1))
   go_loopg [12] k (fun kq v12 w' => ∃ (x3_1 : List (List Int)) (x12_1 : Int), v12 = .int .i64 x12_1 ∧ Aside0 (dag_byFrom.l0 kq x3_1 l0_1 (l0_1.length : Int) x12_1 = some r) ∧ Aside0 (kq ≤ k) ∧ Aside0 (Kd.S (Kd.slice 3 (Kd.int .i64)) 25 w' w.heap.size (fun _ => True) v119 x3_1) ∧ Aside0 (w'.heap[gb117]? = some (.cells #[.int .i64 a0_0, (.slice A0_1 l0_1.length c0_1)] 24 (0, 0))) ∧ Aside0 (Below w.heap.size w w'))
   case atStart => exact ⟨(y118), (0), zT, H', ⟨Nat.le_refl _⟩, ⟨by (with_reducible repeat (first | apply Kd.S_alloc | apply Kd.S_drewN | apply Kd.S_drew)); exact HO120.out⟩, ⟨by (with_reducible repeat (first | refine blk_drewN ?_ _ | refine blk_drew ?_ | refine blk_alloc ?_ _)); exact BK117.out⟩, ⟨by repeat (first | (with_reducible first | exact HB.out | apply below_alloc | apply pw_below_drewN | apply below_drew1 | refine below_set ?_ GE117.out) | exact HB.out)⟩⟩
   case round =>
    clear H'
    try clear c2
    try clear c2b0
    try clear c2b1
    try clear c3
    try clear c3b0
    try clear c3b1
    try clear hcz5_0
    try clear hcz5_1
    try clear hcz8_0
    try clear hcz8_1
    try clear hfz5_0
    try clear hfz5_1
    try clear hfz8_0
    try clear hfz8_1
    obtain ⟨x3_1, x12_1, rfl, HA, HK1, HO_3, BK117, HB⟩ := hrel
    cases gk with
    | zero => exact absurd HA.out (by simp [dag_byFrom.l0])
    | succ k1 =>
     have H := HA.out
     clear HA
     simp only [dag_byFrom.l0] at H
     by_cases c9 : x12_1 < (l0_1.length : Int)
     ·rw [if_pos c9] at H
      have c9b0 : decide (x12_1 < (l0_1.length : Int)) = true := decide_eq_true c9
      clear c9
      by_cases c10 : 0 ≤ x12_1
      ·rw [if_pos c10] at H
       have c10b0 : decide (0 ≤ x12_1) = true := decide_eq_true c10
       clear c10
       by_cases c11 : x12_1 < (l0_1.length : Int)
       ·rw [if_pos c11] at H
        have c11b0 : decide (x12_1 < (l0_1.length : Int)) = true := decide_eq_true c11
        clear c11
        by_cases c12 : 0 ≤ ((rd_T69 l0_1 x12_1).f0)
        ·rw [if_pos c12] at H
         have c12b0 : decide (0 ≤ ((rd_T69 l0_1 x12_1).f0)) = true := decide_eq_true c12
         clear c12
         by_cases c13 : ((rd_T69 l0_1 x12_1).f0) < (x3_1.length : Int)
         ·rw [if_pos c13] at H
          have c13b0 : decide (((rd_T69 l0_1 x12_1).f0) < (x3_1.length : Int)) = true := decide_eq_true c13
          clear c13
          by_cases c14 : (rd_L2 x3_1 ((rd_T69 l0_1 x12_1).f0)).length < 17592186044416
          ·rw [if_pos c14] at H
           have LMc14 := Aside0.mk c14
           clear c14
           obtain ⟨y124, hy124⟩ : ∃ y_ : List Int, y_ = ((rd_L2 x3_1 ((rd_T69 l0_1 x12_1).f0)) ++ [x12_1]) := ⟨_, rfl⟩
           replace H : (dag_byFrom.l0 k1 (x3_1.set (((rd_T69 l0_1 x12_1).f0) : Int).toNat y124) l0_1 (l0_1.length : Int) (wrap64 (x12_1 + 1))) = some r := by first | (rw [hy124]; with_reducible exact H) | (have H2_ := (Option.bind_some _ _).symm.trans H; rw [hy124]; with_reducible exact H2_) | (have H2_ := (Option.bind_some _ _).symm.trans H; with_reducible exact H2_) | with_reducible exact H | (rw [hy124]; exact H) | exact H
           have Ny124 := Aside0.mk hy124
           clear hy124
           obtain ⟨y127, hy127⟩ : ∃ y_ : List (List Int), y_ = (x3_1.set (((rd_T69 l0_1 x12_1).f0) : Int).toNat y124) := ⟨_, rfl⟩
           replace H : (dag_byFrom.l0 k1 y127 l0_1 (l0_1.length : Int) (wrap64 (x12_1 + 1))) = some r := by first | (rw [hy127]; with_reducible exact H) | (have H2_ := (Option.bind_some _ _).symm.trans H; rw [hy127]; with_reducible exact H2_) | (have H2_ := (Option.bind_some _ _).symm.trans H; with_reducible exact H2_) | with_reducible exact H | (rw [hy127]; exact H) | exact H
           have Ny127 := Aside0.mk hy127
           clear hy127
           have H' := Aside0.mk H
           clear H
           have p121 : 0 ≤ (x12_1 : Int) := of_decide_eq_true zh
           have q121 : x12_1 < (l0_1.length : Int) := of_decide_eq_true zh
           obtain ⟨ad121, e121, hx121_0, hx121_1, hx121_2⟩ := at_T69 HR0_1.out x12_1 p121 q121
           cases e121
           replace hx121_0 := (HB.out.cell (World.block_lt_of_cell? w _ hx121_0)).trans hx121_0
           replace hx121_1 := (HB.out.cell (World.block_lt_of_cell? w _ hx121_1)).trans hx121_1
           replace hx121_2 := (HB.out.cell (World.block_lt_of_cell? w _ hx121_2)).trans hx121_2
           replace p121 := eq_true p121
           replace q121 := eq_true q121
           try go_wp2_with (first | ((with_reducible refine gate_dst (N := 5) rfl ?_); refine box_event ?hg (N := 5) ?hd (cs := #[.int .i64 0, .int .i64 0, .int .i64 0]) (t := 69) ?hr ?_; (case hd => rfl); (case hg => rfl); (case hr => first | (go_simp; done) | (go_simp; rfl)); intro gb122 hg w16 hbox hb; have n0_ := Aside0.mk (Kd.S_below (zS HO_3) hb); have n1_ := Aside0.mk (blk_below (g := gb117) (o := .cells #[.int .i64 a0_0, .slice (some ad121) l0_1.length c0_1] 24 (0, 0)) (zk BK117) hb); have n2_ := Aside0.mk (below_step zB hb); have n3_ := Aside0.mk (hbox); have n4_ := Aside0.mk ((by rw [hg]; exact (below_size zB) : w.heap.size ≤ gb122)); have n5_ := Aside0.mk ((by rw [hg]; exact (below_size zB) : w.heap.size ≤ gb122)); have n6_ := Aside0.mk ((by rw [hg]; exact Nat.ne_of_lt (blk_lt (g := gb117) (o := .cells #[.int .i64 a0_0, .slice (some ad121) l0_1.length c0_1] 24 (0, 0)) (zk BK117)) : gb117 ≠ gb122)); have n7_ := Aside0.mk ((by rw [hg]; exact Nat.ne_of_gt (blk_lt (g := gb117) (o := .cells #[.int .i64 a0_0, .slice (some ad121) l0_1.length c0_1] 24 (0, 0)) (zk BK117)) : gb122 ≠ gb117)); clear HO_3; clear BK117; clear HB; have HO_3 := n0_; have BK117 := n1_; have HB := n2_; have BK122 := n3_; have GW122 := n4_; have GE122 := n5_; have NB117_122 := n6_; have NB122_117 := n7_; clear n0_ n1_ n2_ n3_ n4_ n5_ n6_ n7_; clear hb hbox hg; have hnb17 := NB122_117.out; have hnc17 := NB117_122.out; have hcz18_0 : w16.cell? ⟨gb122, 0, none⟩ = some (.int .i64 0) := (blk_cell BK122.out 0).trans rfl; have hcz18_1 : w16.cell? ⟨gb122, 1, none⟩ = some (.int .i64 0) := (blk_cell BK122.out 1).trans rfl; have hcz18_2 : w16.cell? ⟨gb122, 2, none⟩ = some (.int .i64 0) := (blk_cell BK122.out 2).trans rfl; have hfz18_0 := blk_frozen BK122.out 0; have hfz18_1 := blk_frozen BK122.out 1; have hfz18_2 := blk_frozen BK122.out 2))
           have n0_ : Aside0 (Kd.S (Kd.slice 3 (Kd.int .i64)) 25 (((w16.setCell ⟨gb122, 0, none⟩ (.int .i64 ((rd_T69 l0_1 x12_1).f0))).setCell ⟨gb122, 1, none⟩ (.int .i64 ((rd_T69 l0_1 x12_1).f1))).setCell ⟨gb122, 2, none⟩ (.int .i64 ((rd_T69 l0_1 x12_1).f2))) w.heap.size (fun _ => True) v119 x3_1) := ⟨by (with_reducible repeat (first | apply Kd.S_alloc | apply Kd.S_drewN | apply Kd.S_drew)); exact Kd.S_mono (Kd.S_far (p := ⟨gb122, 2, none⟩) (Kd.S_far (p := ⟨gb122, 1, none⟩) (Kd.S_far (p := ⟨gb122, 0, none⟩) (Kd.S_types HO_3.out BK122.out (by decide)) (fun _ hk => hk.2) (.int .i64 ((rd_T69 l0_1 x12_1).f0))) (fun _ hk => hk.2) (.int .i64 ((rd_T69 l0_1 x12_1).f1))) (fun _ hk => hk.2) (.int .i64 ((rd_T69 l0_1 x12_1).f2))) (fun _ hk => trivial)⟩
           have n1_ : Aside0 ((((w16.setCell ⟨gb122, 0, none⟩ (.int .i64 ((rd_T69 l0_1 x12_1).f0))).setCell ⟨gb122, 1, none⟩ (.int .i64 ((rd_T69 l0_1 x12_1).f1))).setCell ⟨gb122, 2, none⟩ (.int .i64 ((rd_T69 l0_1 x12_1).f2))).heap[gb117]? = some (.cells #[.int .i64 a0_0, .slice (some ad121) l0_1.length c0_1] 24 (0, 0))) := ⟨by (with_reducible repeat (first | refine blk_drewN ?_ _ | refine blk_drew ?_ | refine blk_alloc ?_ _)); refine blk_far ?_ NB117_122.out _; (with_reducible repeat (first | refine blk_drewN ?_ _ | refine blk_drew ?_ | refine blk_alloc ?_ _)); refine blk_far ?_ NB117_122.out _; (with_reducible repeat (first | refine blk_drewN ?_ _ | refine blk_drew ?_ | refine blk_alloc ?_ _)); refine blk_far ?_ NB117_122.out _; (with_reducible repeat (first | refine blk_drewN ?_ _ | refine blk_drew ?_ | refine blk_alloc ?_ _)); exact BK117.out⟩
           have n2_ : Aside0 ((((w16.setCell ⟨gb122, 0, none⟩ (.int .i64 ((rd_T69 l0_1 x12_1).f0))).setCell ⟨gb122, 1, none⟩ (.int .i64 ((rd_T69 l0_1 x12_1).f1))).setCell ⟨gb122, 2, none⟩ (.int .i64 ((rd_T69 l0_1 x12_1).f2))).heap[gb122]? = some (.cells #[.int .i64 ((rd_T69 l0_1 x12_1).f0), .int .i64 ((rd_T69 l0_1 x12_1).f1), .int .i64 ((rd_T69 l0_1 x12_1).f2)] 69 (0, 0))) := ⟨by (with_reducible repeat (first | refine blk_drewN ?_ _ | refine blk_drew ?_ | refine blk_alloc ?_ _)); refine blk_put (cs := #[.int .i64 ((rd_T69 l0_1 x12_1).f0), .int .i64 ((rd_T69 l0_1 x12_1).f1), .int .i64 0]) ?_ 2 _ rfl; (with_reducible repeat (first | refine blk_drewN ?_ _ | refine blk_drew ?_ | refine blk_alloc ?_ _)); refine blk_put (cs := #[.int .i64 ((rd_T69 l0_1 x12_1).f0), .int .i64 0, .int .i64 0]) ?_ 1 _ rfl; (with_reducible repeat (first | refine blk_drewN ?_ _ | refine blk_drew ?_ | refine blk_alloc ?_ _)); refine blk_put (cs := #[.int .i64 0, .int .i64 0, .int .i64 0]) ?_ 0 _ rfl; (with_reducible repeat (first | refine blk_drewN ?_ _ | refine blk_drew ?_ | refine blk_alloc ?_ _)); exact BK122.out⟩
           have n3_ : Aside0 (Below w.heap.size w (((w16.setCell ⟨gb122, 0, none⟩ (.int .i64 ((rd_T69 l0_1 x12_1).f0))).setCell ⟨gb122, 1, none⟩ (.int .i64 ((rd_T69 l0_1 x12_1).f1))).setCell ⟨gb122, 2, none⟩ (.int .i64 ((rd_T69 l0_1 x12_1).f2)))) := ⟨by repeat (first | (with_reducible first | exact HB.out | apply below_alloc | apply pw_below_drewN | apply below_drew1 | refine below_set ?_ GE117.out | refine below_set ?_ GE122.out) | exact HB.out)⟩
           (try clear HO_3)
           (try clear BK117)
           (try clear BK122)
           (try clear HB)
           generalize (((w16.setCell ⟨gb122, 0, none⟩ (.int .i64 ((rd_T69 l0_1 x12_1).f0))).setCell ⟨gb122, 1, none⟩ (.int .i64 ((rd_T69 l0_1 x12_1).f1))).setCell ⟨gb122, 2, none⟩ (.int .i64 ((rd_T69 l0_1 x12_1).f2))) = w19 at n0_ n1_ n2_ n3_ ⊢
           have HO_3 := n0_
           have BK117 := n1_
           have BK122 := n2_
           have HB := n3_
           clear n0_ n1_ n2_ n3_
           have n0_ := Aside0.mk (Kd.S_drew HO_3.out)
           have n1_ := Aside0.mk (blk_drew BK117.out)
           have n2_ := Aside0.mk (blk_drew BK122.out)
           have n3_ := Aside0.mk (below_drew1 HB.out)
           clear HO_3
           clear BK117
           clear BK122
           clear HB
           have HO_3 := n0_
           have BK117 := n1_
           have BK122 := n2_
           have HB := n3_
           clear n0_ n1_ n2_ n3_
           obtain ⟨Ao21, co21, eo21⟩ := Kd.S_slice HO_3.out
           (first | subst eo21 | (injection eo21 with f1_ f2_ f3_; have f4_ := f1_.symm; have f5_ := f3_.symm; clear f1_ f2_ f3_; subst f4_; subst f5_))
           have p123 : 0 ≤ (((rd_T69 l0_1 x12_1).f0) : Int) := of_decide_eq_true zh
           have q123 : ((rd_T69 l0_1 x12_1).f0) < (x3_1.length : Int) := of_decide_eq_true zh
           obtain ⟨ad123, A123_0, c123_0, e123, hx123_0, hl123_0, hi123_0⟩ := at_L2 (Kd.S_reads' HO_3.out).2.2 ((rd_T69 l0_1 x12_1).f0) p123 q123
           cases e123
           obtain ⟨ce123, hce123, hMe123, hcc123⟩ := Kd.S_get HO_3.out [] ((rd_T69 l0_1 x12_1).f0) p123 (by first | exact q123 | exact of_decide_eq_true zh | (have e_ := (Kd.S_reads' HO_3.out).1; omega))
           obtain ⟨ve123_0, rfl, ge123_0⟩ := hMe123
           have hv123_0 := hcc123 0 _ rfl
           rw [Nat.add_zero, show ((Kd.slice 3 (Kd.int .i64))).sz = 1 from rfl, Nat.mul_one] at hv123_0
           replace hv123_0 := Option.some.inj (hv123_0.symm.trans hx123_0)
           rw [hv123_0] at ge123_0
           have HL123_0 := Aside0.mk (show Kd.R (Kd.int .i64) 3 _ _ _ _ (rd_L2 x3_1 ((rd_T69 l0_1 x12_1).f0)) from ge123_0)
           clear hv123_0 ge123_0
           have HX123_0 := Aside0.mk hx123_0
           clear hcc123 hce123
           have HR123_0 := Aside0.mk hi123_0
           have HC123_0 := Aside0.mk hl123_0
           clear hi123_0 hl123_0
           replace p123 := eq_true p123
           replace q123 := eq_true q123
           obtain ⟨go22, co22, eo22, gb22, gl22, cl22, HG22⟩ := Kd.S_form HO_3.out (by have h_ : (((rd_T69 l0_1 x12_1).f0) : Int) < ((x3_1.length : Int) : Int) := of_decide_eq_true zh; have h2_ : 0 ≤ (((rd_T69 l0_1 x12_1).f0) : Int) := (of_decide_eq_true zh); omega)
           (first | cases eo22 | (injection eo22 with ea_ en_ ec_; (first | subst ea_ | (injection ea_ with ea_; subst ea_)); subst ec_; clear en_))
           have GB22 := Aside0.mk gb22
           have GG22 := Aside0.mk HG22
           clear gb22 gl22 HG22
           (first | simp only [add_plain] at hx123_0 | skip)
           obtain ⟨oki22, ce22, hcl22, hM22, hcc22, _, _, hH22⟩ := Kd.S_elem HO_3.out [] (((rd_T69 l0_1 x12_1).f0) : Int) (of_decide_eq_true zh) (by have h_ : (((rd_T69 l0_1 x12_1).f0) : Int) < ((x3_1.length : Int) : Int) := of_decide_eq_true zh; first | exact h_ | (have e_ := (Kd.S_reads' HO_3.out).1; omega) | simpa using h_)
           obtain ⟨ve22_0, rfl, ge22_0⟩ := hM22
           have hv22 := hcc22 0 _ rfl
           have hX22 := HX123_0.out
           (try simp only [add_plain] at hX22)
           (try simp only [Nat.add_zero] at hv22)
           (try rw [show ((Kd.slice 3 (Kd.int .i64))).sz = 1 from rfl, Nat.mul_one] at hv22)
           replace hv22 := Option.some.inj (hv22.symm.trans hX22)
           subst hv22
           clear hX22 hcc22 hcl22
           have UU22 := Aside0.mk (show Kd.R (Kd.int .i64) 3 _ w.heap.size oki22 (.slice A123_0 (rd_L2 x3_1 ((rd_T69 l0_1 x12_1).f0)).length c123_0) (rd_L2 x3_1 ((rd_T69 l0_1 x12_1).f0)) from ge22_0)
           have HH22 := Aside0.mk hH22
           have HN22 := Aside0.mk (Kd.S_reads' HO_3.out).1
           clear hH22 ge22_0
           refine start_ (n := 13) (S := fun w' => w'.cell? ⟨gb122, 0, none⟩ = some (.int .i64 ((rd_T69 l0_1 x12_1).f0)) ∧ w'.cell? ⟨gb122, 1, none⟩ = some (.int .i64 ((rd_T69 l0_1 x12_1).f1)) ∧ w'.cell? ⟨gb122, 2, none⟩ = some (.int .i64 ((rd_T69 l0_1 x12_1).f2)) ∧ w'.cell? ⟨go22, (((rd_T69 l0_1 x12_1).f0)).toNat, none⟩ = some (.slice A123_0 (rd_L2 x3_1 ((rd_T69 l0_1 x12_1).f0)).length c123_0)) (ds := [12]) #[false, false, false, false, false, false, false, false, false, false, false, false, false] zK rfl rfl ⟨(blk_cell BK122.out 0).trans rfl, (blk_cell BK122.out 1).trans rfl, (blk_cell BK122.out 2).trans rfl, hx123_0⟩ (fun hHeld => ?_); refine with_tabW dag_byFrom.tab5 dag_byFrom.bits5 (fun HT_ HW_ => ?_)
           generalize w19.drew = w20 at HO_3 BK117 BK122 HB GG22 HH22 HL123_0 HR123_0 HX123_0 UU22 hx123_0 hHeld ⊢
           refine pure_ (i := 0) (N := some 17) (v := ?_) (a' := ?_) #[true, false, false, false, false, false, false, false, false, false, false, false, false] rfl rfl (any_of HT_.out zK) (fun _ _ _ h => h) (Or.inl ⟨by rfl, ?_⟩) ?_ ?_
           rotate_left
           ·intro w'
            go_simp
            with_reducible rfl
           rotate_left
           ·simp only [Act.put, List.setIfInBounds_toArray, List.set_cons_zero, List.set_cons_succ, i64_w, i32_w]
            rfl
           refine pure_ (i := 1) (N := some 18) (v := ?_) (a' := ?_) #[true, true, false, false, false, false, false, false, false, false, false, false, false] rfl rfl (any_of HT_.out zK) (fun _ _ _ h => h) (Or.inl ⟨by rfl, ?_⟩) ?_ ?_
           rotate_left
           ·intro w'
            go_simp
            with_reducible rfl
           rotate_left
           ·simp only [Act.put, List.setIfInBounds_toArray, List.set_cons_zero, List.set_cons_succ, i64_w, i32_w]
            rfl
           refine pure_ (i := 3) (N := some 20) (v := ?_) (a' := ?_) #[true, true, false, true, false, false, false, false, false, false, false, false, false] rfl rfl (any_of HT_.out zK) (fun _ _ _ h => h) (Or.inl ⟨by rfl, ?_⟩) ?_ ?_
           rotate_left
           ·intro w'
            go_simp
            with_reducible rfl
           rotate_left
           ·simp only [Act.put, List.setIfInBounds_toArray, List.set_cons_zero, List.set_cons_succ, i64_w, i32_w]
            rfl
           refine pure_ (i := 4) (N := some 21) (v := ?_) (a' := ?_) #[true, true, false, true, true, false, false, false, false, false, false, false, false] rfl rfl (any_of HT_.out zK) (fun _ _ _ h => h) (Or.inl ⟨by rfl, ?_⟩) ?_ ?_
           rotate_left
           ·intro w'
            go_simp
            with_reducible rfl
           rotate_left
           ·simp only [Act.put, List.setIfInBounds_toArray, List.set_cons_zero, List.set_cons_succ, i64_w, i32_w]
            rfl
           refine pure_ (i := 8) (N := some 25) (v := ?_) (a' := ?_) #[true, true, false, true, true, false, false, false, true, false, false, false, false] rfl rfl (any_of HT_.out zK) (fun _ _ _ h => h) (Or.inl ⟨by rfl, ?_⟩) ?_ ?_
           rotate_left
           ·intro w'
            go_simp
            with_reducible rfl
           rotate_left
           ·simp only [Act.put, List.setIfInBounds_toArray, List.set_cons_zero, List.set_cons_succ, i64_w, i32_w]
            rfl
           refine take_ (i := 2) (N := some 19) (v := ?_) (a' := ?_) #[true, true, true, true, true, false, false, false, true, false, false, false, false] rfl rfl (take_ofW HT_.out HW_.out zK) (fun _ _ _ h => h) (Or.inl ⟨by rfl, ?_⟩) hHeld ?_ ?_
           rotate_left
           ·rintro w' ⟨s0, s1, s2, s3⟩
            go_simp
            with_reducible rfl
           rotate_left
           ·simp only [Act.put, List.setIfInBounds_toArray, List.set_cons_zero, List.set_cons_succ, i64_w, i32_w]
            rfl
           refine take_ (i := 5) (N := some 22) (v := ?_) (a' := ?_) #[true, true, true, true, true, true, false, false, true, false, false, false, false] rfl rfl (take_ofW HT_.out HW_.out zK) (fun _ _ _ h => h) (Or.inl ⟨by rfl, ?_⟩) hHeld ?_ ?_
           rotate_left
           ·rintro w' ⟨s0, s1, s2, s3⟩
            go_simp
            with_reducible rfl
           rotate_left
           ·simp only [Act.put, List.setIfInBounds_toArray, List.set_cons_zero, List.set_cons_succ, i64_w, i32_w]
            rfl
           refine pure_ (i := 6) (N := some 23) (v := ?_) (a' := ?_) #[true, true, true, true, true, true, true, false, true, false, false, false, false] rfl rfl (any_of HT_.out zK) (fun _ _ _ h => h) (Or.inl ⟨by rfl, ?_⟩) ?_ ?_
           rotate_left
           ·intro w'
            go_simp
            with_reducible rfl
           rotate_left
           ·simp only [Act.put, List.setIfInBounds_toArray, List.set_cons_zero, List.set_cons_succ, i64_w, i32_w]
            rfl
           refine take_ (i := 7) (N := some 24) (v := ?_) (a' := ?_) #[true, true, true, true, true, true, true, true, true, false, false, false, false] rfl rfl (take_ofW HT_.out HW_.out zK) (fun _ _ _ h => h) (Or.inl ⟨by rfl, ?_⟩) hHeld ?_ ?_
           rotate_left
           ·rintro w' ⟨s0, s1, s2, s3⟩
            go_simp
            with_reducible rfl
           rotate_left
           ·simp only [Act.put, List.setIfInBounds_toArray, List.set_cons_zero, List.set_cons_succ, i64_w, i32_w]
            rfl
           refine one_ (i := 9) (N := some 26) #[true, true, true, true, true, true, true, true, true, true, false, false, false] rfl rfl (one_of HT_.out zK) (by decide) (fun K hK => ?_)
           refine value_ (w1 := ?_) (v := ?_) (by rfl) rfl ?_ ?_
           rotate_left 2
           ·go_simp
            constructor
            ·rfl
            ·rfl
           refine hK.out _ _ ⟨(blk_cell (blk_alloc BK122.out _) 0).trans rfl, (blk_cell (blk_alloc BK122.out _) 1).trans rfl, (blk_cell (blk_alloc BK122.out _) 2).trans rfl, (World.cell?_alloc_lt _ _ _ (World.block_lt_of_cell? _ _ (hHeld.2.2.2))).trans (hHeld.2.2.2)⟩ (fun hHeld => ?_)
           clear hK K
           refine norm_ (a' := ?_) ?_ ?_
           rotate_left
           ·show Act.put _ (some 26) _ = _
            simp only [Act.put, List.setIfInBounds_toArray, List.set_cons_zero, List.set_cons_succ, i64_w, i32_w]
            rfl
           refine one_ (i := 10) (N := some 27) #[true, true, true, true, true, true, true, true, true, true, true, false, false] rfl rfl (one_of HT_.out zK) (by decide) (fun K hK => ?_)
           refine Kd.R_append_step (Kd.int .i64) (w0 := w) w.heap.size (by rfl) (.tmp 24) (.tmp 26) 25 3 (.int .i64 0) 8 rfl Try.underlying25 info3 rfl (by decide) (by omega) (.slice A123_0 (rd_L2 x3_1 ((rd_T69 l0_1 x12_1).f0)).length c123_0) (rd_L2 x3_1 ((rd_T69 l0_1 x12_1).f0)) x12_1 [.int .i64 x12_1] (fun k_ => oki22 k_ ∨ ((fun _ => True)) k_ ∧ w20.heap.size ≤ k_) (fun _ => False) rfl rfl ?aP (fun _ hk => hk.elim) ?aF ?aO ?aB ?aS ?aL ?_
           (case aP => exact rfl)
           (case aB => exact zB)
           (case aF => exact (fun k_ hk => .inr ⟨trivial, hk⟩))
           (case aO => exact (by (with_reducible repeat (first | apply Kd.R_alloc | apply Kd.R_drewN | apply Kd.R_drew)); exact Kd.R_mono UU22.out (fun _ hk => .inl hk)))
           (case aS => exact (below_size zB))
           (case aL => have := LMc14.out; omega)
           intro v125 w23 ho hb hg hat
           (first | have HS3_ := cell_grown hg (hHeld.2.2.2) (by first | (rw [add_block]; exact (fun e_ => ((HL123_0.out.1 _ e_.symm).2) rfl)) | (show some (Addr.add _ _).block ≠ _; rw [add_block]; exact (fun e_ => ((HL123_0.out.1 _ e_.symm).2) rfl)) | exact (fun e_ => ((HL123_0.out.1 _ e_.symm).2) rfl)) | have HS3_ := cell_grown hg (cell_unalloc (hHeld.2.2.2) (by first | (rw [add_block]; exact Kd.S_lt HO_3.out _ rfl) | (show (Addr.add _ _).block < _; rw [add_block]; exact Kd.S_lt HO_3.out _ rfl) | exact Kd.S_lt HO_3.out _ rfl)) (by first | (rw [add_block]; exact (fun e_ => ((HL123_0.out.1 _ e_.symm).2) rfl)) | (show some (Addr.add _ _).block ≠ _; rw [add_block]; exact (fun e_ => ((HL123_0.out.1 _ e_.symm).2) rfl)) | exact (fun e_ => ((HL123_0.out.1 _ e_.symm).2) rfl)))
           rw [← Ny124.out] at ho
           have n0_ := Aside0.mk (blk_grown (g := gb117) (o := .cells #[.int .i64 a0_0, .slice (some ad121) l0_1.length c0_1] 24 (0, 0)) (zk BK117) hg (Kd.R_ne HL123_0.out BK117.out (by decide)))
           have n1_ := Aside0.mk (blk_grown (g := gb122) (o := .cells #[.int .i64 ((rd_T69 l0_1 x12_1).f0), .int .i64 ((rd_T69 l0_1 x12_1).f1), .int .i64 ((rd_T69 l0_1 x12_1).f2)] 69 (0, 0)) (zk BK122) hg (Kd.R_ne HL123_0.out BK122.out (by decide)))
           have n2_ := Aside0.mk (hb)
           have n3_ := Aside0.mk (Kd.H_grown (Kd.H_widen (by repeat (first | exact HH22.out | refine Kd.H_alloc ?_ _ | refine Kd.H_drewN ?_ _ | refine Kd.H_drew ?_))) hg (fun k_ e_ => .inl (UU22.out.1 k_ e_)))
           have n4_ := Aside0.mk (ho)
           clear BK117
           clear BK122
           clear HB
           clear HH22
           clear HO_3
           clear UU22
           clear HL123_0
           have BK117 := n0_
           have BK122 := n1_
           have HB := n2_
           have HH22 := n3_
           have HO126 := n4_
           clear n0_ n1_ n2_ n3_ n4_
           clear ho hb hg hat
           have p15 : 0 ≤ (((rd_T69 l0_1 x12_1).f0) : Int) := of_decide_eq_true zh
           have q15 : (((rd_T69 l0_1 x12_1).f0) : Int) < ((x3_1.length : Int) : Int) := of_decide_eq_true zh
           replace p15 := eq_true p15
           replace q15 := eq_true q15
           obtain ⟨Ao26, co26, eo26⟩ := Kd.R_slice HO126.out
           (first | subst eo26 | (injection eo26 with f1_ f2_ f3_; have f4_ := f1_.symm; have f5_ := f3_.symm; clear f1_ f2_ f3_; subst f4_; subst f5_))
           obtain ⟨_, _, hraw24, _, _, hcc24, _⟩ := Kd.H_raw HH22.out (of_decide_eq_true zh) (by have h_ : (((rd_T69 l0_1 x12_1).f0) : Int) < ((x3_1.length : Int) : Int) := of_decide_eq_true zh; first | exact h_ | (have e_ := (HN22.out); omega) | simpa using h_)
           obtain ⟨_, hfr24⟩ := Kd.H_at HH22.out (of_decide_eq_true zh) (by have h_ : (((rd_T69 l0_1 x12_1).f0) : Int) < ((x3_1.length : Int) : Int) := of_decide_eq_true zh; first | exact h_ | (have e_ := (HN22.out); omega) | simpa using h_)
           have hx24_0 := hcc24 0 _ rfl
           have hf24_0 := hfr24 0
           (try simp only [Nat.add_zero] at hx24_0 hf24_0)
           (try rw [show ((Kd.slice 3 (Kd.int .i64))).sz = 1 from rfl, Nat.mul_one] at hx24_0)
           (try rw [show ((Kd.slice 3 (Kd.int .i64))).sz = 1 from rfl, Nat.mul_one] at hf24_0)
           have HP24 := Kd.S_seg0 HH22.out (of_decide_eq_true zh) (by have h_ : (((rd_T69 l0_1 x12_1).f0) : Int) < ((x3_1.length : Int) : Int) := of_decide_eq_true zh; first | exact h_ | (have e_ := (HN22.out); omega) | simpa using h_) (seg := [.slice Ao26 y124.length co26]) (j := 0) (show 1 ≤ 1 from by decide) (x' := y124) (Kd.M_row HO126.out) (fun _ hk => hk)
           (try simp only [show ((Kd.slice 3 (Kd.int .i64))).sz = 1 from rfl, Nat.mul_one, Nat.add_zero] at HP24)
           clear hcc24 hfr24
           have HNB117_go22 := Aside0.mk (show gb117 ≠ go22 from by have h_ := Kd.R_ne hraw24 BK117.out (by decide); intro e_; exact h_ (by rw [e_]; rfl))
           have HNB122_go22 := Aside0.mk (show gb122 ≠ go22 from by have h_ := Kd.R_ne hraw24 BK122.out (by decide); intro e_; exact h_ (by rw [e_]; rfl))
           have HS24 := HP24.1
           rw [← Ny127.out] at HS24
           have HQ24 := Aside0.mk HS24
           obtain ⟨_, hgg24⟩ := Kd.R_typed hraw24 go22 rfl
           have GG24_ := Aside0.mk hgg24
           clear HP24 HS24 hgg24
           refine hK.out _ _ ⟨(blk_cell BK122.out 0).trans rfl, (blk_cell BK122.out 1).trans rfl, (blk_cell BK122.out 2).trans rfl, HS3_⟩ (fun hHeld => ?_)
           clear hK K
           refine norm_ (a' := ?_) ?_ ?_
           rotate_left
           ·show Act.put _ (some 27) _ = _
            simp only [Act.put, List.setIfInBounds_toArray, List.set_cons_zero, List.set_cons_succ, i64_w, i32_w]
            rfl
           refine pure_ (i := 11) (N := some 28) (v := ?_) (a' := ?_) #[true, true, true, true, true, true, true, true, true, true, true, true, false] rfl rfl (any_of HT_.out zK) (fun _ _ _ h => h) (Or.inl ⟨by rfl, ?_⟩) ?_ ?_
           rotate_left
           ·intro w'
            go_simp
            with_reducible rfl
           rotate_left
           ·simp only [Act.put, List.setIfInBounds_toArray, List.set_cons_zero, List.set_cons_succ, i64_w, i32_w]
            rfl
           refine last_ (i := 12) (N := none) #[true, true, true, true, true, true, true, true, true, true, true, true, true] rfl rfl (one_of HT_.out zK) (by decide) (fun K hK => ?_)
           refine skip_ (w1 := ?_) (by rfl) rfl ?_ ?_
           rotate_left
           ·go_simp
            rfl
           refine hK.out _ _ ?_
           clear hK K
           refine done_ (done_of HT_.out zK) ?_
           try go_wp2
           go_roundg k1
           case measure => have := HK1.out; omega
           case rel => exact ⟨(y127), (wrap64 (x12_1 + 1)), zT, H', ⟨by have := HK1.out; omega⟩, ⟨by (with_reducible repeat (first | apply Kd.S_alloc | apply Kd.S_drewN | apply Kd.S_drew)); exact HQ24.out⟩, ⟨by (with_reducible repeat (first | refine blk_drewN ?_ _ | refine blk_drew ?_ | refine blk_alloc ?_ _)); refine blk_far ?_ HNB117_go22.out _; (with_reducible repeat (first | refine blk_drewN ?_ _ | refine blk_drew ?_ | refine blk_alloc ?_ _)); exact BK117.out⟩, ⟨by repeat (first | (with_reducible first | exact HB.out | apply below_alloc | apply pw_below_drewN | apply below_drew1 | refine below_set ?_ GB22.out | refine below_set ?_ GE117.out | refine below_set ?_ GE122.out) | exact HB.out)⟩⟩
          ·rw [if_neg c14] at H
           exact absurd H (by simp)
         ·rw [if_neg c13] at H
          exact absurd H (by simp)
        ·rw [if_neg c12] at H
         exact absurd H (by simp)
       ·rw [if_neg c11] at H
        exact absurd H (by simp)
      ·rw [if_neg c10] at H
       exact absurd H (by simp)
     ·rw [if_neg c9] at H
      have c9b0 : decide (x12_1 < (l0_1.length : Int)) = false := decide_eq_false c9
      clear c9
      obtain rfl := Option.some.inj H
      go_wp2
      go_ret
      exact ⟨_, by first | rfl | (simp [errW_none, errW_some] <;> rfl) | (simp [*, errW_none, errW_some] <;> rfl), by (with_reducible repeat (first | apply Kd.S_alloc | apply Kd.S_drewN | apply Kd.S_drew)); exact HO_3.out, by repeat (first | (with_reducible first | exact HB.out | apply below_alloc | apply pw_below_drewN | apply below_drew1 | refine below_set ?_ GE117.out) | exact HB.out)⟩
  ·rw [if_neg c3] at H
   exact absurd H (by simp)
 ·rw [if_neg c2] at H
  exact absurd H (by simp)
/-! ### dag_capped: function 81 -/
def dag_capped.f (a0 : Int) (a1 : Int) : Option (Int) := if a0 > (wrap64 (4611686018427387904 - a1)) then (some 4611686018427387905) else (some (wrap64 (a0 + a1)))
set_option maxHeartbeats 8000000 in
set_option maxRecDepth 100000 in
theorem dag_capped.calls (a0 : Int) (a1 : Int) (r : Int) (w : World) (h : dag_capped.f a0 a1 = some r) :
  Calls Try.prog 81 #[.int .i64 a0, .int .i64 a1] w fun e w' => e = .returned (.int .i64 r) ∧ Drawn0 w w' := by
 have H : (if a0 > (wrap64 (4611686018427387904 - a1)) then (some 4611686018427387905) else (some (wrap64 (a0 + a1)))) = some r := h
 clear h
 by_cases c3 : a0 > (wrap64 (4611686018427387904 - a1))
 ·rw [if_pos c3] at H
  have c3b0 : decide ((wrap64 (4611686018427387904 - a1)) < a0) = true := decide_eq_true c3
  clear c3
  obtain rfl := Option.some.inj H
  go_enter Try.func81, Try.ntmps81
  go_wp2
  go_ret
  exact ⟨by first | rfl | (simp; done) | (simp [*]; done), by repeat (first | exact Drawn0.refl _ | apply Drawn0.step)⟩
 ·rw [if_neg c3] at H
  have c3b0 : decide ((wrap64 (4611686018427387904 - a1)) < a0) = false := decide_eq_false c3
  clear c3
  obtain rfl := Option.some.inj H
  go_enter Try.func81, Try.ntmps81
  go_wp2
  go_ret
  exact ⟨by first | rfl | (simp; done) | (simp [*]; done), by repeat (first | exact Drawn0.refl _ | apply Drawn0.step)⟩
end Go.Proofs.Ytanbffoilianhaa.F
