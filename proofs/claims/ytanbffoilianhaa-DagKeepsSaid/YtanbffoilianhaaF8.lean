-- Written by wip/tools/myprint.py, a program of this session's.
import Derived.Test.YtanbffoilianhaaF0
import Derived.Test.YtanbffoilianhaaF6
namespace Go.Proofs.Ytanbffoilianhaa.F
open Go.RowKit Go.Proofs.YtanbffoilianhaaW.PrintWords Go.Proofs.YtanbffoilianhaaW.PrintLast Go.Proofs.YtanbffoilianhaaW.PrintMore
attribute [local go_sem] max2_int min2_int max_two min_two max_three min_three max_four min_four   -- for this text's walks alone
set_option linter.unusedVariables false
set_option linter.unusedSimpArgs false
/-! ### ancepsref09_Made: function 37 -/
def ancepsref09_Made.l0 : Nat → List Int → Int → Int → List (S69) → Option (Int × (List (S69)))
 | 0, _, _, _, _ => none
 | k + 1, x1, x6, x347000, x347001 => if x6 < (x1.length : Int) then (if x6 < 40 then (if x347000 > 1 then (if 0 ≤ x6 then (if (wrap64 (x347000 - 1)) = 0 then (none) else (if (wrap64 ((wrap64 (x347000 - 1)) - (Int.tmod (wrap64 (rd x1 x6)) (wrap64 (x347000 - 1))))) = 0 then (none) else (if x347001.length < 5864062014805 then (ancepsref09_Made.l0 k x1 (wrap64 (x6 + 1)) x347000 (x347001 ++ [(⟨Int.tmod (wrap64 (rd x1 x6)) (wrap64 (x347000 - 1)), wrap64 ((wrap64 ((Int.tmod (wrap64 (rd x1 x6)) (wrap64 (x347000 - 1))) + 1)) + (Int.tmod (Int.tmod (wrap64 (Int.tdiv (wrap64 (rd x1 x6)) 12)) 12) (wrap64 ((wrap64 (x347000 - 1)) - (Int.tmod (wrap64 (rd x1 x6)) (wrap64 (x347000 - 1))))))), Int.tmod (wrap64 (Int.tdiv (wrap64 (rd x1 x6)) 144)) 12⟩ : S69)])) else (none)))) else (none)) else (some (x347000, x347001))) else (some (x347000, x347001))) else (some (x347000, x347001))
def ancepsref09_Made.f (k : Nat) (a0 : Int) (l1 : List Int) : Option (Int × (List (S69))) := ancepsref09_Made.l0 k l1 0 (wrap64 (1 + (Int.tmod (wrap64 (a0)) 12))) ([] : List (S69))
theorem ancepsref09_Made.mono_l : ∀ k, (∀ y0 y1 y2 y3, LeO (ancepsref09_Made.l0 k y0 y1 y2 y3) (ancepsref09_Made.l0 (k + 1) y0 y1 y2 y3))
 | 0 => fun _ _ _ _ r h => by simp [ancepsref09_Made.l0] at h
 | k + 1 => by
  have ih0 := ancepsref09_Made.mono_l k
  ·intro y0 y1 y2 y3
   unfold ancepsref09_Made.l0
   repeat' first
   | (with_reducible exact ih0 _ _ _ _)
   | (with_reducible exact LeO.refl _)
   | (with_reducible exact LeO.none _)
   | (with_reducible refine LeO.ite ?_ ?_)
   | (with_reducible refine LeO.bind ?_ (fun _ => ?_))
   | exact ih0 _ _ _ _
   | exact LeO.none _
   | refine LeO.ite ?_ ?_
   | refine LeO.bind ?_ (fun _ => ?_)
theorem ancepsref09_Made.mono : ∀ a0 a1 k, LeO (ancepsref09_Made.f k a0 a1) (ancepsref09_Made.f (k + 1) a0 a1) := by
 intro a0 a1 k
 have ih0 := ancepsref09_Made.mono_l k
 unfold ancepsref09_Made.f
 repeat' first
   | (with_reducible exact ih0 _ _ _ _)
   | (with_reducible exact LeO.refl _)
   | (with_reducible exact LeO.none _)
   | (with_reducible refine LeO.ite ?_ ?_)
   | (with_reducible refine LeO.bind ?_ (fun _ => ?_))
   | exact ih0 _ _ _ _
   | exact LeO.none _
   | refine LeO.ite ?_ ?_
   | refine LeO.bind ?_ (fun _ => ?_)
def ancepsref09_Made.T7 : Bool × List (List Nat × List Nat) := (true, [([], []), ([0], [0]), ([1], [1]), ([], []), ([3], [3]), ([4], [4]), ([], []), ([6], [6]), ([7], [7]), ([], []), ([9], [9]), ([8, 10], [8, 10]), ([5, 11], [5, 11]), ([2, 12], [2, 12]), ([0, 1, 2, 3, 4, 5, 6, 7, 8, 9, 10, 11, 12, 13], []), ([14, 13, 0, 1, 2, 3, 4, 5, 6, 7, 8, 9, 10, 11, 12, 13], [13, 14])])
def ancepsref09_Made.B7 : List Nat := [0, 1, 3, 0, 8, 24, 0, 64, 192, 0, 512, 1984, 4088, 8191, 16383, 32767]
theorem ancepsref09_Made.tab7 : rtab .any (opsOf Try.f37 7) = ancepsref09_Made.T7 := by kernel_rfl
theorem ancepsref09_Made.bits7 : waitsOk ancepsref09_Made.T7.2 ancepsref09_Made.B7 = true := by kernel_rfl
set_option maxHeartbeats 8000000 in
set_option maxRecDepth 100000 in
theorem ancepsref09_Made.calls (k : Nat) (a0 : Int) (A1 : Option Addr) (c1 : Nat) (l1 : List Int) (r1 : Int) (r2 : List (S69)) (w : World) (hr1 : Kd.C (Kd.int .u16) w A1 l1.length l1) (hc1 : l1.length ≤ c1) (h : ancepsref09_Made.f k a0 l1 = some (r1, r2)) :
  Calls Try.prog 37 #[.int .u8 a0, .slice A1 l1.length c1] w fun e w' => ∃ v1_ : Value, e = .returned (.agg #[.int .i64 r1, v1_]) ∧ Kd.R k69 69 w' w.heap.size (fun _ => True) v1_ r2 ∧ Below w.heap.size w w' := by
 have hu24 := Try.underlying24
 have hu3 := Try.underlying3
 have hu56 := Try.underlying56
 have hu69 := Try.underlying69
 have hu22 := Try.underlying22
 have HR1 := Aside0.mk hr1
 have HC1 := Aside0.mk hc1
 clear hr1 hc1
 have HB := Aside0.mk (Below.refl w.heap.size w)
 have H : (ancepsref09_Made.l0 k l1 0 (wrap64 (1 + (Int.tmod (wrap64 (a0)) 12))) ([] : List (S69))) = some (r1, r2) := h
 clear h
 have H' := Aside0.mk H
 clear H
 go_enter Try.func37, Try.ntmps37
 go_wp2_with (first | ((with_reducible refine gate_dst (N := 4) rfl ?_); refine box_event ?hg (N := 4) ?hd (cs := #[.int .i64 0, .slice none 0 0]) (t := 24) ?hr ?_; (case hd => rfl); (case hg => rfl); (case hr => first | (go_simp; done) | (go_simp; rfl)); intro gb345 hg w3 hbox hb; have n0_ := Aside0.mk (below_step zB hb); have n1_ := Aside0.mk (hbox); have n2_ := Aside0.mk ((by rw [hg]; exact (below_size zB) : w.heap.size ≤ gb345)); have n3_ := Aside0.mk ((by rw [hg]; exact (below_size zB) : w.heap.size ≤ gb345)); clear HB; have HB := n0_; have BK345 := n1_; have GW345 := n2_; have GE345 := n3_; clear n0_ n1_ n2_ n3_; clear hb hbox hg) | ((with_reducible refine gate_dst (N := 5) rfl ?_); refine box_event ?hg (N := 5) ?hd (cs := #[.int .i64 0, .slice none 0 0]) (t := 24) ?hr ?_; (case hd => rfl); (case hg => rfl); (case hr => first | (go_simp; done) | (go_simp; rfl)); intro gb346 hg w4 hbox hb; have n0_ := Aside0.mk (blk_below (g := gb345) (o := .cells #[.int .i64 0, .slice none 0 0] 24 (0, 0)) (zk BK345) hb); have n1_ := Aside0.mk (below_step zB hb); have n2_ := Aside0.mk (hbox); have n3_ := Aside0.mk ((by rw [hg]; exact (below_size zB) : w.heap.size ≤ gb346)); have n4_ := Aside0.mk ((by rw [hg]; exact (below_size zB) : w.heap.size ≤ gb346)); have n5_ := Aside0.mk ((by rw [hg]; exact Nat.ne_of_lt (blk_lt (g := gb345) (o := .cells #[.int .i64 0, .slice none 0 0] 24 (0, 0)) (zk BK345)) : gb345 ≠ gb346)); have n6_ := Aside0.mk ((by rw [hg]; exact Nat.ne_of_gt (blk_lt (g := gb345) (o := .cells #[.int .i64 0, .slice none 0 0] 24 (0, 0)) (zk BK345)) : gb346 ≠ gb345)); clear BK345; clear HB; have BK345 := n0_; have HB := n1_; have BK346 := n2_; have GW346 := n3_; have GE346 := n4_; have NB345_346 := n5_; have NB346_345 := n6_; clear n0_ n1_ n2_ n3_ n4_ n5_ n6_; clear hb hbox hg; have hnb5 := NB346_345.out; have hnc5 := NB345_346.out; have hcz6_0 : w4.cell? ⟨gb346, 0, none⟩ = some (.int .i64 0) := (blk_cell BK346.out 0).trans rfl; have hcz6_1 : w4.cell? ⟨gb346, 1, none⟩ = some (.slice none 0 0) := (blk_cell BK346.out 1).trans rfl; have hfz6_0 := blk_frozen BK346.out 0; have hfz6_1 := blk_frozen BK346.out 1))
 go_loopg [6] k (fun kq v6 w' => ∃ (x6_1 : Int) (x347001_1 : List (S69)) (u347001 : Value), v6 = .int .i64 x6_1 ∧ Aside0 (ancepsref09_Made.l0 kq l1 x6_1 (wrap64 (1 + (Int.tmod (wrap64 (a0)) 12))) x347001_1 = some (r1, r2)) ∧ Aside0 (kq ≤ k) ∧ Aside0 (Kd.R k69 69 w' w.heap.size (fun _ => True) u347001 x347001_1) ∧ Aside0 (w'.heap[gb345]? = some (.cells #[.int .i64 0, (.slice none 0 0)] 24 (0, 0))) ∧ Aside0 (w'.heap[gb346]? = some (.cells #[.int .i64 (wrap64 (1 + (Int.tmod (wrap64 (a0)) 12))), u347001] 24 (0, 0))) ∧ Aside0 (Below w.heap.size w w'))
 case atStart => exact ⟨(0), (([] : List (S69))), (.slice none 0 0), zT, H', ⟨Nat.le_refl _⟩, ⟨by first | exact Kd.R_nil _ _ _ _ _ | exact Kd.N_nil _ _ _ _ _ | exact Kd.V_nil _ _ _ _ _ | exact Kd.Q_nil _ _ _ _ _ | exact Kd.S_nil _ _ _ _ _⟩, ⟨by (with_reducible repeat (first | refine blk_drewN ?_ _ | refine blk_drew ?_ | refine blk_alloc ?_ _)); refine blk_far ?_ NB345_346.out _; (with_reducible repeat (first | refine blk_drewN ?_ _ | refine blk_drew ?_ | refine blk_alloc ?_ _)); refine blk_far ?_ NB345_346.out _; (with_reducible repeat (first | refine blk_drewN ?_ _ | refine blk_drew ?_ | refine blk_alloc ?_ _)); exact BK345.out⟩, ⟨by (with_reducible repeat (first | refine blk_drewN ?_ _ | refine blk_drew ?_ | refine blk_alloc ?_ _)); refine blk_put (cs := #[.int .i64 (wrap64 (1 + (Int.tmod (wrap64 (a0)) 12))), .slice none 0 0]) ?_ 1 _ rfl; (with_reducible repeat (first | refine blk_drewN ?_ _ | refine blk_drew ?_ | refine blk_alloc ?_ _)); refine blk_put (cs := #[.int .i64 0, .slice none 0 0]) ?_ 0 _ rfl; (with_reducible repeat (first | refine blk_drewN ?_ _ | refine blk_drew ?_ | refine blk_alloc ?_ _)); exact BK346.out⟩, ⟨by repeat (first | (with_reducible first | exact HB.out | apply below_alloc | apply pw_below_drewN | apply below_drew1 | refine below_set ?_ GE345.out | refine below_set ?_ GE346.out) | exact HB.out)⟩⟩
 case round =>
  clear H'
  try clear hcz6_0
  try clear hcz6_1
  try clear hfz6_0
  try clear hfz6_1
  obtain ⟨x6_1, x347001_1, u347001, rfl, HA, HK1, HO_347001, BK345, BK346, HB⟩ := hrel
  cases gk with
  | zero => exact absurd HA.out (by simp [ancepsref09_Made.l0])
  | succ k1 =>
   have H := HA.out
   clear HA
   simp only [ancepsref09_Made.l0] at H
   by_cases c7 : x6_1 < (l1.length : Int)
   ·rw [if_pos c7] at H
    have c7b0 : decide (x6_1 < (l1.length : Int)) = true := decide_eq_true c7
    clear c7
    by_cases c8 : x6_1 < 40
    ·rw [if_pos c8] at H
     have c8b0 : decide (x6_1 < 40) = true := decide_eq_true c8
     clear c8
     by_cases c9 : (wrap64 (1 + (Int.tmod (wrap64 (a0)) 12))) > 1
     ·rw [if_pos c9] at H
      have c9b0 : decide (1 < (wrap64 (1 + (Int.tmod (wrap64 (a0)) 12)))) = true := decide_eq_true c9
      clear c9
      by_cases c10 : 0 ≤ x6_1
      ·rw [if_pos c10] at H
       have c10b0 : decide (0 ≤ x6_1) = true := decide_eq_true c10
       clear c10
       by_cases c11 : (wrap64 ((wrap64 (1 + (Int.tmod (wrap64 (a0)) 12))) - 1)) = 0
       ·rw [if_pos c11] at H
        exact absurd H (by simp)
       ·rw [if_neg c11] at H
        have c11b0 : ((wrap64 ((wrap64 (1 + (Int.tmod (wrap64 (a0)) 12))) - 1)) == 0) = false := beq_eq_false_iff_ne.mpr c11
        have c11b1 : ((wrap64 ((wrap64 (1 + (Int.tmod (wrap64 (a0)) 12))) - 1)) != 0) = true := bne_iff_ne.mpr c11
        by_cases c12 : (wrap64 ((wrap64 ((wrap64 (1 + (Int.tmod (wrap64 (a0)) 12))) - 1)) - (Int.tmod (wrap64 (rd l1 x6_1)) (wrap64 ((wrap64 (1 + (Int.tmod (wrap64 (a0)) 12))) - 1))))) = 0
        ·rw [if_pos c12] at H
         exact absurd H (by simp)
        ·rw [if_neg c12] at H
         have c12b0 : ((wrap64 ((wrap64 ((wrap64 (1 + (Int.tmod (wrap64 (a0)) 12))) - 1)) - (Int.tmod (wrap64 (rd l1 x6_1)) (wrap64 ((wrap64 (1 + (Int.tmod (wrap64 (a0)) 12))) - 1))))) == 0) = false := beq_eq_false_iff_ne.mpr c12
         have c12b1 : ((wrap64 ((wrap64 ((wrap64 (1 + (Int.tmod (wrap64 (a0)) 12))) - 1)) - (Int.tmod (wrap64 (rd l1 x6_1)) (wrap64 ((wrap64 (1 + (Int.tmod (wrap64 (a0)) 12))) - 1))))) != 0) = true := bne_iff_ne.mpr c12
         by_cases c13 : x347001_1.length < 5864062014805
         ·rw [if_pos c13] at H
          have LMc13 := Aside0.mk c13
          clear c13
          obtain ⟨y349, hy349⟩ : ∃ y_ : List (S69), y_ = (x347001_1 ++ [(⟨Int.tmod (wrap64 (rd l1 x6_1)) (wrap64 ((wrap64 (1 + (Int.tmod (wrap64 (a0)) 12))) - 1)), wrap64 ((wrap64 ((Int.tmod (wrap64 (rd l1 x6_1)) (wrap64 ((wrap64 (1 + (Int.tmod (wrap64 (a0)) 12))) - 1))) + 1)) + (Int.tmod (Int.tmod (wrap64 (Int.tdiv (wrap64 (rd l1 x6_1)) 12)) 12) (wrap64 ((wrap64 ((wrap64 (1 + (Int.tmod (wrap64 (a0)) 12))) - 1)) - (Int.tmod (wrap64 (rd l1 x6_1)) (wrap64 ((wrap64 (1 + (Int.tmod (wrap64 (a0)) 12))) - 1))))))), Int.tmod (wrap64 (Int.tdiv (wrap64 (rd l1 x6_1)) 144)) 12⟩ : S69)]) := ⟨_, rfl⟩
          replace H : (ancepsref09_Made.l0 k1 l1 (wrap64 (x6_1 + 1)) (wrap64 (1 + (Int.tmod (wrap64 (a0)) 12))) y349) = some (r1, r2) := by first | (rw [hy349]; with_reducible exact H) | (have H2_ := (Option.bind_some _ _).symm.trans H; rw [hy349]; with_reducible exact H2_) | (have H2_ := (Option.bind_some _ _).symm.trans H; with_reducible exact H2_) | with_reducible exact H | (rw [hy349]; exact H) | exact H
          have Ny349 := Aside0.mk hy349
          clear hy349
          have H' := Aside0.mk H
          clear H
          have hnb14 := NB346_345.out
          have hnc14 := NB345_346.out
          have hcz15_0 : wr.cell? ⟨gb346, 0, none⟩ = some (.int .i64 (wrap64 (1 + (Int.tmod (wrap64 (a0)) 12)))) := (blk_cell BK346.out 0).trans rfl
          have hcz15_1 : wr.cell? ⟨gb346, 1, none⟩ = some (u347001) := (blk_cell BK346.out 1).trans rfl
          have hfz15_0 := blk_frozen BK346.out 0
          have hfz15_1 := blk_frozen BK346.out 1
          have p347 : 0 ≤ (x6_1 : Int) := of_decide_eq_true zh
          have q347 : x6_1 < (l1.length : Int) := of_decide_eq_true zh
          obtain ⟨ad347, e347, hx347_0⟩ := Kd.at_int HR1.out x6_1 p347 q347
          cases e347
          replace hx347_0 := (HB.out.cell (World.block_lt_of_cell? w _ hx347_0)).trans hx347_0
          replace p347 := eq_true p347
          replace q347 := eq_true q347
          try go_wp2_with (first | ((with_reducible refine gate_dst (N := 8) rfl ?_); refine box_event ?hg (N := 8) ?hd (cs := #[.int .i64 0, .int .i64 0, .int .i64 0]) (t := 69) ?hr ?_; (case hd => rfl); (case hg => rfl); (case hr => first | (go_simp; done) | (go_simp; rfl)); intro gb348 hg w16 hbox hb; have n0_ := Aside0.mk (Kd.R_below (Kd.R_elderB (zR HO_347001) gb348 (Nat.le_of_eq hg.symm)) hb); have n1_ := Aside0.mk (blk_below (g := gb345) (o := .cells #[.int .i64 0, .slice none 0 0] 24 (0, 0)) (zk BK345) hb); have n2_ := Aside0.mk (blk_below (g := gb346) (o := .cells #[.int .i64 (wrap64 (1 + (Int.tmod (wrap64 (a0)) 12))), u347001] 24 (0, 0)) (zk BK346) hb); have n3_ := Aside0.mk (below_step zB hb); have n4_ := Aside0.mk (hbox); have n5_ := Aside0.mk ((by rw [hg]; exact (below_size zB) : w.heap.size ≤ gb348)); have n6_ := Aside0.mk ((by rw [hg]; exact (below_size zB) : w.heap.size ≤ gb348)); have n7_ := Aside0.mk ((by rw [hg]; exact Nat.ne_of_lt (blk_lt (g := gb345) (o := .cells #[.int .i64 0, .slice none 0 0] 24 (0, 0)) (zk BK345)) : gb345 ≠ gb348)); have n8_ := Aside0.mk ((by rw [hg]; exact Nat.ne_of_gt (blk_lt (g := gb345) (o := .cells #[.int .i64 0, .slice none 0 0] 24 (0, 0)) (zk BK345)) : gb348 ≠ gb345)); have n9_ := Aside0.mk ((by rw [hg]; exact Nat.ne_of_lt (blk_lt (g := gb346) (o := .cells #[.int .i64 (wrap64 (1 + (Int.tmod (wrap64 (a0)) 12))), u347001] 24 (0, 0)) (zk BK346)) : gb346 ≠ gb348)); have n10_ := Aside0.mk ((by rw [hg]; exact Nat.ne_of_gt (blk_lt (g := gb346) (o := .cells #[.int .i64 (wrap64 (1 + (Int.tmod (wrap64 (a0)) 12))), u347001] 24 (0, 0)) (zk BK346)) : gb348 ≠ gb346)); clear HO_347001; clear BK345; clear BK346; clear HB; have HO_347001 := n0_; have BK345 := n1_; have BK346 := n2_; have HB := n3_; have BK348 := n4_; have GW348 := n5_; have GE348 := n6_; have NB345_348 := n7_; have NB348_345 := n8_; have NB346_348 := n9_; have NB348_346 := n10_; clear n0_ n1_ n2_ n3_ n4_ n5_ n6_ n7_ n8_ n9_ n10_; clear hb hbox hg; have hnb17 := NB348_345.out; have hnc17 := NB345_348.out; have hnb18 := NB348_346.out; have hnc18 := NB346_348.out; have hcz19_0 : w16.cell? ⟨gb348, 0, none⟩ = some (.int .i64 0) := (blk_cell BK348.out 0).trans rfl; have hcz19_1 : w16.cell? ⟨gb348, 1, none⟩ = some (.int .i64 0) := (blk_cell BK348.out 1).trans rfl; have hcz19_2 : w16.cell? ⟨gb348, 2, none⟩ = some (.int .i64 0) := (blk_cell BK348.out 2).trans rfl; have hfz19_0 := blk_frozen BK348.out 0; have hfz19_1 := blk_frozen BK348.out 1; have hfz19_2 := blk_frozen BK348.out 2))
          have n0_ : Aside0 (Kd.R k69 69 (((w16.setCell ⟨gb348, 0, none⟩ (.int .i64 (Int.tmod (wrap64 (rd l1 x6_1)) (wrap64 ((wrap64 (1 + (Int.tmod (wrap64 (a0)) 12))) - 1))))).setCell ⟨gb348, 1, none⟩ (.int .i64 0)).setCell ⟨gb348, 2, none⟩ (.int .i64 (Int.tmod (wrap64 (Int.tdiv (wrap64 (rd l1 x6_1)) 144)) 12))) w.heap.size (fun k_ => k_ ≠ gb348) u347001 x347001_1) := ⟨by (with_reducible repeat (first | apply Kd.R_alloc | apply Kd.R_drewN | apply Kd.R_drew)); exact Kd.R_mono (Kd.R_far (p := ⟨gb348, 2, none⟩) (Kd.R_far (p := ⟨gb348, 1, none⟩) (Kd.R_far (p := ⟨gb348, 0, none⟩) (Kd.R_mono HO_347001.out (fun k_ hk => (⟨hk, hk.2⟩ : _ ∧ k_ ≠ gb348))) (fun _ hk => hk.2) (.int .i64 (Int.tmod (wrap64 (rd l1 x6_1)) (wrap64 ((wrap64 (1 + (Int.tmod (wrap64 (a0)) 12))) - 1))))) (fun _ hk => hk.2) (.int .i64 0)) (fun _ hk => hk.2) (.int .i64 (Int.tmod (wrap64 (Int.tdiv (wrap64 (rd l1 x6_1)) 144)) 12))) (fun _ hk => hk.1.2)⟩
          have n1_ : Aside0 ((((w16.setCell ⟨gb348, 0, none⟩ (.int .i64 (Int.tmod (wrap64 (rd l1 x6_1)) (wrap64 ((wrap64 (1 + (Int.tmod (wrap64 (a0)) 12))) - 1))))).setCell ⟨gb348, 1, none⟩ (.int .i64 0)).setCell ⟨gb348, 2, none⟩ (.int .i64 (Int.tmod (wrap64 (Int.tdiv (wrap64 (rd l1 x6_1)) 144)) 12))).heap[gb345]? = some (.cells #[.int .i64 0, .slice none 0 0] 24 (0, 0))) := ⟨by (with_reducible repeat (first | refine blk_drewN ?_ _ | refine blk_drew ?_ | refine blk_alloc ?_ _)); refine blk_far ?_ NB345_348.out _; (with_reducible repeat (first | refine blk_drewN ?_ _ | refine blk_drew ?_ | refine blk_alloc ?_ _)); refine blk_far ?_ NB345_348.out _; (with_reducible repeat (first | refine blk_drewN ?_ _ | refine blk_drew ?_ | refine blk_alloc ?_ _)); refine blk_far ?_ NB345_348.out _; (with_reducible repeat (first | refine blk_drewN ?_ _ | refine blk_drew ?_ | refine blk_alloc ?_ _)); exact BK345.out⟩
          have n2_ : Aside0 ((((w16.setCell ⟨gb348, 0, none⟩ (.int .i64 (Int.tmod (wrap64 (rd l1 x6_1)) (wrap64 ((wrap64 (1 + (Int.tmod (wrap64 (a0)) 12))) - 1))))).setCell ⟨gb348, 1, none⟩ (.int .i64 0)).setCell ⟨gb348, 2, none⟩ (.int .i64 (Int.tmod (wrap64 (Int.tdiv (wrap64 (rd l1 x6_1)) 144)) 12))).heap[gb346]? = some (.cells #[.int .i64 (wrap64 (1 + (Int.tmod (wrap64 (a0)) 12))), u347001] 24 (0, 0))) := ⟨by (with_reducible repeat (first | refine blk_drewN ?_ _ | refine blk_drew ?_ | refine blk_alloc ?_ _)); refine blk_far ?_ NB346_348.out _; (with_reducible repeat (first | refine blk_drewN ?_ _ | refine blk_drew ?_ | refine blk_alloc ?_ _)); refine blk_far ?_ NB346_348.out _; (with_reducible repeat (first | refine blk_drewN ?_ _ | refine blk_drew ?_ | refine blk_alloc ?_ _)); refine blk_far ?_ NB346_348.out _; (with_reducible repeat (first | refine blk_drewN ?_ _ | refine blk_drew ?_ | refine blk_alloc ?_ _)); exact BK346.out⟩
          have n3_ : Aside0 ((((w16.setCell ⟨gb348, 0, none⟩ (.int .i64 (Int.tmod (wrap64 (rd l1 x6_1)) (wrap64 ((wrap64 (1 + (Int.tmod (wrap64 (a0)) 12))) - 1))))).setCell ⟨gb348, 1, none⟩ (.int .i64 0)).setCell ⟨gb348, 2, none⟩ (.int .i64 (Int.tmod (wrap64 (Int.tdiv (wrap64 (rd l1 x6_1)) 144)) 12))).heap[gb348]? = some (.cells #[.int .i64 (Int.tmod (wrap64 (rd l1 x6_1)) (wrap64 ((wrap64 (1 + (Int.tmod (wrap64 (a0)) 12))) - 1))), .int .i64 0, .int .i64 (Int.tmod (wrap64 (Int.tdiv (wrap64 (rd l1 x6_1)) 144)) 12)] 69 (0, 0))) := ⟨by (with_reducible repeat (first | refine blk_drewN ?_ _ | refine blk_drew ?_ | refine blk_alloc ?_ _)); refine blk_put (cs := #[.int .i64 (Int.tmod (wrap64 (rd l1 x6_1)) (wrap64 ((wrap64 (1 + (Int.tmod (wrap64 (a0)) 12))) - 1))), .int .i64 0, .int .i64 0]) ?_ 2 _ rfl; (with_reducible repeat (first | refine blk_drewN ?_ _ | refine blk_drew ?_ | refine blk_alloc ?_ _)); refine blk_put (cs := #[.int .i64 (Int.tmod (wrap64 (rd l1 x6_1)) (wrap64 ((wrap64 (1 + (Int.tmod (wrap64 (a0)) 12))) - 1))), .int .i64 0, .int .i64 0]) ?_ 1 _ rfl; (with_reducible repeat (first | refine blk_drewN ?_ _ | refine blk_drew ?_ | refine blk_alloc ?_ _)); refine blk_put (cs := #[.int .i64 0, .int .i64 0, .int .i64 0]) ?_ 0 _ rfl; (with_reducible repeat (first | refine blk_drewN ?_ _ | refine blk_drew ?_ | refine blk_alloc ?_ _)); exact BK348.out⟩
          have n4_ : Aside0 (Below w.heap.size w (((w16.setCell ⟨gb348, 0, none⟩ (.int .i64 (Int.tmod (wrap64 (rd l1 x6_1)) (wrap64 ((wrap64 (1 + (Int.tmod (wrap64 (a0)) 12))) - 1))))).setCell ⟨gb348, 1, none⟩ (.int .i64 0)).setCell ⟨gb348, 2, none⟩ (.int .i64 (Int.tmod (wrap64 (Int.tdiv (wrap64 (rd l1 x6_1)) 144)) 12)))) := ⟨by repeat (first | (with_reducible first | exact HB.out | apply below_alloc | apply pw_below_drewN | apply below_drew1 | refine below_set ?_ GE345.out | refine below_set ?_ GE346.out | refine below_set ?_ GE348.out) | exact HB.out)⟩
          (try clear HO_347001)
          (try clear BK345)
          (try clear BK346)
          (try clear BK348)
          (try clear HB)
          generalize (((w16.setCell ⟨gb348, 0, none⟩ (.int .i64 (Int.tmod (wrap64 (rd l1 x6_1)) (wrap64 ((wrap64 (1 + (Int.tmod (wrap64 (a0)) 12))) - 1))))).setCell ⟨gb348, 1, none⟩ (.int .i64 0)).setCell ⟨gb348, 2, none⟩ (.int .i64 (Int.tmod (wrap64 (Int.tdiv (wrap64 (rd l1 x6_1)) 144)) 12))) = w20 at n0_ n1_ n2_ n3_ n4_ ⊢
          have HO_347001 := n0_
          have BK345 := n1_
          have BK346 := n2_
          have BK348 := n3_
          have HB := n4_
          clear n0_ n1_ n2_ n3_ n4_
          have n0_ := Aside0.mk (Kd.R_drew HO_347001.out)
          have n1_ := Aside0.mk (blk_drew BK345.out)
          have n2_ := Aside0.mk (blk_drew BK346.out)
          have n3_ := Aside0.mk (blk_drew BK348.out)
          have n4_ := Aside0.mk (below_drew1 HB.out)
          clear HO_347001
          clear BK345
          clear BK346
          clear BK348
          clear HB
          have HO_347001 := n0_
          have BK345 := n1_
          have BK346 := n2_
          have BK348 := n3_
          have HB := n4_
          clear n0_ n1_ n2_ n3_ n4_
          refine start_ (n := 16) (S := fun w' => w'.cell? ⟨gb348, 0, none⟩ = some (.int .i64 (Int.tmod (wrap64 (rd l1 x6_1)) (wrap64 ((wrap64 (1 + (Int.tmod (wrap64 (a0)) 12))) - 1)))) ∧ w'.cell? ⟨gb348, 1, none⟩ = some (.int .i64 0) ∧ w'.cell? ⟨gb348, 2, none⟩ = some (.int .i64 (Int.tmod (wrap64 (Int.tdiv (wrap64 (rd l1 x6_1)) 144)) 12)) ∧ w'.cell? ⟨gb346, 0, none⟩ = some (.int .i64 (wrap64 (1 + (Int.tmod (wrap64 (a0)) 12)))) ∧ w'.cell? ⟨gb346, 1, none⟩ = some (u347001)) (ds := [15]) #[false, false, false, false, false, false, false, false, false, false, false, false, false, false, false, false] zK rfl rfl ⟨(blk_cell BK348.out 0).trans rfl, (blk_cell BK348.out 1).trans rfl, (blk_cell BK348.out 2).trans rfl, (blk_cell BK346.out 0).trans rfl, (blk_cell BK346.out 1).trans rfl⟩ (fun hHeld => ?_); refine with_tabW ancepsref09_Made.tab7 ancepsref09_Made.bits7 (fun HT_ HW_ => ?_)
          generalize w20.drew = w21 at HO_347001 BK345 BK346 BK348 HB hHeld ⊢
          refine pure_ (i := 0) (N := some 43) (v := ?_) (a' := ?_) #[true, false, false, false, false, false, false, false, false, false, false, false, false, false, false, false] rfl rfl (any_of HT_.out zK) (fun _ _ _ h => h) (Or.inl ⟨by rfl, ?_⟩) ?_ ?_
          rotate_left
          ·intro w'
           go_simp
           with_reducible rfl
          rotate_left
          ·simp only [Act.put, List.setIfInBounds_toArray, List.set_cons_zero, List.set_cons_succ, i64_w, i32_w]
           rfl
          refine pure_ (i := 3) (N := some 46) (v := ?_) (a' := ?_) #[true, false, false, true, false, false, false, false, false, false, false, false, false, false, false, false] rfl rfl (any_of HT_.out zK) (fun _ _ _ h => h) (Or.inl ⟨by rfl, ?_⟩) ?_ ?_
          rotate_left
          ·intro w'
           go_simp
           with_reducible rfl
          rotate_left
          ·simp only [Act.put, List.setIfInBounds_toArray, List.set_cons_zero, List.set_cons_succ, i64_w, i32_w]
           rfl
          refine pure_ (i := 4) (N := some 47) (v := ?_) (a' := ?_) #[true, false, false, true, true, false, false, false, false, false, false, false, false, false, false, false] rfl rfl (any_of HT_.out zK) (fun _ _ _ h => h) (Or.inl ⟨by rfl, ?_⟩) ?_ ?_
          rotate_left
          ·intro w'
           go_simp
           with_reducible rfl
          rotate_left
          ·simp only [Act.put, List.setIfInBounds_toArray, List.set_cons_zero, List.set_cons_succ, i64_w, i32_w]
           rfl
          refine pure_ (i := 5) (N := some 48) (v := ?_) (a' := ?_) #[true, false, false, true, true, true, false, false, false, false, false, false, false, false, false, false] rfl rfl (any_of HT_.out zK) (fun _ _ _ h => h) (Or.inl ⟨by rfl, ?_⟩) ?_ ?_
          rotate_left
          ·intro w'
           go_simp
           with_reducible rfl
          rotate_left
          ·simp only [Act.put, List.setIfInBounds_toArray, List.set_cons_zero, List.set_cons_succ, i64_w, i32_w]
           rfl
          refine pure_ (i := 6) (N := some 49) (v := ?_) (a' := ?_) #[true, false, false, true, true, true, true, false, false, false, false, false, false, false, false, false] rfl rfl (any_of HT_.out zK) (fun _ _ _ h => h) (Or.inl ⟨by rfl, ?_⟩) ?_ ?_
          rotate_left
          ·intro w'
           go_simp
           with_reducible rfl
          rotate_left
          ·simp only [Act.put, List.setIfInBounds_toArray, List.set_cons_zero, List.set_cons_succ, i64_w, i32_w]
           rfl
          refine pure_ (i := 9) (N := some 52) (v := ?_) (a' := ?_) #[true, false, false, true, true, true, true, false, false, true, false, false, false, false, false, false] rfl rfl (any_of HT_.out zK) (fun _ _ _ h => h) (Or.inl ⟨by rfl, ?_⟩) ?_ ?_
          rotate_left
          ·intro w'
           go_simp
           with_reducible rfl
          rotate_left
          ·simp only [Act.put, List.setIfInBounds_toArray, List.set_cons_zero, List.set_cons_succ, i64_w, i32_w]
           rfl
          refine take_ (i := 1) (N := some 44) (v := ?_) (a' := ?_) #[true, true, false, true, true, true, true, false, false, true, false, false, false, false, false, false] rfl rfl (take_ofW HT_.out HW_.out zK) (fun _ _ _ h => h) (Or.inl ⟨by rfl, ?_⟩) hHeld ?_ ?_
          rotate_left
          ·rintro w' ⟨s0, s1, s2, s3, s4⟩
           go_simp
           with_reducible rfl
          rotate_left
          ·simp only [Act.put, List.setIfInBounds_toArray, List.set_cons_zero, List.set_cons_succ, i64_w, i32_w]
           rfl
          refine pure_ (i := 2) (N := some 45) (v := ?_) (a' := ?_) #[true, true, true, true, true, true, true, false, false, true, false, false, false, false, false, false] rfl rfl (any_of HT_.out zK) (fun _ _ _ h => h) (Or.inl ⟨by rfl, ?_⟩) ?_ ?_
          rotate_left
          ·intro w'
           go_simp
           with_reducible rfl
          rotate_left
          ·simp only [Act.put, List.setIfInBounds_toArray, List.set_cons_zero, List.set_cons_succ, i64_w, i32_w]
           rfl
          refine take_ (i := 7) (N := some 50) (v := ?_) (a' := ?_) #[true, true, true, true, true, true, true, true, false, true, false, false, false, false, false, false] rfl rfl (take_ofW HT_.out HW_.out zK) (fun _ _ _ h => h) (Or.inl ⟨by rfl, ?_⟩) hHeld ?_ ?_
          rotate_left
          ·rintro w' ⟨s0, s1, s2, s3, s4⟩
           go_simp
           with_reducible rfl
          rotate_left
          ·simp only [Act.put, List.setIfInBounds_toArray, List.set_cons_zero, List.set_cons_succ, i64_w, i32_w]
           rfl
          refine pure_ (i := 8) (N := some 51) (v := ?_) (a' := ?_) #[true, true, true, true, true, true, true, true, true, true, false, false, false, false, false, false] rfl rfl (any_of HT_.out zK) (fun _ _ _ h => h) (Or.inl ⟨by rfl, ?_⟩) ?_ ?_
          rotate_left
          ·intro w'
           go_simp
           with_reducible rfl
          rotate_left
          ·simp only [Act.put, List.setIfInBounds_toArray, List.set_cons_zero, List.set_cons_succ, i64_w, i32_w]
           rfl
          refine take_ (i := 10) (N := some 53) (v := ?_) (a' := ?_) #[true, true, true, true, true, true, true, true, true, true, true, false, false, false, false, false] rfl rfl (take_ofW HT_.out HW_.out zK) (fun _ _ _ h => h) (Or.inl ⟨by rfl, ?_⟩) hHeld ?_ ?_
          rotate_left
          ·rintro w' ⟨s0, s1, s2, s3, s4⟩
           go_simp
           with_reducible rfl
          rotate_left
          ·simp only [Act.put, List.setIfInBounds_toArray, List.set_cons_zero, List.set_cons_succ, i64_w, i32_w]
           rfl
          refine pure_ (i := 11) (N := some 54) (v := ?_) (a' := ?_) #[true, true, true, true, true, true, true, true, true, true, true, true, false, false, false, false] rfl rfl (any_of HT_.out zK) (fun _ _ _ h => h) (Or.inl ⟨by rfl, ?_⟩) ?_ ?_
          rotate_left
          ·intro w'
           go_simp
           with_reducible rfl
          rotate_left
          ·simp only [Act.put, List.setIfInBounds_toArray, List.set_cons_zero, List.set_cons_succ, i64_w, i32_w]
           rfl
          refine pure_ (i := 12) (N := some 55) (v := ?_) (a' := ?_) #[true, true, true, true, true, true, true, true, true, true, true, true, true, false, false, false] rfl rfl (any_of HT_.out zK) (fun _ _ _ h => h) (Or.inl ⟨by rfl, ?_⟩) ?_ ?_
          rotate_left
          ·intro w'
           go_simp
           with_reducible rfl
          rotate_left
          ·simp only [Act.put, List.setIfInBounds_toArray, List.set_cons_zero, List.set_cons_succ, i64_w, i32_w]
           rfl
          refine pure_ (i := 13) (N := some 56) (v := ?_) (a' := ?_) #[true, true, true, true, true, true, true, true, true, true, true, true, true, true, false, false] rfl rfl (any_of HT_.out zK) (fun _ _ _ h => h) (Or.inl ⟨by rfl, ?_⟩) ?_ ?_
          rotate_left
          ·intro w'
           go_simp
           with_reducible rfl
          rotate_left
          ·simp only [Act.put, List.setIfInBounds_toArray, List.set_cons_zero, List.set_cons_succ, i64_w, i32_w]
           rfl
          refine pure_ (i := 14) (N := some 57) (v := ?_) (a' := ?_) #[true, true, true, true, true, true, true, true, true, true, true, true, true, true, true, false] rfl rfl (any_of HT_.out zK) (fun _ _ _ h => h) (Or.inl ⟨by rfl, ?_⟩) ?_ ?_
          rotate_left
          ·intro w'
           go_simp
           with_reducible rfl
          rotate_left
          ·simp only [Act.put, List.setIfInBounds_toArray, List.set_cons_zero, List.set_cons_succ, i64_w, i32_w]
           rfl
          refine last_ (i := 15) (N := none) #[true, true, true, true, true, true, true, true, true, true, true, true, true, true, true, true] rfl rfl (one_of HT_.out zK) (by decide) (fun K hK => ?_)
          have hs22 : w21.cell? ⟨gb348, 1, none⟩ = some (.int .i64 0) := (blk_cell BK348.out 1).trans rfl
          have hfs22 := blk_frozen BK348.out 1
          have hns22_0 := NB345_348.out
          have hns22_1 := NB346_348.out
          have hms22_0 := NB348_345.out
          have hms22_1 := NB348_346.out
          refine skip_ (w1 := ?_) (by rfl) rfl ?_ ?_
          rotate_left
          ·go_simp
           rfl
          refine hK.out _ _ ?_
          clear hK K
          refine done_ (done_of HT_.out zK) ?_
          have hcz23_0 : w21.cell? ⟨gb346, 0, none⟩ = some (.int .i64 (wrap64 (1 + (Int.tmod (wrap64 (a0)) 12)))) := (blk_cell BK346.out 0).trans rfl
          have hcz23_1 : w21.cell? ⟨gb346, 1, none⟩ = some (u347001) := (blk_cell BK346.out 1).trans rfl
          have hfz23_0 := blk_frozen BK346.out 0
          have hfz23_1 := blk_frozen BK346.out 1
          have hcz24_0 : w21.cell? ⟨gb348, 0, none⟩ = some (.int .i64 (Int.tmod (wrap64 (rd l1 x6_1)) (wrap64 ((wrap64 (1 + (Int.tmod (wrap64 (a0)) 12))) - 1)))) := (blk_cell BK348.out 0).trans rfl
          have hcz24_1 : w21.cell? ⟨gb348, 1, none⟩ = some (.int .i64 0) := (blk_cell BK348.out 1).trans rfl
          have hcz24_2 : w21.cell? ⟨gb348, 2, none⟩ = some (.int .i64 (Int.tmod (wrap64 (Int.tdiv (wrap64 (rd l1 x6_1)) 144)) 12)) := (blk_cell BK348.out 2).trans rfl
          have hfz24_0 := blk_frozen BK348.out 0
          have hfz24_1 := blk_frozen BK348.out 1
          have hfz24_2 := blk_frozen BK348.out 2
          try go_wp2_with (first | ((with_reducible refine gate_builtin (b := .append) (xs := #[.tmp 59, .tmp 61]) rfl ?_); at_builtin; refine Kd.R_append k69 (w0 := w) w.heap.size rfl (.tmp 59) (.tmp 61) 22 69 (.agg #[(.int .i64 0), (.int .i64 0), (.int .i64 0)]) 24 rfl Try.underlying22 info69 rfl (by decide) (by omega) u347001 x347001_1 (⟨Int.tmod (wrap64 (rd l1 x6_1)) (wrap64 ((wrap64 (1 + (Int.tmod (wrap64 (a0)) 12))) - 1)), wrap64 ((wrap64 ((Int.tmod (wrap64 (rd l1 x6_1)) (wrap64 ((wrap64 (1 + (Int.tmod (wrap64 (a0)) 12))) - 1))) + 1)) + (Int.tmod (Int.tmod (wrap64 (Int.tdiv (wrap64 (rd l1 x6_1)) 12)) 12) (wrap64 ((wrap64 ((wrap64 (1 + (Int.tmod (wrap64 (a0)) 12))) - 1)) - (Int.tmod (wrap64 (rd l1 x6_1)) (wrap64 ((wrap64 (1 + (Int.tmod (wrap64 (a0)) 12))) - 1))))))), Int.tmod (wrap64 (Int.tdiv (wrap64 (rd l1 x6_1)) 144)) 12⟩ : S69) [.int .i64 (Int.tmod (wrap64 (rd l1 x6_1)) (wrap64 ((wrap64 (1 + (Int.tmod (wrap64 (a0)) 12))) - 1))), .int .i64 (wrap64 ((wrap64 ((Int.tmod (wrap64 (rd l1 x6_1)) (wrap64 ((wrap64 (1 + (Int.tmod (wrap64 (a0)) 12))) - 1))) + 1)) + (Int.tmod (Int.tmod (wrap64 (Int.tdiv (wrap64 (rd l1 x6_1)) 12)) 12) (wrap64 ((wrap64 ((wrap64 (1 + (Int.tmod (wrap64 (a0)) 12))) - 1)) - (Int.tmod (wrap64 (rd l1 x6_1)) (wrap64 ((wrap64 (1 + (Int.tmod (wrap64 (a0)) 12))) - 1)))))))), .int .i64 (Int.tmod (wrap64 (Int.tdiv (wrap64 (rd l1 x6_1)) 144)) 12)] (fun k_ => k_ ≠ gb348) (fun _ => False) rfl (by first | (go_simp; done) | (go_simp; rfl)) ?aP (fun _ hk => hk.elim) ?aF ?aO ?aB ?aS ?aL ?_; (case aP => exact k69_mkM _ _ _ (⟨Int.tmod (wrap64 (rd l1 x6_1)) (wrap64 ((wrap64 (1 + (Int.tmod (wrap64 (a0)) 12))) - 1)), wrap64 ((wrap64 ((Int.tmod (wrap64 (rd l1 x6_1)) (wrap64 ((wrap64 (1 + (Int.tmod (wrap64 (a0)) 12))) - 1))) + 1)) + (Int.tmod (Int.tmod (wrap64 (Int.tdiv (wrap64 (rd l1 x6_1)) 12)) 12) (wrap64 ((wrap64 ((wrap64 (1 + (Int.tmod (wrap64 (a0)) 12))) - 1)) - (Int.tmod (wrap64 (rd l1 x6_1)) (wrap64 ((wrap64 (1 + (Int.tmod (wrap64 (a0)) 12))) - 1))))))), Int.tmod (wrap64 (Int.tdiv (wrap64 (rd l1 x6_1)) 144)) 12⟩ : S69)); (case aB => exact zB); (case aF => exact (fun k_ hk => Kd.freshB (g := gb348) (o := .cells #[.int .i64 (Int.tmod (wrap64 (rd l1 x6_1)) (wrap64 ((wrap64 (1 + (Int.tmod (wrap64 (a0)) 12))) - 1))), .int .i64 (wrap64 ((wrap64 ((Int.tmod (wrap64 (rd l1 x6_1)) (wrap64 ((wrap64 (1 + (Int.tmod (wrap64 (a0)) 12))) - 1))) + 1)) + (Int.tmod (Int.tmod (wrap64 (Int.tdiv (wrap64 (rd l1 x6_1)) 12)) 12) (wrap64 ((wrap64 ((wrap64 (1 + (Int.tmod (wrap64 (a0)) 12))) - 1)) - (Int.tmod (wrap64 (rd l1 x6_1)) (wrap64 ((wrap64 (1 + (Int.tmod (wrap64 (a0)) 12))) - 1)))))))), .int .i64 (Int.tmod (wrap64 (Int.tdiv (wrap64 (rd l1 x6_1)) 144)) 12)] 69 (0, 0)) (by (with_reducible repeat (first | refine blk_drewN ?_ _ | refine blk_drew ?_ | refine blk_alloc ?_ _)); refine blk_put (cs := #[.int .i64 (Int.tmod (wrap64 (rd l1 x6_1)) (wrap64 ((wrap64 (1 + (Int.tmod (wrap64 (a0)) 12))) - 1))), .int .i64 0, .int .i64 (Int.tmod (wrap64 (Int.tdiv (wrap64 (rd l1 x6_1)) 144)) 12)]) ?_ 1 _ rfl; (with_reducible repeat (first | refine blk_drewN ?_ _ | refine blk_drew ?_ | refine blk_alloc ?_ _)); exact BK348.out) k_ hk)); (case aO => exact (by (with_reducible repeat (first | apply Kd.R_alloc | apply Kd.R_drewN | apply Kd.R_drew)); exact Kd.R_mono (Kd.R_far (p := ⟨gb348, 1, none⟩) (Kd.R_mono HO_347001.out (fun k_ hk => (⟨hk, hk⟩ : _ ∧ k_ ≠ gb348))) (fun _ hk => hk.2) (.int .i64 (wrap64 ((wrap64 ((Int.tmod (wrap64 (rd l1 x6_1)) (wrap64 ((wrap64 (1 + (Int.tmod (wrap64 (a0)) 12))) - 1))) + 1)) + (Int.tmod (Int.tmod (wrap64 (Int.tdiv (wrap64 (rd l1 x6_1)) 12)) 12) (wrap64 ((wrap64 ((wrap64 (1 + (Int.tmod (wrap64 (a0)) 12))) - 1)) - (Int.tmod (wrap64 (rd l1 x6_1)) (wrap64 ((wrap64 (1 + (Int.tmod (wrap64 (a0)) 12))) - 1)))))))))) (fun _ hk => hk.1))); (case aS => exact (below_size zB)); (case aL => have := LMc13.out; omega); intro v350 w25 ho hb hg hat; rw [← Ny349.out] at ho; have n0_ := Aside0.mk (blk_grown (g := gb345) (o := .cells #[.int .i64 0, .slice none 0 0] 24 (0, 0)) (by (with_reducible repeat (first | refine blk_drewN ?_ _ | refine blk_drew ?_ | refine blk_alloc ?_ _)); refine blk_far ?_ NB345_348.out _; (with_reducible repeat (first | refine blk_drewN ?_ _ | refine blk_drew ?_ | refine blk_alloc ?_ _)); exact BK345.out) hg (Kd.R_ne HO_347001.out BK345.out (by decide))); have n1_ := Aside0.mk (blk_grown (g := gb346) (o := .cells #[.int .i64 (wrap64 (1 + (Int.tmod (wrap64 (a0)) 12))), u347001] 24 (0, 0)) (by (with_reducible repeat (first | refine blk_drewN ?_ _ | refine blk_drew ?_ | refine blk_alloc ?_ _)); refine blk_far ?_ NB346_348.out _; (with_reducible repeat (first | refine blk_drewN ?_ _ | refine blk_drew ?_ | refine blk_alloc ?_ _)); exact BK346.out) hg (Kd.R_ne HO_347001.out BK346.out (by decide))); have n2_ := Aside0.mk (blk_grown (g := gb348) (o := .cells #[.int .i64 (Int.tmod (wrap64 (rd l1 x6_1)) (wrap64 ((wrap64 (1 + (Int.tmod (wrap64 (a0)) 12))) - 1))), .int .i64 (wrap64 ((wrap64 ((Int.tmod (wrap64 (rd l1 x6_1)) (wrap64 ((wrap64 (1 + (Int.tmod (wrap64 (a0)) 12))) - 1))) + 1)) + (Int.tmod (Int.tmod (wrap64 (Int.tdiv (wrap64 (rd l1 x6_1)) 12)) 12) (wrap64 ((wrap64 ((wrap64 (1 + (Int.tmod (wrap64 (a0)) 12))) - 1)) - (Int.tmod (wrap64 (rd l1 x6_1)) (wrap64 ((wrap64 (1 + (Int.tmod (wrap64 (a0)) 12))) - 1)))))))), .int .i64 (Int.tmod (wrap64 (Int.tdiv (wrap64 (rd l1 x6_1)) 144)) 12)] 69 (0, 0)) (by (with_reducible repeat (first | refine blk_drewN ?_ _ | refine blk_drew ?_ | refine blk_alloc ?_ _)); refine blk_put (cs := #[.int .i64 (Int.tmod (wrap64 (rd l1 x6_1)) (wrap64 ((wrap64 (1 + (Int.tmod (wrap64 (a0)) 12))) - 1))), .int .i64 0, .int .i64 (Int.tmod (wrap64 (Int.tdiv (wrap64 (rd l1 x6_1)) 144)) 12)]) ?_ 1 _ rfl; (with_reducible repeat (first | refine blk_drewN ?_ _ | refine blk_drew ?_ | refine blk_alloc ?_ _)); exact BK348.out) hg (Kd.R_away HO_347001.out (fun _ hk => hk))); have n3_ := Aside0.mk (hb); have n4_ := Aside0.mk (ho); clear BK345; clear BK346; clear BK348; clear HB; clear HO_347001; have BK345 := n0_; have BK346 := n1_; have BK348 := n2_; have HB := n3_; have HO351 := n4_; clear n0_ n1_ n2_ n3_ n4_; clear ho hb hg hat; obtain ⟨Ao26, co26, eo26⟩ := Kd.R_slice HO351.out; subst eo26; have hcz27_0 : w25.cell? ⟨gb346, 0, none⟩ = some (.int .i64 (wrap64 (1 + (Int.tmod (wrap64 (a0)) 12)))) := (blk_cell BK346.out 0).trans rfl; have hcz27_1 : w25.cell? ⟨gb346, 1, none⟩ = some (u347001) := (blk_cell BK346.out 1).trans rfl; have hfz27_0 := blk_frozen BK346.out 0; have hfz27_1 := blk_frozen BK346.out 1))
          go_roundg k1
          case measure => have := HK1.out; omega
          case rel => exact ⟨(wrap64 (x6_1 + 1)), (y349), (.slice Ao26 y349.length co26), zT, H', ⟨by have := HK1.out; omega⟩, ⟨by (with_reducible repeat (first | apply Kd.R_alloc | apply Kd.R_drewN | apply Kd.R_drew)); exact Kd.R_mono (Kd.R_far (p := ⟨gb346, 1, none⟩) (Kd.R_types HO351.out BK346.out (by decide)) (fun _ hk => hk.2) (.slice Ao26 y349.length co26)) (fun _ hk => trivial)⟩, ⟨by (with_reducible repeat (first | refine blk_drewN ?_ _ | refine blk_drew ?_ | refine blk_alloc ?_ _)); refine blk_far ?_ NB345_346.out _; (with_reducible repeat (first | refine blk_drewN ?_ _ | refine blk_drew ?_ | refine blk_alloc ?_ _)); exact BK345.out⟩, ⟨by (with_reducible repeat (first | refine blk_drewN ?_ _ | refine blk_drew ?_ | refine blk_alloc ?_ _)); refine blk_put (cs := #[.int .i64 (wrap64 (1 + (Int.tmod (wrap64 (a0)) 12))), u347001]) ?_ 1 _ rfl; (with_reducible repeat (first | refine blk_drewN ?_ _ | refine blk_drew ?_ | refine blk_alloc ?_ _)); exact BK346.out⟩, ⟨by repeat (first | (with_reducible first | exact HB.out | apply below_alloc | apply pw_below_drewN | apply below_drew1 | refine below_set ?_ GE345.out | refine below_set ?_ GE346.out | refine below_set ?_ GE348.out) | exact HB.out)⟩⟩
         ·rw [if_neg c13] at H
          exact absurd H (by simp)
      ·rw [if_neg c10] at H
       exact absurd H (by simp)
     ·rw [if_neg c9] at H
      have c9b0 : decide (1 < (wrap64 (1 + (Int.tmod (wrap64 (a0)) 12)))) = false := decide_eq_false c9
      clear c9
      simp only [Option.some.injEq, Prod.mk.injEq] at H
      obtain ⟨rfl, rfl⟩ := H
      have hnb28 := NB346_345.out
      have hnc28 := NB345_346.out
      have hcz29_0 : wr.cell? ⟨gb346, 0, none⟩ = some (.int .i64 (wrap64 (1 + (Int.tmod (wrap64 (a0)) 12)))) := (blk_cell BK346.out 0).trans rfl
      have hcz29_1 : wr.cell? ⟨gb346, 1, none⟩ = some (u347001) := (blk_cell BK346.out 1).trans rfl
      have hfz29_0 := blk_frozen BK346.out 0
      have hfz29_1 := blk_frozen BK346.out 1
      have hcz30_0 : wr.cell? ⟨gb345, 0, none⟩ = some (.int .i64 0) := (blk_cell BK345.out 0).trans rfl
      have hcz30_1 : wr.cell? ⟨gb345, 1, none⟩ = some (.slice none 0 0) := (blk_cell BK345.out 1).trans rfl
      have hfz30_0 := blk_frozen BK345.out 0
      have hfz30_1 := blk_frozen BK345.out 1
      obtain ⟨Ao31, co31, eo31⟩ := Kd.R_slice HO_347001.out
      subst eo31
      go_wp2
      refine bodyPost_ret (results_cell_row rfl _ _ gb345 24 #[.int .i64 (wrap64 (1 + (Int.tmod (wrap64 (a0)) 12))), .slice Ao31 x347001_1.length co31] (0, 0) _ rfl (by (with_reducible repeat (first | refine blk_drewN ?_ _ | refine blk_drew ?_ | refine blk_alloc ?_ _)); refine blk_put (cs := #[.int .i64 (wrap64 (1 + (Int.tmod (wrap64 (a0)) 12))), .slice none 0 0]) ?_ 1 _ rfl; (with_reducible repeat (first | refine blk_drewN ?_ _ | refine blk_drew ?_ | refine blk_alloc ?_ _)); refine blk_put (cs := #[.int .i64 0, .slice none 0 0]) ?_ 0 _ rfl; (with_reducible repeat (first | refine blk_drewN ?_ _ | refine blk_drew ?_ | refine blk_alloc ?_ _)); exact BK345.out) Try.underlying24 rfl zK) rfl ?_
      exact ⟨_, by first | rfl | (simp [errW_none, errW_some] <;> rfl) | (simp [*, errW_none, errW_some] <;> rfl), by (with_reducible repeat (first | apply Kd.R_alloc | apply Kd.R_drewN | apply Kd.R_drew)); exact Kd.R_mono (Kd.R_far (p := ⟨gb345, 1, none⟩) (Kd.R_far (p := ⟨gb345, 0, none⟩) (Kd.R_types HO_347001.out BK345.out (by decide)) (fun _ hk => hk.2) (.int .i64 (wrap64 (1 + (Int.tmod (wrap64 (a0)) 12))))) (fun _ hk => hk.2) (.slice Ao31 x347001_1.length co31)) (fun _ hk => trivial), by repeat (first | (with_reducible first | exact HB.out | apply below_alloc | apply pw_below_drewN | apply below_drew1 | refine below_set ?_ GE345.out | refine below_set ?_ GE346.out) | exact HB.out)⟩
    ·rw [if_neg c8] at H
     have c8b0 : decide (x6_1 < 40) = false := decide_eq_false c8
     clear c8
     simp only [Option.some.injEq, Prod.mk.injEq] at H
     obtain ⟨rfl, rfl⟩ := H
     have hnb32 := NB346_345.out
     have hnc32 := NB345_346.out
     have hcz33_0 : wr.cell? ⟨gb346, 0, none⟩ = some (.int .i64 (wrap64 (1 + (Int.tmod (wrap64 (a0)) 12)))) := (blk_cell BK346.out 0).trans rfl
     have hcz33_1 : wr.cell? ⟨gb346, 1, none⟩ = some (u347001) := (blk_cell BK346.out 1).trans rfl
     have hfz33_0 := blk_frozen BK346.out 0
     have hfz33_1 := blk_frozen BK346.out 1
     have hcz34_0 : wr.cell? ⟨gb345, 0, none⟩ = some (.int .i64 0) := (blk_cell BK345.out 0).trans rfl
     have hcz34_1 : wr.cell? ⟨gb345, 1, none⟩ = some (.slice none 0 0) := (blk_cell BK345.out 1).trans rfl
     have hfz34_0 := blk_frozen BK345.out 0
     have hfz34_1 := blk_frozen BK345.out 1
     obtain ⟨Ao35, co35, eo35⟩ := Kd.R_slice HO_347001.out
     subst eo35
     go_wp2
     refine bodyPost_ret (results_cell_row rfl _ _ gb345 24 #[.int .i64 (wrap64 (1 + (Int.tmod (wrap64 (a0)) 12))), .slice Ao35 x347001_1.length co35] (0, 0) _ rfl (by (with_reducible repeat (first | refine blk_drewN ?_ _ | refine blk_drew ?_ | refine blk_alloc ?_ _)); refine blk_put (cs := #[.int .i64 (wrap64 (1 + (Int.tmod (wrap64 (a0)) 12))), .slice none 0 0]) ?_ 1 _ rfl; (with_reducible repeat (first | refine blk_drewN ?_ _ | refine blk_drew ?_ | refine blk_alloc ?_ _)); refine blk_put (cs := #[.int .i64 0, .slice none 0 0]) ?_ 0 _ rfl; (with_reducible repeat (first | refine blk_drewN ?_ _ | refine blk_drew ?_ | refine blk_alloc ?_ _)); exact BK345.out) Try.underlying24 rfl zK) rfl ?_
     exact ⟨_, by first | rfl | (simp [errW_none, errW_some] <;> rfl) | (simp [*, errW_none, errW_some] <;> rfl), by (with_reducible repeat (first | apply Kd.R_alloc | apply Kd.R_drewN | apply Kd.R_drew)); exact Kd.R_mono (Kd.R_far (p := ⟨gb345, 1, none⟩) (Kd.R_far (p := ⟨gb345, 0, none⟩) (Kd.R_types HO_347001.out BK345.out (by decide)) (fun _ hk => hk.2) (.int .i64 (wrap64 (1 + (Int.tmod (wrap64 (a0)) 12))))) (fun _ hk => hk.2) (.slice Ao35 x347001_1.length co35)) (fun _ hk => trivial), by repeat (first | (with_reducible first | exact HB.out | apply below_alloc | apply pw_below_drewN | apply below_drew1 | refine below_set ?_ GE345.out | refine below_set ?_ GE346.out) | exact HB.out)⟩
   ·rw [if_neg c7] at H
    have c7b0 : decide (x6_1 < (l1.length : Int)) = false := decide_eq_false c7
    clear c7
    simp only [Option.some.injEq, Prod.mk.injEq] at H
    obtain ⟨rfl, rfl⟩ := H
    have hnb36 := NB346_345.out
    have hnc36 := NB345_346.out
    have hcz37_0 : wr.cell? ⟨gb346, 0, none⟩ = some (.int .i64 (wrap64 (1 + (Int.tmod (wrap64 (a0)) 12)))) := (blk_cell BK346.out 0).trans rfl
    have hcz37_1 : wr.cell? ⟨gb346, 1, none⟩ = some (u347001) := (blk_cell BK346.out 1).trans rfl
    have hfz37_0 := blk_frozen BK346.out 0
    have hfz37_1 := blk_frozen BK346.out 1
    have hcz38_0 : wr.cell? ⟨gb345, 0, none⟩ = some (.int .i64 0) := (blk_cell BK345.out 0).trans rfl
    have hcz38_1 : wr.cell? ⟨gb345, 1, none⟩ = some (.slice none 0 0) := (blk_cell BK345.out 1).trans rfl
    have hfz38_0 := blk_frozen BK345.out 0
    have hfz38_1 := blk_frozen BK345.out 1
    obtain ⟨Ao39, co39, eo39⟩ := Kd.R_slice HO_347001.out
    subst eo39
    go_wp2
    refine bodyPost_ret (results_cell_row rfl _ _ gb345 24 #[.int .i64 (wrap64 (1 + (Int.tmod (wrap64 (a0)) 12))), .slice Ao39 x347001_1.length co39] (0, 0) _ rfl (by (with_reducible repeat (first | refine blk_drewN ?_ _ | refine blk_drew ?_ | refine blk_alloc ?_ _)); refine blk_put (cs := #[.int .i64 (wrap64 (1 + (Int.tmod (wrap64 (a0)) 12))), .slice none 0 0]) ?_ 1 _ rfl; (with_reducible repeat (first | refine blk_drewN ?_ _ | refine blk_drew ?_ | refine blk_alloc ?_ _)); refine blk_put (cs := #[.int .i64 0, .slice none 0 0]) ?_ 0 _ rfl; (with_reducible repeat (first | refine blk_drewN ?_ _ | refine blk_drew ?_ | refine blk_alloc ?_ _)); exact BK345.out) Try.underlying24 rfl zK) rfl ?_
    exact ⟨_, by first | rfl | (simp [errW_none, errW_some] <;> rfl) | (simp [*, errW_none, errW_some] <;> rfl), by (with_reducible repeat (first | apply Kd.R_alloc | apply Kd.R_drewN | apply Kd.R_drew)); exact Kd.R_mono (Kd.R_far (p := ⟨gb345, 1, none⟩) (Kd.R_far (p := ⟨gb345, 0, none⟩) (Kd.R_types HO_347001.out BK345.out (by decide)) (fun _ hk => hk.2) (.int .i64 (wrap64 (1 + (Int.tmod (wrap64 (a0)) 12))))) (fun _ hk => hk.2) (.slice Ao39 x347001_1.length co39)) (fun _ hk => trivial), by repeat (first | (with_reducible first | exact HB.out | apply below_alloc | apply pw_below_drewN | apply below_drew1 | refine below_set ?_ GE345.out | refine below_set ?_ GE346.out) | exact HB.out)⟩
/-! ### ancepsref09_Sum: function 55 -/
def ancepsref09_Sum.l0 : Nat → List Int → Int → Int → Int → List (S69) → Option (Int)
 | 0, _, _, _, _, _ => none
 | k + 1, x1, x5, x6, x353000, x353001 => if x6 < (x1.length : Int) then (if 0 ≤ x6 then (if 0 ≤ (rd x1 x6) then (if (rd x1 x6) < (x353001.length : Int) then (ancepsref09_Sum.l0 k x1 (wrap64 (x5 + ((rd_T69 x353001 (rd x1 x6)).f2))) (wrap64 (x6 + 1)) x353000 x353001) else (none)) else (none)) else (none)) else (some x5)
def ancepsref09_Sum.f (k : Nat) (a0_0 : Int) (l0_1 : List (S69)) (l1 : List Int) : Option (Int) := ancepsref09_Sum.l0 k l1 0 0 a0_0 l0_1
theorem ancepsref09_Sum.mono_l : ∀ k, (∀ y0 y1 y2 y3 y4, LeO (ancepsref09_Sum.l0 k y0 y1 y2 y3 y4) (ancepsref09_Sum.l0 (k + 1) y0 y1 y2 y3 y4))
 | 0 => fun _ _ _ _ _ r h => by simp [ancepsref09_Sum.l0] at h
 | k + 1 => by
  have ih0 := ancepsref09_Sum.mono_l k
  ·intro y0 y1 y2 y3 y4
   unfold ancepsref09_Sum.l0
   repeat' first
   | (with_reducible exact ih0 _ _ _ _ _)
   | (with_reducible exact LeO.refl _)
   | (with_reducible exact LeO.none _)
   | (with_reducible refine LeO.ite ?_ ?_)
   | (with_reducible refine LeO.bind ?_ (fun _ => ?_))
   | exact ih0 _ _ _ _ _
   | exact LeO.none _
   | refine LeO.ite ?_ ?_
   | refine LeO.bind ?_ (fun _ => ?_)
theorem ancepsref09_Sum.mono : ∀ a0 a1 a2 k, LeO (ancepsref09_Sum.f k a0 a1 a2) (ancepsref09_Sum.f (k + 1) a0 a1 a2) := by
 intro a0 a1 a2 k
 have ih0 := ancepsref09_Sum.mono_l k
 unfold ancepsref09_Sum.f
 repeat' first
   | (with_reducible exact ih0 _ _ _ _ _)
   | (with_reducible exact LeO.refl _)
   | (with_reducible exact LeO.none _)
   | (with_reducible refine LeO.ite ?_ ?_)
   | (with_reducible refine LeO.bind ?_ (fun _ => ?_))
   | exact ih0 _ _ _ _ _
   | exact LeO.none _
   | refine LeO.ite ?_ ?_
   | refine LeO.bind ?_ (fun _ => ?_)
set_option maxHeartbeats 8000000 in
set_option maxRecDepth 100000 in
theorem ancepsref09_Sum.calls (k : Nat) (a0_0 : Int) (A0_1 : Option Addr) (c0_1 : Nat) (l0_1 : List (S69)) (A1 : Option Addr) (c1 : Nat) (l1 : List Int) (r : Int) (w : World) (hr0_1 : Kd.C k69 w A0_1 l0_1.length l0_1) (hc0_1 : l0_1.length ≤ c0_1) (hr1 : Kd.C (Kd.int .i64) w A1 l1.length l1) (hc1 : l1.length ≤ c1) (h : ancepsref09_Sum.f k a0_0 l0_1 l1 = some r) :
  Calls Try.prog 55 #[.agg #[.int .i64 a0_0, .slice A0_1 l0_1.length c0_1], .slice A1 l1.length c1] w fun e w' => e = .returned (.int .i64 r) ∧ Below w.heap.size w w' := by
 have hu24 := Try.underlying24
 have hu22 := Try.underlying22
 have hu3 := Try.underlying3
 have HR0_1 := Aside0.mk hr0_1
 have HC0_1 := Aside0.mk hc0_1
 clear hr0_1 hc0_1
 have HR1 := Aside0.mk hr1
 have HC1 := Aside0.mk hc1
 clear hr1 hc1
 have HB := Aside0.mk (Below.refl w.heap.size w)
 have H : (ancepsref09_Sum.l0 k l1 0 0 a0_0 l0_1) = some r := h
 clear h
 have H' := Aside0.mk H
 clear H
 go_enter Try.func55, Try.ntmps55
 go_wp2_with (first | ((with_reducible refine gate_dst (N := 2) rfl ?_); refine box_event ?hg (N := 2) ?hd (cs := #[.int .i64 a0_0, .slice A0_1 l0_1.length c0_1]) (t := 24) ?hr ?_; (case hd => rfl); (case hg => rfl); (case hr => first | (go_simp; done) | (go_simp; rfl)); intro gb352 hg w3 hbox hb; have n0_ := Aside0.mk (below_step zB hb); have n1_ := Aside0.mk (hbox); have n2_ := Aside0.mk ((by rw [hg]; exact (below_size zB) : w.heap.size ≤ gb352)); have n3_ := Aside0.mk ((by rw [hg]; exact (below_size zB) : w.heap.size ≤ gb352)); clear HB; have HB := n0_; have BK352 := n1_; have GW352 := n2_; have GE352 := n3_; clear n0_ n1_ n2_ n3_; clear hb hbox hg))
 repeat (go_quiet (first | ((with_reducible refine gate_dst (N := 2) rfl ?_); refine box_event ?hg (N := 2) ?hd (cs := #[.int .i64 a0_0, .slice A0_1 l0_1.length c0_1]) (t := 24) ?hr ?_; (case hd => rfl); (case hg => rfl); (case hr => first | (go_simp; done) | (go_simp; rfl)); intro gb352 hg w3 hbox hb; have n0_ := Aside0.mk (below_step zB hb); have n1_ := Aside0.mk (hbox); have n2_ := Aside0.mk ((by rw [hg]; exact (below_size zB) : w.heap.size ≤ gb352)); have n3_ := Aside0.mk ((by rw [hg]; exact (below_size zB) : w.heap.size ≤ gb352)); clear HB; have HB := n0_; have BK352 := n1_; have GW352 := n2_; have GE352 := n3_; clear n0_ n1_ n2_ n3_; clear hb hbox hg)); try go_wp2_with (first | ((with_reducible refine gate_dst (N := 2) rfl ?_); refine box_event ?hg (N := 2) ?hd (cs := #[.int .i64 a0_0, .slice A0_1 l0_1.length c0_1]) (t := 24) ?hr ?_; (case hd => rfl); (case hg => rfl); (case hr => first | (go_simp; done) | (go_simp; rfl)); intro gb352 hg w3 hbox hb; have n0_ := Aside0.mk (below_step zB hb); have n1_ := Aside0.mk (hbox); have n2_ := Aside0.mk ((by rw [hg]; exact (below_size zB) : w.heap.size ≤ gb352)); have n3_ := Aside0.mk ((by rw [hg]; exact (below_size zB) : w.heap.size ≤ gb352)); clear HB; have HB := n0_; have BK352 := n1_; have GW352 := n2_; have GE352 := n3_; clear n0_ n1_ n2_ n3_; clear hb hbox hg)))
 go_loopg [5, 6] k (fun kq v5 v6 w' => ∃ (x5_1 : Int) (x6_1 : Int), v5 = .int .i64 x5_1 ∧ v6 = .int .i64 x6_1 ∧ Aside0 (ancepsref09_Sum.l0 kq l1 x5_1 x6_1 a0_0 l0_1 = some r) ∧ Aside0 (kq ≤ k) ∧ Aside0 (w'.heap[gb352]? = some (.cells #[.int .i64 a0_0, (.slice A0_1 l0_1.length c0_1)] 24 (0, 0))) ∧ Aside0 (Below w.heap.size w w'))
 case atStart => exact ⟨(0), (0), zT, zT, H', ⟨Nat.le_refl _⟩, ⟨by (with_reducible repeat (first | refine blk_drewN ?_ _ | refine blk_drew ?_ | refine blk_alloc ?_ _)); exact BK352.out⟩, ⟨by repeat (first | (with_reducible first | exact HB.out | apply below_alloc | apply pw_below_drewN | apply below_drew1 | refine below_set ?_ GE352.out) | exact HB.out)⟩⟩
 case round =>
  clear H'
  obtain ⟨x5_1, x6_1, rfl, rfl, HA, HK1, BK352, HB⟩ := hrel
  cases gk with
  | zero => exact absurd HA.out (by simp [ancepsref09_Sum.l0])
  | succ k1 =>
   have H := HA.out
   clear HA
   simp only [ancepsref09_Sum.l0] at H
   by_cases c4 : x6_1 < (l1.length : Int)
   ·rw [if_pos c4] at H
    have c4b0 : decide (x6_1 < (l1.length : Int)) = true := decide_eq_true c4
    clear c4
    by_cases c5 : 0 ≤ x6_1
    ·rw [if_pos c5] at H
     have c5b0 : decide (0 ≤ x6_1) = true := decide_eq_true c5
     clear c5
     by_cases c6 : 0 ≤ (rd l1 x6_1)
     ·rw [if_pos c6] at H
      have c6b0 : decide (0 ≤ (rd l1 x6_1)) = true := decide_eq_true c6
      clear c6
      by_cases c7 : (rd l1 x6_1) < (l0_1.length : Int)
      ·rw [if_pos c7] at H
       have c7b0 : decide ((rd l1 x6_1) < (l0_1.length : Int)) = true := decide_eq_true c7
       clear c7
       have H' := Aside0.mk H
       clear H
       have hcz8_0 : wr.cell? ⟨gb352, 0, none⟩ = some (.int .i64 a0_0) := (blk_cell BK352.out 0).trans rfl
       have hcz8_1 : wr.cell? ⟨gb352, 1, none⟩ = some (.slice A0_1 l0_1.length c0_1) := (blk_cell BK352.out 1).trans rfl
       have hfz8_0 := blk_frozen BK352.out 0
       have hfz8_1 := blk_frozen BK352.out 1
       have p353 : 0 ≤ (x6_1 : Int) := of_decide_eq_true zh
       have q353 : x6_1 < (l1.length : Int) := of_decide_eq_true zh
       obtain ⟨ad353, e353, hx353_0⟩ := Kd.at_int HR1.out x6_1 p353 q353
       cases e353
       replace hx353_0 := (HB.out.cell (World.block_lt_of_cell? w _ hx353_0)).trans hx353_0
       replace p353 := eq_true p353
       replace q353 := eq_true q353
       have p354 : 0 ≤ ((rd l1 x6_1) : Int) := of_decide_eq_true zh
       have q354 : (rd l1 x6_1) < (l0_1.length : Int) := of_decide_eq_true zh
       obtain ⟨ad354, e354, hx354_0, hx354_1, hx354_2⟩ := at_T69 HR0_1.out (rd l1 x6_1) p354 q354
       cases e354
       replace hx354_0 := (HB.out.cell (World.block_lt_of_cell? w _ hx354_0)).trans hx354_0
       replace hx354_1 := (HB.out.cell (World.block_lt_of_cell? w _ hx354_1)).trans hx354_1
       replace hx354_2 := (HB.out.cell (World.block_lt_of_cell? w _ hx354_2)).trans hx354_2
       replace p354 := eq_true p354
       replace q354 := eq_true q354
       go_wp2
       repeat (go_quiet (fail); try go_wp2)
       go_roundg k1
       case measure => have := HK1.out; omega
       case rel => exact ⟨(wrap64 (x5_1 + ((rd_T69 l0_1 (rd l1 x6_1)).f2))), (wrap64 (x6_1 + 1)), zT, zT, H', ⟨by have := HK1.out; omega⟩, ⟨by (with_reducible repeat (first | refine blk_drewN ?_ _ | refine blk_drew ?_ | refine blk_alloc ?_ _)); exact BK352.out⟩, ⟨by repeat (first | (with_reducible first | exact HB.out | apply below_alloc | apply pw_below_drewN | apply below_drew1 | refine below_set ?_ GE352.out) | exact HB.out)⟩⟩
      ·rw [if_neg c7] at H
       exact absurd H (by simp)
     ·rw [if_neg c6] at H
      exact absurd H (by simp)
    ·rw [if_neg c5] at H
     exact absurd H (by simp)
   ·rw [if_neg c4] at H
    have c4b0 : decide (x6_1 < (l1.length : Int)) = false := decide_eq_false c4
    clear c4
    obtain rfl := Option.some.inj H
    go_wp2
    repeat (go_quiet (fail); try go_wp2)
    go_ret
    exact ⟨by first | rfl | (simp [errW_none, errW_some] <;> rfl) | (simp [*, errW_none, errW_some] <;> rfl), by repeat (first | (with_reducible first | exact HB.out | apply below_alloc | apply pw_below_drewN | apply below_drew1 | refine below_set ?_ GE352.out) | exact HB.out)⟩
/-! ### slices_Sort_int_int: function 69 -/
section
open Go.Sort Go.Shelf
def slices_Sort_int_int.f (l0 : List Int) : Option (List Int) := if l0.length < 4611686018427387904 then some (l0.mergeSort fun x y => decide (x ≤ y)) else none
theorem slices_Sort_int_int.calls (P0_ : Nat → Prop) (u9000_ : Value) (l0 : List Int) (r : List Int) (w0 w : World) (hB : Below w0.heap.size w0 w) (ho0 : Kd.R (Kd.int .i64) 3 w w0.heap.size P0_ u9000_ l0) (h : slices_Sort_int_int.f l0 = some r) :
 Calls Try.prog 69 #[u9000_] w fun e w' => e = .returned (.tuple #[]) ∧ Kd.R (Kd.int .i64) 3 w' w0.heap.size (fun k_ => (P0_ k_ ∨ w.heap.size ≤ k_)) u9000_ r ∧ Below w0.heap.size w0 w' ∧ Kept w w' (fun k_ => P0_ k_) := by
 unfold slices_Sort_int_int.f at h
 by_cases hsz : l0.length < 4611686018427387904
 case neg => rw [if_neg hsz] at h; exact absurd h (by simp)
 rw [if_pos hsz] at h
 obtain rfl := Option.some.inj h
 obtain ⟨A, c, rfl⟩ := Kd.R_slice ho0
 rcases A with _ | ad
 ·have hl : l0 = [] := by
   rcases l0 with _ | ⟨x, xs⟩
   ·rfl
   ·have ho := Kd.own_of_R (enc := Value.int .i64) (h1 := fun _ => rfl) ho0
    rcases ho.2 with ⟨_, h0⟩ | ⟨_, _, _, h0, _⟩
    ·simp at h0
    ·simp at h0
  subst hl
  refine (Any.slices_Sort_int_none laysSort none c w).mono ?_
  rintro e w' ⟨rfl, rfl⟩
  exact ⟨rfl, by rw [List.mergeSort_nil]; exact Kd.R_mono ho0 (fun k hk => .inl hk), hB, Kept.refl _ _⟩
 ·have had : ∃ g, ad = ⟨g, 0, none⟩ := by
   have ho := Kd.own_of_R (enc := Value.int .i64) (h1 := fun _ => rfl) ho0
   rcases ho.2 with ⟨h0, _⟩ | ⟨g, _, _, h0, _⟩
   ·simp at h0
   ·injection h0 with h0; injection h0 with h0; exact ⟨g, h0⟩
  obtain ⟨g, rfl⟩ := had
  obtain ⟨h1, h2, h3, h4, h5, h6, h7⟩ := int_row ho0
  refine (Any.slices_Sort_int laysSort g 0 c l0 w h7 h3 hsz).mono ?_
  rintro e w' ⟨rfl, n, os, rfl⟩
  have hl : (l0.mergeSort fun x y => decide (x ≤ y)).length = l0.length := List.length_mergeSort l0
  have hr := int_row_put (ok' := fun k_ => (P0_ k_ ∨ w.heap.size ≤ k_)) ho0 n os hl (Nat.le_refl _) (.inl h1)
  rw [List.take_of_length_le (by omega)] at hr
  exact ⟨rfl, hr, put_below hB h2 n os _, put_kept (ok := fun k_ => P0_ k_) n os _ h1⟩
end
/-! ### ancepslaw09_costs: function 38 -/
def ancepslaw09_costs.l0 : Nat → List Int → List (List Int) → Int → Int → Int → List (S69) → Option (List Int)
 | 0, _, _, _, _, _, _ => none
 | k + 1, x5, x13, x14, x15, x478000, x478001 => if x15 < x14 then (if 0 ≤ x15 then (if x15 < (x13.length : Int) then ((ancepsref09_Sum.f k x478000 x478001 (rd_L2 x13 x15)).bind fun t483 => (if x5.length < 17592186044416 then (ancepslaw09_costs.l0 k (x5 ++ [t483]) x13 x14 (wrap64 (x15 + 1)) x478000 x478001) else (none))) else (none)) else (none)) else ((slices_Sort_int_int.f x5).bind fun t487 => (some t487))
def ancepslaw09_costs.f (k : Nat) (a0_0 : Int) (l0_1 : List (S69)) : Option (List Int) := (ancepsref09_Paths.f k a0_0 l0_1).bind fun bt478 => (ancepslaw09_costs.l0 k ([] : List Int) bt478.1 (bt478.1.length : Int) 0 a0_0 l0_1)
theorem ancepslaw09_costs.mono_l : ∀ k, (∀ y0 y1 y2 y3 y4 y5, LeO (ancepslaw09_costs.l0 k y0 y1 y2 y3 y4 y5) (ancepslaw09_costs.l0 (k + 1) y0 y1 y2 y3 y4 y5))
 | 0 => fun _ _ _ _ _ _ r h => by simp [ancepslaw09_costs.l0] at h
 | k + 1 => by
  have ih0 := ancepslaw09_costs.mono_l k
  ·intro y0 y1 y2 y3 y4 y5
   unfold ancepslaw09_costs.l0
   repeat' first
   | (with_reducible exact ih0 _ _ _ _ _ _)
   | (with_reducible exact ancepsref09_Paths.mono _ _ _)
   | (with_reducible exact ancepsref09_Sum.mono _ _ _ _)
   | (with_reducible exact LeO.refl _)
   | (with_reducible exact LeO.none _)
   | (with_reducible refine LeO.ite ?_ ?_)
   | (with_reducible refine LeO.bind ?_ (fun _ => ?_))
   | exact ih0 _ _ _ _ _ _
   | exact ancepsref09_Paths.mono _ _ _
   | exact ancepsref09_Sum.mono _ _ _ _
   | exact LeO.none _
   | refine LeO.ite ?_ ?_
   | refine LeO.bind ?_ (fun _ => ?_)
theorem ancepslaw09_costs.mono : ∀ a0 a1 k, LeO (ancepslaw09_costs.f k a0 a1) (ancepslaw09_costs.f (k + 1) a0 a1) := by
 intro a0 a1 k
 have ih0 := ancepslaw09_costs.mono_l k
 unfold ancepslaw09_costs.f
 repeat' first
   | (with_reducible exact ih0 _ _ _ _ _ _)
   | (with_reducible exact ancepsref09_Paths.mono _ _ _)
   | (with_reducible exact ancepsref09_Sum.mono _ _ _ _)
   | (with_reducible exact LeO.refl _)
   | (with_reducible exact LeO.none _)
   | (with_reducible refine LeO.ite ?_ ?_)
   | (with_reducible refine LeO.bind ?_ (fun _ => ?_))
   | exact ih0 _ _ _ _ _ _
   | exact ancepsref09_Paths.mono _ _ _
   | exact ancepsref09_Sum.mono _ _ _ _
   | exact LeO.none _
   | refine LeO.ite ?_ ?_
   | refine LeO.bind ?_ (fun _ => ?_)
set_option maxHeartbeats 8000000 in
set_option maxRecDepth 100000 in
theorem ancepslaw09_costs.calls (k : Nat) (a0_0 : Int) (A0_1 : Option Addr) (c0_1 : Nat) (l0_1 : List (S69)) (r : List Int) (w : World) (hr0_1 : Kd.C k69 w A0_1 l0_1.length l0_1) (hc0_1 : l0_1.length ≤ c0_1) (h : ancepslaw09_costs.f k a0_0 l0_1 = some r) :
  Calls Try.prog 38 #[.agg #[.int .i64 a0_0, .slice A0_1 l0_1.length c0_1]] w fun e w' => ∃ v0_ : Value, e = .returned (v0_) ∧ Kd.R (Kd.int .i64) 3 w' w.heap.size (fun _ => True) v0_ r ∧ Below w.heap.size w w' := by
 have hu24 := Try.underlying24
 have hu25 := Try.underlying25
 have HR0_1 := Aside0.mk hr0_1
 have HC0_1 := Aside0.mk hc0_1
 clear hr0_1 hc0_1
 have HB := Aside0.mk (Below.refl w.heap.size w)
 have H : ((ancepsref09_Paths.f k a0_0 l0_1).bind fun bt478 => (ancepslaw09_costs.l0 k ([] : List Int) bt478.1 (bt478.1.length : Int) 0 a0_0 l0_1)) = some r := h
 clear h
 replace H := Option.bind_eq_some_iff.mp H
 obtain ⟨⟨t478, t481⟩, A20, H⟩ := H
 replace H : (ancepslaw09_costs.l0 k ([] : List Int) t478 (t478.length : Int) 0 a0_0 l0_1) = some r := H
 have A2 := Aside0.mk A20
 clear A20
 have H' := Aside0.mk H
 clear H
 go_enter Try.func38, Try.ntmps38
 go_wp2_with (first | ((with_reducible refine gate_dst (N := 1) rfl ?_); refine box_event ?hg (N := 1) ?hd (cs := #[.int .i64 a0_0, .slice A0_1 l0_1.length c0_1]) (t := 24) ?hr ?_; (case hd => rfl); (case hg => rfl); (case hr => first | (go_simp; done) | (go_simp; rfl)); intro gb477 hg w3 hbox hb; have n0_ := Aside0.mk (below_step zB hb); have n1_ := Aside0.mk (hbox); have n2_ := Aside0.mk ((by rw [hg]; exact (below_size zB) : w.heap.size ≤ gb477)); have n3_ := Aside0.mk ((by rw [hg]; exact (below_size zB) : w.heap.size ≤ gb477)); clear HB; have HB := n0_; have BK477 := n1_; have GW477 := n2_; have GE477 := n3_; clear n0_ n1_ n2_ n3_; clear hb hbox hg; have hcz4_0 : w3.cell? ⟨gb477, 0, none⟩ = some (.int .i64 a0_0) := (blk_cell BK477.out 0).trans rfl; have hcz4_1 : w3.cell? ⟨gb477, 1, none⟩ = some (.slice A0_1 l0_1.length c0_1) := (blk_cell BK477.out 1).trans rfl; have hfz4_0 := blk_frozen BK477.out 0; have hfz4_1 := blk_frozen BK477.out 1) | ((with_reducible refine gate_callee (f := 22) rfl ?_); refine goesL_ (some 10) rfl rfl Try.func22 zK rfl #[.agg #[.int .i64 a0_0, .slice A0_1 l0_1.length c0_1]] rfl zM ?_; (with_reducible refine (ancepsref09_Paths.calls k a0_0 _ _ l0_1 t478 t481 _ ?side1 ?side2 A2.out).mono ?_); (case side1 => repeat (first | exact (Kd.C_below HR0_1.out HB.out) | (with_reducible refine Kd.C_alloc ?_ _) | (with_reducible refine Kd.C_drewN ?_ _) | (with_reducible refine Kd.C_drew ?_))); (case side2 => exact HC0_1.out); rintro e w5 ⟨v479, rfl, ho0, hb⟩; refine ⟨_, rfl, ?_⟩; have n0_ := Aside0.mk (Kd.N_lower (Kd.N_mono (ok' := fun k_ => k_ ≠ gb477) ho0 (fun k_ hk_ => (Kd.freshB (g := gb477) (o := .cells #[.int .i64 a0_0, .slice A0_1 l0_1.length c0_1] 24 (0, 0)) (zk BK477) k_ hk_))) (below_size zB)); have n1_ := Aside0.mk (blk_below (g := gb477) (o := .cells #[.int .i64 a0_0, .slice A0_1 l0_1.length c0_1] 24 (0, 0)) (zk BK477) hb); have n2_ := Aside0.mk (below_step zB hb); clear BK477; clear HB; have HO480 := n0_; have BK477 := n1_; have HB := n2_; clear n0_ n1_ n2_; (try clear hb); (try clear hb2); (try clear hk); (try clear hi); (try clear ho0); obtain ⟨Ao6, co6, eo6⟩ := Kd.N_slice HO480.out; subst eo6))
 go_loopg [5, 15] k (fun kq v5 v15 w' => ∃ (x5_1 : List Int) (x15_1 : Int), v15 = .int .i64 x15_1 ∧ Aside0 (ancepslaw09_costs.l0 kq x5_1 t478 (t478.length : Int) x15_1 a0_0 l0_1 = some r) ∧ Aside0 (kq ≤ k) ∧ Aside0 (Kd.R (Kd.int .i64) 3 w' w.heap.size (fun _ => True) v5 x5_1) ∧ Aside0 (Kd.N (Kd.slice 3 (Kd.int .i64)) 25 w' w.heap.size (fun k_ => some k_ ≠ (v5 : Value).ownBlock ∧ k_ ≠ gb477) (.slice Ao6 t478.length co6) t478) ∧ Aside0 (w'.heap[gb477]? = some (.cells #[.int .i64 a0_0, (.slice A0_1 l0_1.length c0_1)] 24 (0, 0))) ∧ Aside0 (Below w.heap.size w w'))
 case atStart => exact ⟨(([] : List Int)), (0), zT, H', ⟨Nat.le_refl _⟩, ⟨by first | exact Kd.R_nil _ _ _ _ _ | exact Kd.N_nil _ _ _ _ _ | exact Kd.V_nil _ _ _ _ _ | exact Kd.Q_nil _ _ _ _ _ | exact Kd.S_nil _ _ _ _ _⟩, ⟨by (with_reducible repeat (first | apply Kd.N_alloc | apply Kd.N_drewN | apply Kd.N_drew)); exact Kd.N_mono HO480.out (fun _ hk => ⟨(by simp [Value.ownBlock]), hk⟩)⟩, ⟨by (with_reducible repeat (first | refine blk_drewN ?_ _ | refine blk_drew ?_ | refine blk_alloc ?_ _)); exact BK477.out⟩, ⟨by repeat (first | (with_reducible first | exact HB.out | apply below_alloc | apply pw_below_drewN | apply below_drew1 | refine below_set ?_ GE477.out) | exact HB.out)⟩⟩
 case round =>
  clear H'
  try clear hcz4_0
  try clear hcz4_1
  try clear hfz4_0
  try clear hfz4_1
  obtain ⟨x5_1, x15_1, rfl, HA, HK1, HO_5, HO_13, BK477, HB⟩ := hrel
  cases gk with
  | zero => exact absurd HA.out (by simp [ancepslaw09_costs.l0])
  | succ k1 =>
   have H := HA.out
   clear HA
   simp only [ancepslaw09_costs.l0] at H
   by_cases c7 : x15_1 < (t478.length : Int)
   ·rw [if_pos c7] at H
    have c7b0 : decide (x15_1 < (t478.length : Int)) = true := decide_eq_true c7
    clear c7
    by_cases c8 : 0 ≤ x15_1
    ·rw [if_pos c8] at H
     have c8b0 : decide (0 ≤ x15_1) = true := decide_eq_true c8
     clear c8
     by_cases c9 : x15_1 < (t478.length : Int)
     ·rw [if_pos c9] at H
      have c9b0 : decide (x15_1 < (t478.length : Int)) = true := decide_eq_true c9
      clear c9
      replace H := Option.bind_eq_some_iff.mp H
      obtain ⟨t483, A100, H⟩ := H
      replace H : (if x5_1.length < 17592186044416 then (ancepslaw09_costs.l0 k1 (x5_1 ++ [t483]) t478 (t478.length : Int) (wrap64 (x15_1 + 1)) a0_0 l0_1) else (none)) = some r := H
      have A10 := Aside0.mk A100
      clear A100
      by_cases c11 : x5_1.length < 17592186044416
      ·rw [if_pos c11] at H
       have LMc11 := Aside0.mk c11
       clear c11
       obtain ⟨y484, hy484⟩ : ∃ y_ : List Int, y_ = (x5_1 ++ [t483]) := ⟨_, rfl⟩
       replace H : (ancepslaw09_costs.l0 k1 y484 t478 (t478.length : Int) (wrap64 (x15_1 + 1)) a0_0 l0_1) = some r := by first | (rw [hy484]; with_reducible exact H) | (have H2_ := (Option.bind_some _ _).symm.trans H; rw [hy484]; with_reducible exact H2_) | (have H2_ := (Option.bind_some _ _).symm.trans H; with_reducible exact H2_) | with_reducible exact H | (rw [hy484]; exact H) | exact H
       have Ny484 := Aside0.mk hy484
       clear hy484
       have H' := Aside0.mk H
       clear H
       have p482 : 0 ≤ (x15_1 : Int) := of_decide_eq_true zh
       have q482 : x15_1 < (t478.length : Int) := of_decide_eq_true zh
       obtain ⟨ad482, A482_0, c482_0, e482, hx482_0, hl482_0, hi482_0⟩ := at_L2 (Kd.N_reads' HO_13.out).2.2 x15_1 p482 q482
       cases e482
       obtain ⟨ce482, hce482, hMe482, hcc482⟩ := Kd.N_get HO_13.out [] x15_1 p482 (by first | exact q482 | exact of_decide_eq_true zh | (have e_ := (Kd.N_reads' HO_13.out).1; omega))
       obtain ⟨ua482_0, uc482_0, rfl, ul482_0, ge482_0⟩ := Kd.FK_slice_open hMe482
       have hv482_0 := hcc482 0 _ rfl
       rw [Nat.add_zero, show ((Kd.slice 3 (Kd.int .i64))).sz = 1 from rfl, Nat.mul_one] at hv482_0
       replace hv482_0 := Option.some.inj (hv482_0.symm.trans hx482_0)
       injection hv482_0 with hva_ hvn_ hvc_
       rw [hva_] at ge482_0
       rw [hvc_] at ul482_0
       have HL482_0 := Aside0.mk (show Kd.V (Kd.int .i64) 3 _ w.heap.size _ _ (rd_L2 t478 x15_1) from Kd.V_mk ul482_0 ge482_0)
       clear hva_ hvn_ hvc_ ge482_0 ul482_0
       clear hcc482 hce482
       have HR482_0 := Aside0.mk hi482_0
       have HC482_0 := Aside0.mk hl482_0
       clear hi482_0 hl482_0
       replace p482 := eq_true p482
       replace q482 := eq_true q482
       have hcz12_0 : wr.cell? ⟨gb477, 0, none⟩ = some (.int .i64 a0_0) := (blk_cell BK477.out 0).trans rfl
       have hcz12_1 : wr.cell? ⟨gb477, 1, none⟩ = some (.slice A0_1 l0_1.length c0_1) := (blk_cell BK477.out 1).trans rfl
       have hfz12_0 := blk_frozen BK477.out 0
       have hfz12_1 := blk_frozen BK477.out 1
       go_wp2_with (first | ((with_reducible refine gate_callee (f := 55) rfl ?_); refine goesL_ (some 22) rfl rfl Try.func55 zK rfl #[.agg #[.int .i64 a0_0, .slice A0_1 l0_1.length c0_1], .slice A482_0 (rd_L2 t478 x15_1).length c482_0] rfl zM ?_; (with_reducible refine (ancepsref09_Sum.calls k1 a0_0 _ _ l0_1 _ _ (rd_L2 t478 x15_1) t483 _ ?side1 ?side2 ?side3 ?side4 A10.out).mono ?_); (case side1 => repeat (first | exact (Kd.C_below HR0_1.out HB.out) | (with_reducible refine Kd.C_alloc ?_ _) | (with_reducible refine Kd.C_drewN ?_ _) | (with_reducible refine Kd.C_drew ?_))); (case side2 => exact HC0_1.out); (case side3 => repeat (first | exact (by repeat (first | (with_reducible exact HR482_0.out) | (with_reducible refine Kd.C_alloc ?_ _) | (with_reducible refine Kd.C_drewN ?_ _) | (with_reducible refine Kd.C_drew ?_) | exact HR482_0.out)) | (with_reducible refine Kd.C_alloc ?_ _) | (with_reducible refine Kd.C_drewN ?_ _) | (with_reducible refine Kd.C_drew ?_))); (case side4 => exact HC482_0.out); rintro e w13 ⟨rfl, hb⟩; refine ⟨_, rfl, ?_⟩; have n0_ := Aside0.mk (Kd.R_below (zR HO_5) hb); have n1_ := Aside0.mk (Kd.N_below (zN HO_13) hb); have n2_ := Aside0.mk (Kd.V_below (by (with_reducible repeat (first | apply Kd.V_alloc | apply Kd.V_drewN | apply Kd.V_drew)); exact HL482_0.out) hb); have n3_ := Aside0.mk (blk_below (g := gb477) (o := .cells #[.int .i64 a0_0, .slice A0_1 l0_1.length c0_1] 24 (0, 0)) (zk BK477) hb); have n4_ := Aside0.mk (Kd.C_below (by repeat (first | (with_reducible exact HR482_0.out) | (with_reducible refine Kd.C_alloc ?_ _) | (with_reducible refine Kd.C_drewN ?_ _) | (with_reducible refine Kd.C_drew ?_) | exact HR482_0.out)) hb); have n5_ := Aside0.mk (below_step zB hb); clear HO_5; clear HO_13; clear HL482_0; clear BK477; clear HR482_0; clear HB; have HO_5 := n0_; have HO_13 := n1_; have HL482_0 := n2_; have BK477 := n3_; have HR482_0 := n4_; have HB := n5_; clear n0_ n1_ n2_ n3_ n4_ n5_; (try clear hb); (try clear hb2); (try clear hk); (try clear hi)) | ((with_reducible refine gate_builtin (b := .append) (xs := #[.tmp 19, .tmp 23]) rfl ?_); at_builtin; refine Kd.R_append (Kd.int .i64) (w0 := w) w.heap.size rfl (.tmp 19) (.tmp 23) 25 3 (.int .i64 0) 8 rfl Try.underlying25 info3 rfl (by decide) (by omega) u5 x5_1 t483 [.int .i64 t483] (fun _ => True) (fun _ => False) rfl rfl ?aP (fun _ hk => hk.elim) ?aF ?aO ?aB ?aS ?aL ?_; (case aP => exact rfl); (case aB => exact zB); (case aF => exact (fun _ _ => trivial)); (case aO => exact (zR HO_5)); (case aS => exact (below_size zB)); (case aL => have := LMc11.out; omega); intro v485 w14 ho hb hg hat; rw [← Ny484.out] at ho; have n0_ := Aside0.mk (Kd.N_afterv (ok := (fun k_ => k_ ≠ gb477)) (by (with_reducible repeat (first | apply Kd.N_alloc | apply Kd.N_drewN | apply Kd.N_drew)); exact Kd.N_mono HO_13.out (fun _ hk => ⟨hk.2, hk.1⟩)) hg hat); have n1_ := Aside0.mk (blk_grown (g := gb477) (o := .cells #[.int .i64 a0_0, .slice A0_1 l0_1.length c0_1] 24 (0, 0)) (zk BK477) hg (Kd.R_ne HO_5.out BK477.out (by decide))); have n2_ := Aside0.mk (Kd.V_afterv (ok := (fun k_ => some k_ ≠ (.slice (some ad482) t478.length co6 : Value).ownBlock ∧ k_ ≠ gb477)) (by (with_reducible repeat (first | apply Kd.V_alloc | apply Kd.V_drewN | apply Kd.V_drew)); exact Kd.V_mono HL482_0.out (fun _ hk => ⟨⟨hk.2, hk.1.2⟩, hk.1.1⟩)) hg hat); have n3_ := Aside0.mk (hb); have n4_ := Aside0.mk (ho); clear HO_13; clear BK477; clear HL482_0; clear HB; clear HO_5; have HO_13 := n0_; have BK477 := n1_; have HL482_0 := n2_; have HB := n3_; have HO486 := n4_; clear n0_ n1_ n2_ n3_ n4_; clear ho hb hg hat))
       go_roundg k1
       case measure => have := HK1.out; omega
       case rel => exact ⟨(y484), (wrap64 (x15_1 + 1)), zT, H', ⟨by have := HK1.out; omega⟩, ⟨by (with_reducible repeat (first | apply Kd.R_alloc | apply Kd.R_drewN | apply Kd.R_drew)); exact HO486.out⟩, ⟨by (with_reducible repeat (first | apply Kd.N_alloc | apply Kd.N_drewN | apply Kd.N_drew)); exact Kd.N_mono HO_13.out (fun _ hk => ⟨hk.2, hk.1⟩)⟩, ⟨by (with_reducible repeat (first | refine blk_drewN ?_ _ | refine blk_drew ?_ | refine blk_alloc ?_ _)); exact BK477.out⟩, ⟨by repeat (first | (with_reducible first | exact HB.out | apply below_alloc | apply pw_below_drewN | apply below_drew1 | refine below_set ?_ GE477.out) | exact HB.out)⟩⟩
      ·rw [if_neg c11] at H
       exact absurd H (by simp)
     ·rw [if_neg c9] at H
      exact absurd H (by simp)
    ·rw [if_neg c8] at H
     exact absurd H (by simp)
   ·rw [if_neg c7] at H
    have c7b0 : decide (x15_1 < (t478.length : Int)) = false := decide_eq_false c7
    clear c7
    replace H := Option.bind_eq_some_iff.mp H
    obtain ⟨t487, A150, H⟩ := H
    replace H : (some t487) = some r := H
    have A15 := Aside0.mk A150
    clear A150
    obtain rfl := Option.some.inj H
    obtain ⟨Ao16, co16, eo16⟩ := Kd.R_slice HO_5.out
    subst eo16
    go_wp2_with (first | ((with_reducible refine gate_callee (f := 69) rfl ?_); refine goesL_ (some 27) rfl rfl Try.func69 zK rfl #[.slice Ao16 x5_1.length co16] rfl zM ?_; (with_reducible refine (slices_Sort_int_int.calls (fun k_ => some k_ = (.slice Ao16 x5_1.length co16 : Value).ownBlock) (.slice Ao16 x5_1.length co16) x5_1 t487 w _ ?side1 ?side2 A15.out).mono ?_); (case side1 => repeat (first | (with_reducible first | exact HB.out | apply below_alloc | apply pw_below_drewN | apply below_drew1 | refine below_set ?_ GE477.out) | exact HB.out)); (case side2 => exact Kd.R_tight rfl HO_5.out); rintro e w17 ⟨rfl, hy0, hb, hkp⟩; refine ⟨_, rfl, ?_⟩; have n0_ := Aside0.mk (Kd.R_reok rfl hy0 (fun k_ e_ => HO_5.out.1 k_ e_)); have n1_ := Aside0.mk (Kd.N_mono (ok' := fun k_ => some k_ ≠ (.slice Ao16 x5_1.length co16 : Value).ownBlock ∧ k_ ≠ gb477) (Kd.N_keptB (HO_13.out) hkp (fun k_ hk_ hs_ => (hk_.1) hs_)) (fun k_ hk_ => ⟨hk_.1.1, hk_.1.2⟩)); have n2_ := Aside0.mk (blk_kept (zk BK477) hkp (fun hs_ => (fun e_ => (Kd.R_ne HO_5.out BK477.out (by decide)) e_) hs_)); have n3_ := Aside0.mk (hb); clear HO_5; clear HO_13; clear BK477; clear HB; have HO_5 := n0_; have HO_13 := n1_; have BK477 := n2_; have HB := n3_; clear n0_ n1_ n2_ n3_; (try clear hb); (try clear hkp); (try clear hy0)))
    go_ret
    exact ⟨_, by first | rfl | (simp [errW_none, errW_some] <;> rfl) | (simp [*, errW_none, errW_some] <;> rfl), by (with_reducible repeat (first | apply Kd.R_alloc | apply Kd.R_drewN | apply Kd.R_drew)); exact HO_5.out, by repeat (first | (with_reducible first | exact HB.out | apply below_alloc | apply pw_below_drewN | apply below_drew1 | refine below_set ?_ GE477.out) | exact HB.out)⟩
end Go.Proofs.Ytanbffoilianhaa.F
