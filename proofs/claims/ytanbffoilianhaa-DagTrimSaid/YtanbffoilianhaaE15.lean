-- Written by wip/tools/myprint.py, a program of this session's.
import Derived.Test.YtanbffoilianhaaE0
import Derived.Test.YtanbffoilianhaaE3
import Derived.Test.YtanbffoilianhaaE7
namespace Go.Proofs.Ytanbffoilianhaa.E
open Go.RowKit Go.Proofs.YtanbffoilianhaaW.PrintWords Go.Proofs.YtanbffoilianhaaW.PrintLast Go.Proofs.YtanbffoilianhaaW.PrintMore
attribute [local go_sem] max2_int min2_int max_two min_two max_three min_three max_four min_four   -- for this text's walks alone
set_option linter.unusedVariables false
set_option linter.unusedSimpArgs false
/-! ### dag_Reverse: function 24 -/
def dag_Reverse.l0 : Nat → Int → List (S69) → Int → Int → Int → List (S69) → Option (Int × (List (S69)) × Int)
 | 0, _, _, _, _, _, _ => none
 | k + 1, x6, x22, x23, x24, x376000, x376001 => if x24 < x23 then (if 0 ≤ x24 then (if x24 < (x22.length : Int) then (if x376001.length < 5864062014805 then (dag_Reverse.l0 k x6 x22 x23 (wrap64 (x24 + 1)) x376000 (x376001 ++ [(⟨wrap64 (x6 - ((rd_T69 x22 x24).f1)), wrap64 (x6 - ((rd_T69 x22 x24).f0)), (rd_T69 x22 x24).f2⟩ : S69)])) else (none)) else (none)) else (none)) else (some (x376000, x376001, 0))
def dag_Reverse.f (k : Nat) (a0_0 : Int) (l0_1 : List (S69)) : Option (Int × (List (S69)) × Int) := (dag_Valid.f k a0_0 l0_1).bind fun t374 => (if t374 = 0 then (dag_Reverse.l0 k (wrap64 (a0_0 - 1)) l0_1 (l0_1.length : Int) 0 a0_0 ([] : List (S69))) else (some (0, ([] : List (S69)), t374)))
theorem dag_Reverse.mono_l : ∀ k, (∀ y0 y1 y2 y3 y4 y5, LeO (dag_Reverse.l0 k y0 y1 y2 y3 y4 y5) (dag_Reverse.l0 (k + 1) y0 y1 y2 y3 y4 y5))
 | 0 => fun _ _ _ _ _ _ r h => by simp [dag_Reverse.l0] at h
 | k + 1 => by
  have ih0 := dag_Reverse.mono_l k
  ·intro y0 y1 y2 y3 y4 y5
   unfold dag_Reverse.l0
   repeat' first
   | (with_reducible exact ih0 _ _ _ _ _ _)
   | (with_reducible exact dag_Valid.mono _ _ _)
   | (with_reducible exact LeO.refl _)
   | (with_reducible exact LeO.none _)
   | (with_reducible refine LeO.ite ?_ ?_)
   | (with_reducible refine LeO.bind ?_ (fun _ => ?_))
   | exact ih0 _ _ _ _ _ _
   | exact dag_Valid.mono _ _ _
   | exact LeO.none _
   | refine LeO.ite ?_ ?_
   | refine LeO.bind ?_ (fun _ => ?_)
theorem dag_Reverse.mono : ∀ a0 a1 k, LeO (dag_Reverse.f k a0 a1) (dag_Reverse.f (k + 1) a0 a1) := by
 intro a0 a1 k
 have ih0 := dag_Reverse.mono_l k
 unfold dag_Reverse.f
 repeat' first
   | (with_reducible exact ih0 _ _ _ _ _ _)
   | (with_reducible exact dag_Valid.mono _ _ _)
   | (with_reducible exact LeO.refl _)
   | (with_reducible exact LeO.none _)
   | (with_reducible refine LeO.ite ?_ ?_)
   | (with_reducible refine LeO.bind ?_ (fun _ => ?_))
   | exact ih0 _ _ _ _ _ _
   | exact dag_Valid.mono _ _ _
   | exact LeO.none _
   | refine LeO.ite ?_ ?_
   | refine LeO.bind ?_ (fun _ => ?_)
set_option maxHeartbeats 8000000 in
set_option maxRecDepth 100000 in
theorem dag_Reverse.calls (k : Nat) (a0_0 : Int) (A0_1 : Option Addr) (c0_1 : Nat) (l0_1 : List (S69)) (r1 : Int) (r2 : List (S69)) (r3 : Int) (w : World) (hr0_1 : Kd.C k69 w A0_1 l0_1.length l0_1) (hc0_1 : l0_1.length ≤ c0_1) (h : dag_Reverse.f k a0_0 l0_1 = some (r1, r2, r3)) :
  Calls Try.prog 24 #[.agg #[.int .i64 a0_0, .slice A0_1 l0_1.length c0_1]] w fun e w' => ∃ v1_ : Value, e = .returned (.tuple #[.agg #[.int .i64 r1, v1_], .int .i64 r3]) ∧ Kd.R k69 69 w' w.heap.size (fun _ => True) v1_ r2 ∧ Below w.heap.size w w' := by
 have hu24 := Try.underlying24
 have hu3 := Try.underlying3
 have hu22 := Try.underlying22
 have hu69 := Try.underlying69
 have HR0_1 := Aside0.mk hr0_1
 have HC0_1 := Aside0.mk hc0_1
 clear hr0_1 hc0_1
 have HB := Aside0.mk (Below.refl w.heap.size w)
 have H : ((dag_Valid.f k a0_0 l0_1).bind fun t374 => (if t374 = 0 then (dag_Reverse.l0 k (wrap64 (a0_0 - 1)) l0_1 (l0_1.length : Int) 0 a0_0 ([] : List (S69))) else (some (0, ([] : List (S69)), t374)))) = some (r1, r2, r3) := h
 clear h
 replace H := Option.bind_eq_some_iff.mp H
 obtain ⟨t374, A20, H⟩ := H
 replace H : (if t374 = 0 then (dag_Reverse.l0 k (wrap64 (a0_0 - 1)) l0_1 (l0_1.length : Int) 0 a0_0 ([] : List (S69))) else (some (0, ([] : List (S69)), t374))) = some (r1, r2, r3) := H
 have A2 := Aside0.mk A20
 clear A20
 have HC3 := Aside0.mk H
 clear H
 go_enter Try.func24, Try.ntmps24
 go_upto_if 12 with (first | ((with_reducible refine gate_dst (N := 1) rfl ?_); refine box_event ?hg (N := 1) ?hd (cs := #[.int .i64 a0_0, .slice A0_1 l0_1.length c0_1]) (t := 24) ?hr ?_; (case hd => rfl); (case hg => rfl); (case hr => first | (go_simp; done) | (go_simp; rfl)); intro gb372 hg w4 hbox hb; have n0_ := Aside0.mk (below_step zB hb); have n1_ := Aside0.mk (hbox); have n2_ := Aside0.mk ((by rw [hg]; exact (below_size zB) : w.heap.size ≤ gb372)); have n3_ := Aside0.mk ((by rw [hg]; exact (below_size zB) : w.heap.size ≤ gb372)); clear HB; have HB := n0_; have BK372 := n1_; have GW372 := n2_; have GE372 := n3_; clear n0_ n1_ n2_ n3_; clear hb hbox hg) | ((with_reducible refine gate_dst (N := 2) rfl ?_); refine box_event ?hg (N := 2) ?hd (cs := #[.int .i64 0, .slice none 0 0]) (t := 24) ?hr ?_; (case hd => rfl); (case hg => rfl); (case hr => first | (go_simp; done) | (go_simp; rfl)); intro gb373 hg w5 hbox hb; have n0_ := Aside0.mk (blk_below (g := gb372) (o := .cells #[.int .i64 a0_0, .slice A0_1 l0_1.length c0_1] 24 (0, 0)) (zk BK372) hb); have n1_ := Aside0.mk (below_step zB hb); have n2_ := Aside0.mk (hbox); have n3_ := Aside0.mk ((by rw [hg]; exact (below_size zB) : w.heap.size ≤ gb373)); have n4_ := Aside0.mk ((by rw [hg]; exact (below_size zB) : w.heap.size ≤ gb373)); have n5_ := Aside0.mk ((by rw [hg]; exact Nat.ne_of_lt (blk_lt (g := gb372) (o := .cells #[.int .i64 a0_0, .slice A0_1 l0_1.length c0_1] 24 (0, 0)) (zk BK372)) : gb372 ≠ gb373)); have n6_ := Aside0.mk ((by rw [hg]; exact Nat.ne_of_gt (blk_lt (g := gb372) (o := .cells #[.int .i64 a0_0, .slice A0_1 l0_1.length c0_1] 24 (0, 0)) (zk BK372)) : gb373 ≠ gb372)); clear BK372; clear HB; have BK372 := n0_; have HB := n1_; have BK373 := n2_; have GW373 := n3_; have GE373 := n4_; have NB372_373 := n5_; have NB373_372 := n6_; clear n0_ n1_ n2_ n3_ n4_ n5_ n6_; clear hb hbox hg; have hnb6 := NB372_373.out; have hnc6 := NB373_372.out; have hcz7_0 : w5.cell? ⟨gb372, 0, none⟩ = some (.int .i64 a0_0) := (blk_cell BK372.out 0).trans rfl; have hcz7_1 : w5.cell? ⟨gb372, 1, none⟩ = some (.slice A0_1 l0_1.length c0_1) := (blk_cell BK372.out 1).trans rfl; have hfz7_0 := blk_frozen BK372.out 0; have hfz7_1 := blk_frozen BK372.out 1) | ((with_reducible refine gate_callee (f := 27) rfl ?_); refine goesL_ (some 10) rfl rfl Try.func27 zK rfl #[.agg #[.int .i64 a0_0, .slice A0_1 l0_1.length c0_1]] rfl zM ?_; (with_reducible refine (dag_Valid.calls k a0_0 _ _ l0_1 t374 _ ?side1 ?side2 A2.out).mono ?_); (case side1 => repeat (first | exact (Kd.C_below HR0_1.out HB.out) | (with_reducible refine Kd.C_alloc ?_ _) | (with_reducible refine Kd.C_drewN ?_ _) | (with_reducible refine Kd.C_drew ?_))); (case side2 => exact HC0_1.out); rintro e w8 ⟨rfl, hb⟩; refine ⟨_, rfl, ?_⟩; have n0_ := Aside0.mk (blk_below (g := gb372) (o := .cells #[.int .i64 a0_0, .slice A0_1 l0_1.length c0_1] 24 (0, 0)) (zk BK372) hb); have n1_ := Aside0.mk (blk_below (g := gb373) (o := .cells #[.int .i64 0, .slice none 0 0] 24 (0, 0)) (zk BK373) hb); have n2_ := Aside0.mk (below_step zB hb); clear BK372; clear BK373; clear HB; have BK372 := n0_; have BK373 := n1_; have HB := n2_; clear n0_ n1_ n2_; (try clear hb); (try clear hb2); (try clear hk); (try clear hi)))
 (try simp only [Act.put, List.setIfInBounds_toArray, List.set_cons_zero, List.set_cons_succ])
 have H := HC3.out
 clear HC3
 by_cases c9 : t374 = 0
 ·rw [if_pos c9] at H
  have c9b0 : (t374 == 0) = true := beq_iff_eq.mpr c9
  have c9b1 : (t374 != 0) = false := bne_eq_false_iff_eq.mpr c9
  clear c9
  (first | rw [c9b0] | (simp only [i64_w, i32_w]; rw [c9b0]) | skip)
  (try rw [c9b1])
  have H' := Aside0.mk H
  clear H
  have hnb10 := NB372_373.out
  have hnc10 := NB373_372.out
  have hcz11_0 : w8.cell? ⟨gb372, 0, none⟩ = some (.int .i64 a0_0) := (blk_cell BK372.out 0).trans rfl
  have hcz11_1 : w8.cell? ⟨gb372, 1, none⟩ = some (.slice A0_1 l0_1.length c0_1) := (blk_cell BK372.out 1).trans rfl
  have hfz11_0 := blk_frozen BK372.out 0
  have hfz11_1 := blk_frozen BK372.out 1
  go_wp2_with (first | ((with_reducible refine gate_dst (N := 5) rfl ?_); refine box_event ?hg (N := 5) ?hd (cs := #[.int .i64 0, .slice none 0 0]) (t := 24) ?hr ?_; (case hd => rfl); (case hg => rfl); (case hr => first | (go_simp; done) | (go_simp; rfl)); intro gb375 hg w12 hbox hb; have n0_ := Aside0.mk (blk_below (g := gb372) (o := .cells #[.int .i64 a0_0, .slice A0_1 l0_1.length c0_1] 24 (0, 0)) (zk BK372) hb); have n1_ := Aside0.mk (blk_below (g := gb373) (o := .cells #[.int .i64 0, .slice none 0 0] 24 (0, 0)) (zk BK373) hb); have n2_ := Aside0.mk (below_step zB hb); have n3_ := Aside0.mk (hbox); have n4_ := Aside0.mk ((by rw [hg]; exact (below_size zB) : w.heap.size ≤ gb375)); have n5_ := Aside0.mk ((by rw [hg]; exact (below_size zB) : w.heap.size ≤ gb375)); have n6_ := Aside0.mk ((by rw [hg]; exact Nat.ne_of_lt (blk_lt (g := gb372) (o := .cells #[.int .i64 a0_0, .slice A0_1 l0_1.length c0_1] 24 (0, 0)) (zk BK372)) : gb372 ≠ gb375)); have n7_ := Aside0.mk ((by rw [hg]; exact Nat.ne_of_gt (blk_lt (g := gb372) (o := .cells #[.int .i64 a0_0, .slice A0_1 l0_1.length c0_1] 24 (0, 0)) (zk BK372)) : gb375 ≠ gb372)); have n8_ := Aside0.mk ((by rw [hg]; exact Nat.ne_of_lt (blk_lt (g := gb373) (o := .cells #[.int .i64 0, .slice none 0 0] 24 (0, 0)) (zk BK373)) : gb373 ≠ gb375)); have n9_ := Aside0.mk ((by rw [hg]; exact Nat.ne_of_gt (blk_lt (g := gb373) (o := .cells #[.int .i64 0, .slice none 0 0] 24 (0, 0)) (zk BK373)) : gb375 ≠ gb373)); clear BK372; clear BK373; clear HB; have BK372 := n0_; have BK373 := n1_; have HB := n2_; have BK375 := n3_; have GW375 := n4_; have GE375 := n5_; have NB372_375 := n6_; have NB375_372 := n7_; have NB373_375 := n8_; have NB375_373 := n9_; clear n0_ n1_ n2_ n3_ n4_ n5_ n6_ n7_ n8_ n9_; clear hb hbox hg; have hnb13 := NB375_372.out; have hnc13 := NB372_375.out; have hnb14 := NB375_373.out; have hnc14 := NB373_375.out; have hcz15_0 : w12.cell? ⟨gb375, 0, none⟩ = some (.int .i64 0) := (blk_cell BK375.out 0).trans rfl; have hcz15_1 : w12.cell? ⟨gb375, 1, none⟩ = some (.slice none 0 0) := (blk_cell BK375.out 1).trans rfl; have hfz15_0 := blk_frozen BK375.out 0; have hfz15_1 := blk_frozen BK375.out 1; have hcz16_0 : w12.cell? ⟨gb372, 0, none⟩ = some (.int .i64 a0_0) := (blk_cell BK372.out 0).trans rfl; have hcz16_1 : w12.cell? ⟨gb372, 1, none⟩ = some (.slice A0_1 l0_1.length c0_1) := (blk_cell BK372.out 1).trans rfl; have hfz16_0 := blk_frozen BK372.out 0; have hfz16_1 := blk_frozen BK372.out 1))
  go_loopg [24] k (fun kq v24 w' => ∃ (x24_1 : Int) (x376001_1 : List (S69)) (u376001 : Value), v24 = .int .i64 x24_1 ∧ Aside0 (dag_Reverse.l0 kq (wrap64 (a0_0 - 1)) l0_1 (l0_1.length : Int) x24_1 a0_0 x376001_1 = some (r1, r2, r3)) ∧ Aside0 (kq ≤ k) ∧ Aside0 (Kd.R k69 69 w' w.heap.size (fun _ => True) u376001 x376001_1) ∧ Aside0 (w'.heap[gb372]? = some (.cells #[.int .i64 a0_0, (.slice A0_1 l0_1.length c0_1)] 24 (0, 0))) ∧ Aside0 (w'.heap[gb373]? = some (.cells #[.int .i64 0, (.slice none 0 0)] 24 (0, 0))) ∧ Aside0 (w'.heap[gb375]? = some (.cells #[.int .i64 a0_0, u376001] 24 (0, 0))) ∧ Aside0 (Below w.heap.size w w'))
  case atStart => exact ⟨(0), (([] : List (S69))), (.slice none 0 0), zT, H', ⟨Nat.le_refl _⟩, ⟨by first | exact Kd.R_nil _ _ _ _ _ | exact Kd.N_nil _ _ _ _ _ | exact Kd.V_nil _ _ _ _ _ | exact Kd.Q_nil _ _ _ _ _ | exact Kd.S_nil _ _ _ _ _⟩, ⟨by (with_reducible repeat (first | refine blk_drewN ?_ _ | refine blk_drew ?_ | refine blk_alloc ?_ _)); refine blk_far ?_ NB372_375.out _; (with_reducible repeat (first | refine blk_drewN ?_ _ | refine blk_drew ?_ | refine blk_alloc ?_ _)); refine blk_far ?_ NB372_375.out _; (with_reducible repeat (first | refine blk_drewN ?_ _ | refine blk_drew ?_ | refine blk_alloc ?_ _)); exact BK372.out⟩, ⟨by (with_reducible repeat (first | refine blk_drewN ?_ _ | refine blk_drew ?_ | refine blk_alloc ?_ _)); refine blk_far ?_ NB373_375.out _; (with_reducible repeat (first | refine blk_drewN ?_ _ | refine blk_drew ?_ | refine blk_alloc ?_ _)); refine blk_far ?_ NB373_375.out _; (with_reducible repeat (first | refine blk_drewN ?_ _ | refine blk_drew ?_ | refine blk_alloc ?_ _)); exact BK373.out⟩, ⟨by (with_reducible repeat (first | refine blk_drewN ?_ _ | refine blk_drew ?_ | refine blk_alloc ?_ _)); refine blk_put (cs := #[.int .i64 a0_0, .slice none 0 0]) ?_ 1 _ rfl; (with_reducible repeat (first | refine blk_drewN ?_ _ | refine blk_drew ?_ | refine blk_alloc ?_ _)); refine blk_put (cs := #[.int .i64 0, .slice none 0 0]) ?_ 0 _ rfl; (with_reducible repeat (first | refine blk_drewN ?_ _ | refine blk_drew ?_ | refine blk_alloc ?_ _)); exact BK375.out⟩, ⟨by repeat (first | (with_reducible first | exact HB.out | apply below_alloc | apply pw_below_drewN | apply below_drew1 | refine below_set ?_ GE372.out | refine below_set ?_ GE373.out | refine below_set ?_ GE375.out) | exact HB.out)⟩⟩
  case round =>
   clear H'
   try clear c1
   try clear c2
   try clear p2
   try clear c6
   try clear p6
   try clear c9
   try clear c9b0
   try clear c9b1
   try clear c10
   try clear c13
   try clear c14
   try clear hcz11_0
   try clear hcz11_1
   try clear hcz15_0
   try clear hcz15_1
   try clear hcz16_0
   try clear hcz16_1
   try clear hcz7_0
   try clear hcz7_1
   try clear hfz11_0
   try clear hfz11_1
   try clear hfz15_0
   try clear hfz15_1
   try clear hfz16_0
   try clear hfz16_1
   try clear hfz7_0
   try clear hfz7_1
   obtain ⟨x24_1, x376001_1, u376001, rfl, HA, HK1, HO_376001, BK372, BK373, BK375, HB⟩ := hrel
   cases gk with
   | zero => exact absurd HA.out (by simp [dag_Reverse.l0])
   | succ k1 =>
    have H := HA.out
    clear HA
    simp only [dag_Reverse.l0] at H
    by_cases c17 : x24_1 < (l0_1.length : Int)
    ·rw [if_pos c17] at H
     have c17b0 : decide (x24_1 < (l0_1.length : Int)) = true := decide_eq_true c17
     clear c17
     by_cases c18 : 0 ≤ x24_1
     ·rw [if_pos c18] at H
      have c18b0 : decide (0 ≤ x24_1) = true := decide_eq_true c18
      clear c18
      by_cases c19 : x24_1 < (l0_1.length : Int)
      ·rw [if_pos c19] at H
       have c19b0 : decide (x24_1 < (l0_1.length : Int)) = true := decide_eq_true c19
       clear c19
       by_cases c20 : x376001_1.length < 5864062014805
       ·rw [if_pos c20] at H
        have LMc20 := Aside0.mk c20
        clear c20
        obtain ⟨y378, hy378⟩ : ∃ y_ : List (S69), y_ = (x376001_1 ++ [(⟨wrap64 ((wrap64 (a0_0 - 1)) - ((rd_T69 l0_1 x24_1).f1)), wrap64 ((wrap64 (a0_0 - 1)) - ((rd_T69 l0_1 x24_1).f0)), (rd_T69 l0_1 x24_1).f2⟩ : S69)]) := ⟨_, rfl⟩
        replace H : (dag_Reverse.l0 k1 (wrap64 (a0_0 - 1)) l0_1 (l0_1.length : Int) (wrap64 (x24_1 + 1)) a0_0 y378) = some (r1, r2, r3) := by first | (rw [hy378]; with_reducible exact H) | (have H2_ := (Option.bind_some _ _).symm.trans H; rw [hy378]; with_reducible exact H2_) | (have H2_ := (Option.bind_some _ _).symm.trans H; with_reducible exact H2_) | with_reducible exact H | (rw [hy378]; exact H) | exact H
        have Ny378 := Aside0.mk hy378
        clear hy378
        have H' := Aside0.mk H
        clear H
        have p376 : 0 ≤ (x24_1 : Int) := of_decide_eq_true zh
        have q376 : x24_1 < (l0_1.length : Int) := of_decide_eq_true zh
        obtain ⟨ad376, e376, hx376_0, hx376_1, hx376_2⟩ := at_T69 HR0_1.out x24_1 p376 q376
        cases e376
        replace hx376_0 := (HB.out.cell (World.block_lt_of_cell? w _ hx376_0)).trans hx376_0
        replace hx376_1 := (HB.out.cell (World.block_lt_of_cell? w _ hx376_1)).trans hx376_1
        replace hx376_2 := (HB.out.cell (World.block_lt_of_cell? w _ hx376_2)).trans hx376_2
        replace p376 := eq_true p376
        replace q376 := eq_true q376
        go_wp2_with (first | ((with_reducible refine gate_dst (N := 8) rfl ?_); refine box_event ?hg (N := 8) ?hd (cs := #[.int .i64 0, .int .i64 0, .int .i64 0]) (t := 69) ?hr ?_; (case hd => rfl); (case hg => rfl); (case hr => first | (go_simp; done) | (go_simp; rfl)); intro gb377 hg w21 hbox hb; have n0_ := Aside0.mk (Kd.R_below (Kd.R_elderB (zR HO_376001) gb377 (Nat.le_of_eq hg.symm)) hb); have n1_ := Aside0.mk (blk_below (g := gb372) (o := .cells #[.int .i64 a0_0, .slice (some ad376) l0_1.length c0_1] 24 (0, 0)) (zk BK372) hb); have n2_ := Aside0.mk (blk_below (g := gb373) (o := .cells #[.int .i64 0, .slice none 0 0] 24 (0, 0)) (zk BK373) hb); have n3_ := Aside0.mk (blk_below (g := gb375) (o := .cells #[.int .i64 a0_0, u376001] 24 (0, 0)) (zk BK375) hb); have n4_ := Aside0.mk (below_step zB hb); have n5_ := Aside0.mk (hbox); have n6_ := Aside0.mk ((by rw [hg]; exact (below_size zB) : w.heap.size ≤ gb377)); have n7_ := Aside0.mk ((by rw [hg]; exact (below_size zB) : w.heap.size ≤ gb377)); have n8_ := Aside0.mk ((by rw [hg]; exact Nat.ne_of_lt (blk_lt (g := gb372) (o := .cells #[.int .i64 a0_0, .slice (some ad376) l0_1.length c0_1] 24 (0, 0)) (zk BK372)) : gb372 ≠ gb377)); have n9_ := Aside0.mk ((by rw [hg]; exact Nat.ne_of_gt (blk_lt (g := gb372) (o := .cells #[.int .i64 a0_0, .slice (some ad376) l0_1.length c0_1] 24 (0, 0)) (zk BK372)) : gb377 ≠ gb372)); have n10_ := Aside0.mk ((by rw [hg]; exact Nat.ne_of_lt (blk_lt (g := gb373) (o := .cells #[.int .i64 0, .slice none 0 0] 24 (0, 0)) (zk BK373)) : gb373 ≠ gb377)); have n11_ := Aside0.mk ((by rw [hg]; exact Nat.ne_of_gt (blk_lt (g := gb373) (o := .cells #[.int .i64 0, .slice none 0 0] 24 (0, 0)) (zk BK373)) : gb377 ≠ gb373)); have n12_ := Aside0.mk ((by rw [hg]; exact Nat.ne_of_lt (blk_lt (g := gb375) (o := .cells #[.int .i64 a0_0, u376001] 24 (0, 0)) (zk BK375)) : gb375 ≠ gb377)); have n13_ := Aside0.mk ((by rw [hg]; exact Nat.ne_of_gt (blk_lt (g := gb375) (o := .cells #[.int .i64 a0_0, u376001] 24 (0, 0)) (zk BK375)) : gb377 ≠ gb375)); clear HO_376001; clear BK372; clear BK373; clear BK375; clear HB; have HO_376001 := n0_; have BK372 := n1_; have BK373 := n2_; have BK375 := n3_; have HB := n4_; have BK377 := n5_; have GW377 := n6_; have GE377 := n7_; have NB372_377 := n8_; have NB377_372 := n9_; have NB373_377 := n10_; have NB377_373 := n11_; have NB375_377 := n12_; have NB377_375 := n13_; clear n0_ n1_ n2_ n3_ n4_ n5_ n6_ n7_ n8_ n9_ n10_ n11_ n12_ n13_; clear hb hbox hg; have hnb22 := NB377_372.out; have hnc22 := NB372_377.out; have hnb23 := NB377_373.out; have hnc23 := NB373_377.out; have hnb24 := NB377_375.out; have hnc24 := NB375_377.out; have hcz25_0 : w21.cell? ⟨gb377, 0, none⟩ = some (.int .i64 0) := (blk_cell BK377.out 0).trans rfl; have hcz25_1 : w21.cell? ⟨gb377, 1, none⟩ = some (.int .i64 0) := (blk_cell BK377.out 1).trans rfl; have hcz25_2 : w21.cell? ⟨gb377, 2, none⟩ = some (.int .i64 0) := (blk_cell BK377.out 2).trans rfl; have hfz25_0 := blk_frozen BK377.out 0; have hfz25_1 := blk_frozen BK377.out 1; have hfz25_2 := blk_frozen BK377.out 2; have hnb26 := NB375_372.out; have hnc26 := NB372_375.out; have hnb27 := NB375_373.out; have hnc27 := NB373_375.out; have hcz28_0 : w21.cell? ⟨gb375, 0, none⟩ = some (.int .i64 a0_0) := (blk_cell BK375.out 0).trans rfl; have hcz28_1 : w21.cell? ⟨gb375, 1, none⟩ = some (u376001) := (blk_cell BK375.out 1).trans rfl; have hfz28_0 := blk_frozen BK375.out 0; have hfz28_1 := blk_frozen BK375.out 1) | ((with_reducible refine gate_builtin (b := .append) (xs := #[.tmp 29, .tmp 41]) rfl ?_); at_builtin; refine Kd.R_append k69 (w0 := w) w.heap.size rfl (.tmp 29) (.tmp 41) 22 69 (.agg #[(.int .i64 0), (.int .i64 0), (.int .i64 0)]) 24 rfl Try.underlying22 info69 rfl (by decide) (by omega) u376001 x376001_1 (⟨wrap64 ((wrap64 (a0_0 - 1)) - ((rd_T69 l0_1 x24_1).f1)), wrap64 ((wrap64 (a0_0 - 1)) - ((rd_T69 l0_1 x24_1).f0)), (rd_T69 l0_1 x24_1).f2⟩ : S69) [.int .i64 (wrap64 ((wrap64 (a0_0 - 1)) - ((rd_T69 l0_1 x24_1).f1))), .int .i64 (wrap64 ((wrap64 (a0_0 - 1)) - ((rd_T69 l0_1 x24_1).f0))), .int .i64 ((rd_T69 l0_1 x24_1).f2)] (fun k_ => k_ ≠ gb377) (fun _ => False) rfl (by first | (go_simp; done) | (go_simp; rfl)) ?aP (fun _ hk => hk.elim) ?aF ?aO ?aB ?aS ?aL ?_; (case aP => exact k69_mkM _ _ _ (⟨wrap64 ((wrap64 (a0_0 - 1)) - ((rd_T69 l0_1 x24_1).f1)), wrap64 ((wrap64 (a0_0 - 1)) - ((rd_T69 l0_1 x24_1).f0)), (rd_T69 l0_1 x24_1).f2⟩ : S69)); (case aB => exact zB); (case aF => exact (fun k_ hk => Kd.freshB (g := gb377) (o := .cells #[.int .i64 ((rd_T69 l0_1 x24_1).f0), .int .i64 ((rd_T69 l0_1 x24_1).f1), .int .i64 ((rd_T69 l0_1 x24_1).f2)] 69 (0, 0)) (by (with_reducible repeat (first | refine blk_drewN ?_ _ | refine blk_drew ?_ | refine blk_alloc ?_ _)); refine blk_put (cs := #[.int .i64 ((rd_T69 l0_1 x24_1).f0), .int .i64 ((rd_T69 l0_1 x24_1).f1), .int .i64 0]) ?_ 2 _ rfl; (with_reducible repeat (first | refine blk_drewN ?_ _ | refine blk_drew ?_ | refine blk_alloc ?_ _)); refine blk_put (cs := #[.int .i64 ((rd_T69 l0_1 x24_1).f0), .int .i64 0, .int .i64 0]) ?_ 1 _ rfl; (with_reducible repeat (first | refine blk_drewN ?_ _ | refine blk_drew ?_ | refine blk_alloc ?_ _)); refine blk_put (cs := #[.int .i64 0, .int .i64 0, .int .i64 0]) ?_ 0 _ rfl; (with_reducible repeat (first | refine blk_drewN ?_ _ | refine blk_drew ?_ | refine blk_alloc ?_ _)); exact BK377.out) k_ hk)); (case aO => exact (by (with_reducible repeat (first | apply Kd.R_alloc | apply Kd.R_drewN | apply Kd.R_drew)); exact Kd.R_mono (Kd.R_far (p := ⟨gb377, 2, none⟩) (Kd.R_far (p := ⟨gb377, 1, none⟩) (Kd.R_far (p := ⟨gb377, 0, none⟩) (Kd.R_mono HO_376001.out (fun k_ hk => (⟨hk, hk.2⟩ : _ ∧ k_ ≠ gb377))) (fun _ hk => hk.2) (.int .i64 ((rd_T69 l0_1 x24_1).f0))) (fun _ hk => hk.2) (.int .i64 ((rd_T69 l0_1 x24_1).f1))) (fun _ hk => hk.2) (.int .i64 ((rd_T69 l0_1 x24_1).f2))) (fun _ hk => hk.1.2))); (case aS => exact (below_size zB)); (case aL => have := LMc20.out; omega); intro v379 w29 ho hb hg hat; rw [← Ny378.out] at ho; have n0_ := Aside0.mk (blk_grown (g := gb372) (o := .cells #[.int .i64 a0_0, .slice (some ad376) l0_1.length c0_1] 24 (0, 0)) (by (with_reducible repeat (first | refine blk_drewN ?_ _ | refine blk_drew ?_ | refine blk_alloc ?_ _)); refine blk_far ?_ NB372_377.out _; (with_reducible repeat (first | refine blk_drewN ?_ _ | refine blk_drew ?_ | refine blk_alloc ?_ _)); refine blk_far ?_ NB372_377.out _; (with_reducible repeat (first | refine blk_drewN ?_ _ | refine blk_drew ?_ | refine blk_alloc ?_ _)); refine blk_far ?_ NB372_377.out _; (with_reducible repeat (first | refine blk_drewN ?_ _ | refine blk_drew ?_ | refine blk_alloc ?_ _)); exact BK372.out) hg (Kd.R_ne HO_376001.out BK372.out (by decide))); have n1_ := Aside0.mk (blk_grown (g := gb373) (o := .cells #[.int .i64 0, .slice none 0 0] 24 (0, 0)) (by (with_reducible repeat (first | refine blk_drewN ?_ _ | refine blk_drew ?_ | refine blk_alloc ?_ _)); refine blk_far ?_ NB373_377.out _; (with_reducible repeat (first | refine blk_drewN ?_ _ | refine blk_drew ?_ | refine blk_alloc ?_ _)); refine blk_far ?_ NB373_377.out _; (with_reducible repeat (first | refine blk_drewN ?_ _ | refine blk_drew ?_ | refine blk_alloc ?_ _)); refine blk_far ?_ NB373_377.out _; (with_reducible repeat (first | refine blk_drewN ?_ _ | refine blk_drew ?_ | refine blk_alloc ?_ _)); exact BK373.out) hg (Kd.R_ne HO_376001.out BK373.out (by decide))); have n2_ := Aside0.mk (blk_grown (g := gb375) (o := .cells #[.int .i64 a0_0, u376001] 24 (0, 0)) (by (with_reducible repeat (first | refine blk_drewN ?_ _ | refine blk_drew ?_ | refine blk_alloc ?_ _)); refine blk_far ?_ NB375_377.out _; (with_reducible repeat (first | refine blk_drewN ?_ _ | refine blk_drew ?_ | refine blk_alloc ?_ _)); refine blk_far ?_ NB375_377.out _; (with_reducible repeat (first | refine blk_drewN ?_ _ | refine blk_drew ?_ | refine blk_alloc ?_ _)); refine blk_far ?_ NB375_377.out _; (with_reducible repeat (first | refine blk_drewN ?_ _ | refine blk_drew ?_ | refine blk_alloc ?_ _)); exact BK375.out) hg (Kd.R_ne HO_376001.out BK375.out (by decide))); have n3_ := Aside0.mk (blk_grown (g := gb377) (o := .cells #[.int .i64 ((rd_T69 l0_1 x24_1).f0), .int .i64 ((rd_T69 l0_1 x24_1).f1), .int .i64 ((rd_T69 l0_1 x24_1).f2)] 69 (0, 0)) (by (with_reducible repeat (first | refine blk_drewN ?_ _ | refine blk_drew ?_ | refine blk_alloc ?_ _)); refine blk_put (cs := #[.int .i64 ((rd_T69 l0_1 x24_1).f0), .int .i64 ((rd_T69 l0_1 x24_1).f1), .int .i64 0]) ?_ 2 _ rfl; (with_reducible repeat (first | refine blk_drewN ?_ _ | refine blk_drew ?_ | refine blk_alloc ?_ _)); refine blk_put (cs := #[.int .i64 ((rd_T69 l0_1 x24_1).f0), .int .i64 0, .int .i64 0]) ?_ 1 _ rfl; (with_reducible repeat (first | refine blk_drewN ?_ _ | refine blk_drew ?_ | refine blk_alloc ?_ _)); refine blk_put (cs := #[.int .i64 0, .int .i64 0, .int .i64 0]) ?_ 0 _ rfl; (with_reducible repeat (first | refine blk_drewN ?_ _ | refine blk_drew ?_ | refine blk_alloc ?_ _)); exact BK377.out) hg (Kd.R_away HO_376001.out (fun _ hk => hk.2))); have n4_ := Aside0.mk (hb); have n5_ := Aside0.mk (ho); clear BK372; clear BK373; clear BK375; clear BK377; clear HB; clear HO_376001; have BK372 := n0_; have BK373 := n1_; have BK375 := n2_; have BK377 := n3_; have HB := n4_; have HO380 := n5_; clear n0_ n1_ n2_ n3_ n4_ n5_; clear ho hb hg hat; obtain ⟨Ao30, co30, eo30⟩ := Kd.R_slice HO380.out; subst eo30; have hcz31_0 : w29.cell? ⟨gb375, 0, none⟩ = some (.int .i64 a0_0) := (blk_cell BK375.out 0).trans rfl; have hcz31_1 : w29.cell? ⟨gb375, 1, none⟩ = some (u376001) := (blk_cell BK375.out 1).trans rfl; have hfz31_0 := blk_frozen BK375.out 0; have hfz31_1 := blk_frozen BK375.out 1))
        go_roundg k1
        case measure => have := HK1.out; omega
        case rel => exact ⟨(wrap64 (x24_1 + 1)), (y378), (.slice Ao30 y378.length co30), zT, H', ⟨by have := HK1.out; omega⟩, ⟨by (with_reducible repeat (first | apply Kd.R_alloc | apply Kd.R_drewN | apply Kd.R_drew)); exact Kd.R_mono (Kd.R_far (p := ⟨gb375, 1, none⟩) (Kd.R_types HO380.out BK375.out (by decide)) (fun _ hk => hk.2) (.slice Ao30 y378.length co30)) (fun _ hk => trivial)⟩, ⟨by (with_reducible repeat (first | refine blk_drewN ?_ _ | refine blk_drew ?_ | refine blk_alloc ?_ _)); refine blk_far ?_ NB372_375.out _; (with_reducible repeat (first | refine blk_drewN ?_ _ | refine blk_drew ?_ | refine blk_alloc ?_ _)); exact BK372.out⟩, ⟨by (with_reducible repeat (first | refine blk_drewN ?_ _ | refine blk_drew ?_ | refine blk_alloc ?_ _)); refine blk_far ?_ NB373_375.out _; (with_reducible repeat (first | refine blk_drewN ?_ _ | refine blk_drew ?_ | refine blk_alloc ?_ _)); exact BK373.out⟩, ⟨by (with_reducible repeat (first | refine blk_drewN ?_ _ | refine blk_drew ?_ | refine blk_alloc ?_ _)); refine blk_put (cs := #[.int .i64 a0_0, u376001]) ?_ 1 _ rfl; (with_reducible repeat (first | refine blk_drewN ?_ _ | refine blk_drew ?_ | refine blk_alloc ?_ _)); exact BK375.out⟩, ⟨by repeat (first | (with_reducible first | exact HB.out | apply below_alloc | apply pw_below_drewN | apply below_drew1 | refine below_set ?_ GE372.out | refine below_set ?_ GE373.out | refine below_set ?_ GE375.out | refine below_set ?_ GE377.out) | exact HB.out)⟩⟩
       ·rw [if_neg c20] at H
        exact absurd H (by simp)
      ·rw [if_neg c19] at H
       exact absurd H (by simp)
     ·rw [if_neg c18] at H
      exact absurd H (by simp)
    ·rw [if_neg c17] at H
     have c17b0 : decide (x24_1 < (l0_1.length : Int)) = false := decide_eq_false c17
     clear c17
     simp only [Option.some.injEq, Prod.mk.injEq] at H
     obtain ⟨rfl, rfl, rfl⟩ := H
     have hnb32 := NB375_372.out
     have hnc32 := NB372_375.out
     have hnb33 := NB375_373.out
     have hnc33 := NB373_375.out
     have hcz34_0 : wr.cell? ⟨gb375, 0, none⟩ = some (.int .i64 a0_0) := (blk_cell BK375.out 0).trans rfl
     have hcz34_1 : wr.cell? ⟨gb375, 1, none⟩ = some (u376001) := (blk_cell BK375.out 1).trans rfl
     have hfz34_0 := blk_frozen BK375.out 0
     have hfz34_1 := blk_frozen BK375.out 1
     have hnb35 := NB373_372.out
     have hnc35 := NB372_373.out
     have hcz36_0 : wr.cell? ⟨gb373, 0, none⟩ = some (.int .i64 0) := (blk_cell BK373.out 0).trans rfl
     have hcz36_1 : wr.cell? ⟨gb373, 1, none⟩ = some (.slice none 0 0) := (blk_cell BK373.out 1).trans rfl
     have hfz36_0 := blk_frozen BK373.out 0
     have hfz36_1 := blk_frozen BK373.out 1
     obtain ⟨Ao37, co37, eo37⟩ := Kd.R_slice HO_376001.out
     subst eo37
     go_wp2
     refine bodyPost_ret (results_ct rfl _ _ gb373 24 #[.int .i64 a0_0, .slice Ao37 x376001_1.length co37] (0, 0) _ rfl (by (with_reducible repeat (first | refine blk_drewN ?_ _ | refine blk_drew ?_ | refine blk_alloc ?_ _)); refine blk_put (cs := #[.int .i64 a0_0, .slice none 0 0]) ?_ 1 _ rfl; (with_reducible repeat (first | refine blk_drewN ?_ _ | refine blk_drew ?_ | refine blk_alloc ?_ _)); refine blk_put (cs := #[.int .i64 0, .slice none 0 0]) ?_ 0 _ rfl; (with_reducible repeat (first | refine blk_drewN ?_ _ | refine blk_drew ?_ | refine blk_alloc ?_ _)); exact BK373.out) Try.underlying24 rfl zK) rfl ?_
     exact ⟨_, by first | rfl | (simp [errW_none, errW_some] <;> rfl) | (simp [*, errW_none, errW_some] <;> rfl), by (with_reducible repeat (first | apply Kd.R_alloc | apply Kd.R_drewN | apply Kd.R_drew)); exact Kd.R_mono (Kd.R_far (p := ⟨gb373, 1, none⟩) (Kd.R_far (p := ⟨gb373, 0, none⟩) (Kd.R_types HO_376001.out BK373.out (by decide)) (fun _ hk => hk.2) (.int .i64 a0_0)) (fun _ hk => hk.2) (.slice Ao37 x376001_1.length co37)) (fun _ hk => trivial), by repeat (first | (with_reducible first | exact HB.out | apply below_alloc | apply pw_below_drewN | apply below_drew1 | refine below_set ?_ GE372.out | refine below_set ?_ GE373.out | refine below_set ?_ GE375.out) | exact HB.out)⟩
 ·rw [if_neg c9] at H
  have c9b0 : (t374 == 0) = false := beq_eq_false_iff_ne.mpr c9
  have c9b1 : (t374 != 0) = true := bne_iff_ne.mpr c9
  (first | rw [c9b0] | (simp only [i64_w, i32_w]; rw [c9b0]) | skip)
  (try rw [c9b1])
  simp only [Option.some.injEq, Prod.mk.injEq] at H
  obtain ⟨rfl, rfl, rfl⟩ := H
  have hnb38 := NB373_372.out
  have hnc38 := NB372_373.out
  have hcz39_0 : w8.cell? ⟨gb373, 0, none⟩ = some (.int .i64 0) := (blk_cell BK373.out 0).trans rfl
  have hcz39_1 : w8.cell? ⟨gb373, 1, none⟩ = some (.slice none 0 0) := (blk_cell BK373.out 1).trans rfl
  have hfz39_0 := blk_frozen BK373.out 0
  have hfz39_1 := blk_frozen BK373.out 1
  go_wp2
  refine bodyPost_ret (results_ct rfl _ _ gb373 24 #[.int .i64 0, .slice none 0 0] (0, 0) _ rfl (by (with_reducible repeat (first | refine blk_drewN ?_ _ | refine blk_drew ?_ | refine blk_alloc ?_ _)); refine blk_put (cs := #[.int .i64 0, .slice none 0 0]) ?_ 1 _ rfl; (with_reducible repeat (first | refine blk_drewN ?_ _ | refine blk_drew ?_ | refine blk_alloc ?_ _)); refine blk_put (cs := #[.int .i64 0, .slice none 0 0]) ?_ 0 _ rfl; (with_reducible repeat (first | refine blk_drewN ?_ _ | refine blk_drew ?_ | refine blk_alloc ?_ _)); exact BK373.out) Try.underlying24 rfl zK) rfl ?_
  exact ⟨_, by first | rfl | (simp [errW_none, errW_some] <;> rfl) | (simp [*, errW_none, errW_some] <;> rfl), by first | exact Kd.R_nil _ _ _ _ _ | exact Kd.N_nil _ _ _ _ _ | exact Kd.V_nil _ _ _ _ _ | exact Kd.Q_nil _ _ _ _ _ | exact Kd.S_nil _ _ _ _ _, by repeat (first | (with_reducible first | exact HB.out | apply below_alloc | apply pw_below_drewN | apply below_drew1 | refine below_set ?_ GE372.out | refine below_set ?_ GE373.out) | exact HB.out)⟩
/-! ### api_Arc_63: function 63 -/
def api_Arc_63.f (l0 : List (S69)) : Option ((List (S69))) := (some (([] : List (S69)) : List (S69))).bind fun y381 => (if y381.length + l0.length < 5864062014805 then (some (y381 ++ l0)) else (none))
set_option maxHeartbeats 8000000 in
set_option maxRecDepth 100000 in
theorem api_Arc_63.calls (A0 : Option Addr) (c0 : Nat) (l0 : List (S69)) (r : List (S69)) (w : World) (hr0 : Kd.C k69 w A0 l0.length l0) (hc0 : l0.length ≤ c0) (h : api_Arc_63.f l0 = some r) :
  Calls Try.prog 63 #[.slice A0 l0.length c0] w fun e w' => ∃ v0_ : Value, e = .returned (v0_) ∧ Kd.R k69 69 w' w.heap.size (fun _ => True) v0_ r ∧ Below w.heap.size w w' := by
 have HR0 := Aside0.mk hr0
 have HC0 := Aside0.mk hc0
 clear hr0 hc0
 have HB := Aside0.mk (Below.refl w.heap.size w)
 have H : ((some (([] : List (S69)) : List (S69))).bind fun y381 => (if y381.length + l0.length < 5864062014805 then (some (y381 ++ l0)) else (none))) = some r := h
 clear h
 have hnq_ : ∀ (w : World) (a : Option Addr) (n c n' c' : Nat), (binOp .eql 22 (.slice a n c) (.slice none n' c')).run Try.prog w = .ok (.bool a.isNone) w := fun w a n c n' c' => Lib.run_eql_slice_nil w _ _ a n c n' c' Try.underlying22
 rcases A0 with _ | adn0
 ·obtain rfl : l0 = [] := (by rcases l0 with _ | ⟨x_, xs_⟩; (· rfl); (· obtain ⟨_, _, e_, _⟩ := Kd.C_get HR0.out z69 0 (by omega) (by simp); cases e_))
  simp only [List.length_nil, List.nil_append] at H
  (first | rw [if_pos (by omega)] at H | simp at H)
  try simp only [Option.some.injEq] at H
  subst H
  go_enter Try.func63, Try.ntmps63
  go_wp2
  go_ret
  first | exact ⟨_, rfl, Kd.R_nil _ _ _ _ _, Below.refl _ _⟩ | exact ⟨_, rfl, Kd.S_nil _ _ _ _ _, Below.refl _ _⟩ | exact ⟨_, rfl, Kd.V_nil _ _ _ _ _, Below.refl _ _⟩ | exact ⟨_, rfl, Kd.N_nil _ _ _ _ _, Below.refl _ _⟩
 ·replace H := H
  obtain ⟨y381, hy381⟩ : ∃ y_ : List (S69), y_ = (([] : List (S69))) := ⟨_, rfl⟩
  replace H : (if y381.length + l0.length < 5864062014805 then (some (y381 ++ l0)) else (none)) = some r := by first | (rw [hy381]; with_reducible exact H) | (have H2_ := (Option.bind_some _ _).symm.trans H; rw [hy381]; with_reducible exact H2_) | (have H2_ := (Option.bind_some _ _).symm.trans H; with_reducible exact H2_) | with_reducible exact H | (rw [hy381]; exact H) | exact H
  have Ny381 := Aside0.mk hy381
  clear hy381
  by_cases c2 : y381.length + l0.length < 5864062014805
  ·rw [if_pos c2] at H
   have LMc2 := Aside0.mk c2
   clear c2
   obtain ⟨y384, hy384⟩ : ∃ y_ : List (S69), y_ = (y381 ++ l0) := ⟨_, rfl⟩
   replace H : (some y384) = some r := by first | (rw [hy384]; with_reducible exact H) | (have H2_ := (Option.bind_some _ _).symm.trans H; rw [hy384]; with_reducible exact H2_) | (have H2_ := (Option.bind_some _ _).symm.trans H; with_reducible exact H2_) | with_reducible exact H | (rw [hy384]; exact H) | exact H
   have Ny384 := Aside0.mk hy384
   clear hy384
   obtain rfl := Option.some.inj H
   go_enter Try.func63, Try.ntmps63
   go_wp2_with (first | ((with_reducible refine gate_dst (N := 5) rfl ?_); refine Kd.R_lit k69 _ 69 ?hg (N := 5) ?hd (xs := ([] : List (S69))) (inner := []) (ok := fun _ => True) (okp := fun _ => True) ?hr ?hp (fun _ hk => hk) trivial (Below.refl _ _) (Nat.le_refl _) (by simp) ?_; (case hd => rfl); (case hg => rfl); (case hr => first | (go_simp; done) | (go_simp; rfl)); (case hp => exact (Reps.none _ _)); intro v382 w3 ho4 hb hg_ hnew_; clear hg_ hnew_; (first | rw [← Ny381.out] at ho4 | (simp only [Int.reduceToNat] at ho4; rw [← Ny381.out] at ho4)); have n0_ := Aside0.mk (Kd.R_lower ho4 (below_size zB)); have n1_ := Aside0.mk (below_step zB hb); clear HB; have HO383 := n0_; have HB := n1_; clear n0_ n1_; clear hb ho4) | ((with_reducible refine gate_builtin (b := .append) (xs := #[.tmp 5, .tmp 6]) rfl ?_); at_builtin; refine Kd.R_append_rows k69 (w0 := w) w.heap.size rfl (.tmp 5) (.tmp 6) 22 69 (.agg #[(.int .i64 0), (.int .i64 0), (.int .i64 0)]) 24 rfl Try.underlying22 info69 rfl (by decide) (by omega) v382 y381 l0 _ _ _ (fun _ => True) (fun _ => False) rfl rfl ?aO ?aR (fun _ _ h => h) (fun _ h => h.elim) ?aF ?aB ?aS ?aL ?_; (case aR => repeat (first | exact (Kd.C_below HR0.out HB.out) | (with_reducible refine Kd.C_alloc ?_ _) | (with_reducible refine Kd.C_drewN ?_ _) | (with_reducible refine Kd.C_drew ?_))); (case aB => exact zB); (case aF => exact (fun _ _ => trivial)); (case aO => exact (zR HO383)); (case aS => exact (below_size zB)); (case aL => have := LMc2.out; omega); intro v385 w5 ho hb hg hat; rw [← Ny384.out] at ho; have n0_ := Aside0.mk (hb); have n1_ := Aside0.mk (ho); clear HB; clear HO383; have HB := n0_; have HO386 := n1_; clear n0_ n1_; clear ho hb hg hat))
   go_ret
   exact ⟨_, by first | rfl | (simp [errW_none, errW_some] <;> rfl) | (simp [*, errW_none, errW_some] <;> rfl), by (with_reducible repeat (first | apply Kd.R_alloc | apply Kd.R_drewN | apply Kd.R_drew)); exact HO386.out, by repeat (first | (with_reducible first | exact HB.out | apply below_alloc | apply pw_below_drewN | apply below_drew1) | exact HB.out)⟩
  ·rw [if_neg c2] at H
   exact absurd H (by simp)
/-! ### ancepslaw09_own: function 25 -/
def ancepslaw09_own.f (a0_0 : Int) (l0_1 : List (S69)) : Option (Int × (List (S69))) := (api_Arc_63.f l0_1).bind fun t389 => (some (a0_0, t389))
set_option maxHeartbeats 8000000 in
set_option maxRecDepth 100000 in
theorem ancepslaw09_own.calls (a0_0 : Int) (A0_1 : Option Addr) (c0_1 : Nat) (l0_1 : List (S69)) (r1 : Int) (r2 : List (S69)) (w : World) (hr0_1 : Kd.C k69 w A0_1 l0_1.length l0_1) (hc0_1 : l0_1.length ≤ c0_1) (h : ancepslaw09_own.f a0_0 l0_1 = some (r1, r2)) :
  Calls Try.prog 25 #[.agg #[.int .i64 a0_0, .slice A0_1 l0_1.length c0_1]] w fun e w' => ∃ v1_ : Value, e = .returned (.agg #[.int .i64 r1, v1_]) ∧ Kd.R k69 69 w' w.heap.size (fun _ => True) v1_ r2 ∧ Below w.heap.size w w' := by
 have hu24 := Try.underlying24
 have hu22 := Try.underlying22
 have HR0_1 := Aside0.mk hr0_1
 have HC0_1 := Aside0.mk hc0_1
 clear hr0_1 hc0_1
 have HB := Aside0.mk (Below.refl w.heap.size w)
 have H : ((api_Arc_63.f l0_1).bind fun t389 => (some (a0_0, t389))) = some (r1, r2) := h
 clear h
 replace H := Option.bind_eq_some_iff.mp H
 obtain ⟨t389, A20, H⟩ := H
 replace H : (some (a0_0, t389)) = some (r1, r2) := H
 have A2 := Aside0.mk A20
 clear A20
 simp only [Option.some.injEq, Prod.mk.injEq] at H
 obtain ⟨rfl, rfl⟩ := H
 go_enter Try.func25, Try.ntmps25
 go_wp2_with (first | ((with_reducible refine gate_dst (N := 1) rfl ?_); refine box_event ?hg (N := 1) ?hd (cs := #[.int .i64 a0_0, .slice A0_1 l0_1.length c0_1]) (t := 24) ?hr ?_; (case hd => rfl); (case hg => rfl); (case hr => first | (go_simp; done) | (go_simp; rfl)); intro gb387 hg w3 hbox hb; have n0_ := Aside0.mk (below_step zB hb); have n1_ := Aside0.mk (hbox); have n2_ := Aside0.mk ((by rw [hg]; exact (below_size zB) : w.heap.size ≤ gb387)); have n3_ := Aside0.mk ((by rw [hg]; exact (below_size zB) : w.heap.size ≤ gb387)); clear HB; have HB := n0_; have BK387 := n1_; have GW387 := n2_; have GE387 := n3_; clear n0_ n1_ n2_ n3_; clear hb hbox hg) | ((with_reducible refine gate_dst (N := 2) rfl ?_); refine box_event ?hg (N := 2) ?hd (cs := #[.int .i64 0, .slice none 0 0]) (t := 24) ?hr ?_; (case hd => rfl); (case hg => rfl); (case hr => first | (go_simp; done) | (go_simp; rfl)); intro gb388 hg w4 hbox hb; have n0_ := Aside0.mk (blk_below (g := gb387) (o := .cells #[.int .i64 a0_0, .slice A0_1 l0_1.length c0_1] 24 (0, 0)) (zk BK387) hb); have n1_ := Aside0.mk (below_step zB hb); have n2_ := Aside0.mk (hbox); have n3_ := Aside0.mk ((by rw [hg]; exact (below_size zB) : w.heap.size ≤ gb388)); have n4_ := Aside0.mk ((by rw [hg]; exact (below_size zB) : w.heap.size ≤ gb388)); have n5_ := Aside0.mk ((by rw [hg]; exact Nat.ne_of_lt (blk_lt (g := gb387) (o := .cells #[.int .i64 a0_0, .slice A0_1 l0_1.length c0_1] 24 (0, 0)) (zk BK387)) : gb387 ≠ gb388)); have n6_ := Aside0.mk ((by rw [hg]; exact Nat.ne_of_gt (blk_lt (g := gb387) (o := .cells #[.int .i64 a0_0, .slice A0_1 l0_1.length c0_1] 24 (0, 0)) (zk BK387)) : gb388 ≠ gb387)); clear BK387; clear HB; have BK387 := n0_; have HB := n1_; have BK388 := n2_; have GW388 := n3_; have GE388 := n4_; have NB387_388 := n5_; have NB388_387 := n6_; clear n0_ n1_ n2_ n3_ n4_ n5_ n6_; clear hb hbox hg; have hnb5 := NB387_388.out; have hnc5 := NB388_387.out; have hcz6_0 : w4.cell? ⟨gb387, 0, none⟩ = some (.int .i64 a0_0) := (blk_cell BK387.out 0).trans rfl; have hcz6_1 : w4.cell? ⟨gb387, 1, none⟩ = some (.slice A0_1 l0_1.length c0_1) := (blk_cell BK387.out 1).trans rfl; have hfz6_0 := blk_frozen BK387.out 0; have hfz6_1 := blk_frozen BK387.out 1) | ((with_reducible refine gate_callee (f := 63) rfl ?_); refine goesL_ (some 5) rfl rfl Try.func63 zK rfl #[.slice A0_1 l0_1.length c0_1] rfl zM ?_; (with_reducible refine (api_Arc_63.calls _ _ l0_1 t389 _ ?side1 ?side2 A2.out).mono ?_); (case side1 => repeat (first | exact (Kd.C_below HR0_1.out HB.out) | (with_reducible refine Kd.C_alloc ?_ _) | (with_reducible refine Kd.C_drewN ?_ _) | (with_reducible refine Kd.C_drew ?_))); (case side2 => exact HC0_1.out); rintro e w7 ⟨v390, rfl, ho0, hb⟩; refine ⟨_, rfl, ?_⟩; have n0_ := Aside0.mk (Kd.R_lower ho0 (below_size zB)); have n1_ := Aside0.mk (blk_below (g := gb387) (o := .cells #[.int .i64 a0_0, .slice A0_1 l0_1.length c0_1] 24 (0, 0)) (zk BK387) hb); have n2_ := Aside0.mk (blk_below (g := gb388) (o := .cells #[.int .i64 0, .slice none 0 0] 24 (0, 0)) (zk BK388) hb); have n3_ := Aside0.mk (below_step zB hb); clear BK387; clear BK388; clear HB; have HO391 := n0_; have BK387 := n1_; have BK388 := n2_; have HB := n3_; clear n0_ n1_ n2_ n3_; (try clear hb); (try clear hb2); (try clear hk); (try clear hi); (try clear ho0); obtain ⟨Ao8, co8, eo8⟩ := Kd.R_slice HO391.out; subst eo8; have hcz9_0 : w7.cell? ⟨gb387, 0, none⟩ = some (.int .i64 a0_0) := (blk_cell BK387.out 0).trans rfl; have hcz9_1 : w7.cell? ⟨gb387, 1, none⟩ = some (.slice A0_1 l0_1.length c0_1) := (blk_cell BK387.out 1).trans rfl; have hfz9_0 := blk_frozen BK387.out 0; have hfz9_1 := blk_frozen BK387.out 1; have hcz10_0 : w7.cell? ⟨gb388, 0, none⟩ = some (.int .i64 0) := (blk_cell BK388.out 0).trans rfl; have hcz10_1 : w7.cell? ⟨gb388, 1, none⟩ = some (.slice none 0 0) := (blk_cell BK388.out 1).trans rfl; have hfz10_0 := blk_frozen BK388.out 0; have hfz10_1 := blk_frozen BK388.out 1))
 refine bodyPost_ret (results_cell_row rfl _ _ gb388 24 #[.int .i64 a0_0, .slice Ao8 t389.length co8] (0, 0) _ rfl (by (with_reducible repeat (first | refine blk_drewN ?_ _ | refine blk_drew ?_ | refine blk_alloc ?_ _)); refine blk_put (cs := #[.int .i64 a0_0, .slice none 0 0]) ?_ 1 _ rfl; (with_reducible repeat (first | refine blk_drewN ?_ _ | refine blk_drew ?_ | refine blk_alloc ?_ _)); refine blk_put (cs := #[.int .i64 0, .slice none 0 0]) ?_ 0 _ rfl; (with_reducible repeat (first | refine blk_drewN ?_ _ | refine blk_drew ?_ | refine blk_alloc ?_ _)); refine blk_far ?_ NB388_387.out _; (with_reducible repeat (first | refine blk_drewN ?_ _ | refine blk_drew ?_ | refine blk_alloc ?_ _)); exact BK388.out) Try.underlying24 rfl zK) rfl ?_
 exact ⟨_, by first | rfl | (simp [errW_none, errW_some] <;> rfl) | (simp [*, errW_none, errW_some] <;> rfl), by (with_reducible repeat (first | apply Kd.R_alloc | apply Kd.R_drewN | apply Kd.R_drew)); exact Kd.R_mono (Kd.R_far (p := ⟨gb388, 1, none⟩) (Kd.R_far (p := ⟨gb388, 0, none⟩) (Kd.R_far (p := ⟨gb387, 1, none⟩) (Kd.R_types (Kd.R_types HO391.out BK387.out (by decide)) BK388.out (by decide)) (fun _ hk => hk.1.2) (.slice Ao8 t389.length co8)) (fun _ hk => hk.2) (.int .i64 a0_0)) (fun _ hk => hk.2) (.slice Ao8 t389.length co8)) (fun _ hk => trivial), by repeat (first | (with_reducible first | exact HB.out | apply below_alloc | apply pw_below_drewN | apply below_drew1 | refine below_set ?_ GE387.out | refine below_set ?_ GE388.out) | exact HB.out)⟩
/-! ### ancepsref09_Reverse: function 26 -/
def ancepsref09_Reverse.l0 : Nat → Int → Int → List (S69) → Int → List (S69) → Option (Int × (List (S69)) × Int)
 | 0, _, _, _, _, _ => none
 | k + 1, x6, x393000, x393001, x396000, x396001 => if x6 < (x393001.length : Int) then (if 0 ≤ x6 then (if x396001.length < 5864062014805 then (ancepsref09_Reverse.l0 k (wrap64 (x6 + 1)) x393000 x393001 x396000 (x396001 ++ [(⟨wrap64 ((wrap64 (x393000 - 1)) - ((rd_T69 x393001 x6).f1)), wrap64 ((wrap64 (x393000 - 1)) - ((rd_T69 x393001 x6).f0)), (rd_T69 x393001 x6).f2⟩ : S69)])) else (none)) else (none)) else (some (x396000, x396001, 0))
def ancepsref09_Reverse.f (k : Nat) (a0_0 : Int) (l0_1 : List (S69)) : Option (Int × (List (S69)) × Int) := (ancepsref09_Valid.f k a0_0 l0_1).bind fun t394 => (if t394 = 0 then (ancepsref09_Reverse.l0 k 0 a0_0 l0_1 a0_0 ([] : List (S69))) else (some (0, ([] : List (S69)), t394)))
theorem ancepsref09_Reverse.mono_l : ∀ k, (∀ y0 y1 y2 y3 y4, LeO (ancepsref09_Reverse.l0 k y0 y1 y2 y3 y4) (ancepsref09_Reverse.l0 (k + 1) y0 y1 y2 y3 y4))
 | 0 => fun _ _ _ _ _ r h => by simp [ancepsref09_Reverse.l0] at h
 | k + 1 => by
  have ih0 := ancepsref09_Reverse.mono_l k
  ·intro y0 y1 y2 y3 y4
   unfold ancepsref09_Reverse.l0
   repeat' first
   | (with_reducible exact ih0 _ _ _ _ _)
   | (with_reducible exact ancepsref09_Valid.mono _ _ _)
   | (with_reducible exact LeO.refl _)
   | (with_reducible exact LeO.none _)
   | (with_reducible refine LeO.ite ?_ ?_)
   | (with_reducible refine LeO.bind ?_ (fun _ => ?_))
   | exact ih0 _ _ _ _ _
   | exact ancepsref09_Valid.mono _ _ _
   | exact LeO.none _
   | refine LeO.ite ?_ ?_
   | refine LeO.bind ?_ (fun _ => ?_)
theorem ancepsref09_Reverse.mono : ∀ a0 a1 k, LeO (ancepsref09_Reverse.f k a0 a1) (ancepsref09_Reverse.f (k + 1) a0 a1) := by
 intro a0 a1 k
 have ih0 := ancepsref09_Reverse.mono_l k
 unfold ancepsref09_Reverse.f
 repeat' first
   | (with_reducible exact ih0 _ _ _ _ _)
   | (with_reducible exact ancepsref09_Valid.mono _ _ _)
   | (with_reducible exact LeO.refl _)
   | (with_reducible exact LeO.none _)
   | (with_reducible refine LeO.ite ?_ ?_)
   | (with_reducible refine LeO.bind ?_ (fun _ => ?_))
   | exact ih0 _ _ _ _ _
   | exact ancepsref09_Valid.mono _ _ _
   | exact LeO.none _
   | refine LeO.ite ?_ ?_
   | refine LeO.bind ?_ (fun _ => ?_)
set_option maxHeartbeats 8000000 in
set_option maxRecDepth 100000 in
theorem ancepsref09_Reverse.calls (k : Nat) (a0_0 : Int) (A0_1 : Option Addr) (c0_1 : Nat) (l0_1 : List (S69)) (r1 : Int) (r2 : List (S69)) (r3 : Int) (w : World) (hr0_1 : Kd.C k69 w A0_1 l0_1.length l0_1) (hc0_1 : l0_1.length ≤ c0_1) (h : ancepsref09_Reverse.f k a0_0 l0_1 = some (r1, r2, r3)) :
  Calls Try.prog 26 #[.agg #[.int .i64 a0_0, .slice A0_1 l0_1.length c0_1]] w fun e w' => ∃ v1_ : Value, e = .returned (.tuple #[.agg #[.int .i64 r1, v1_], .int .i64 r3]) ∧ Kd.R k69 69 w' w.heap.size (fun _ => True) v1_ r2 ∧ Below w.heap.size w w' := by
 have hu24 := Try.underlying24
 have hu3 := Try.underlying3
 have hu22 := Try.underlying22
 have hu69 := Try.underlying69
 have HR0_1 := Aside0.mk hr0_1
 have HC0_1 := Aside0.mk hc0_1
 clear hr0_1 hc0_1
 have HB := Aside0.mk (Below.refl w.heap.size w)
 have H : ((ancepsref09_Valid.f k a0_0 l0_1).bind fun t394 => (if t394 = 0 then (ancepsref09_Reverse.l0 k 0 a0_0 l0_1 a0_0 ([] : List (S69))) else (some (0, ([] : List (S69)), t394)))) = some (r1, r2, r3) := h
 clear h
 replace H := Option.bind_eq_some_iff.mp H
 obtain ⟨t394, A20, H⟩ := H
 replace H : (if t394 = 0 then (ancepsref09_Reverse.l0 k 0 a0_0 l0_1 a0_0 ([] : List (S69))) else (some (0, ([] : List (S69)), t394))) = some (r1, r2, r3) := H
 have A2 := Aside0.mk A20
 clear A20
 have HC3 := Aside0.mk H
 clear H
 go_enter Try.func26, Try.ntmps26
 go_upto_if 11 with (first | ((with_reducible refine gate_dst (N := 1) rfl ?_); refine box_event ?hg (N := 1) ?hd (cs := #[.int .i64 a0_0, .slice A0_1 l0_1.length c0_1]) (t := 24) ?hr ?_; (case hd => rfl); (case hg => rfl); (case hr => first | (go_simp; done) | (go_simp; rfl)); intro gb392 hg w4 hbox hb; have n0_ := Aside0.mk (below_step zB hb); have n1_ := Aside0.mk (hbox); have n2_ := Aside0.mk ((by rw [hg]; exact (below_size zB) : w.heap.size ≤ gb392)); have n3_ := Aside0.mk ((by rw [hg]; exact (below_size zB) : w.heap.size ≤ gb392)); clear HB; have HB := n0_; have BK392 := n1_; have GW392 := n2_; have GE392 := n3_; clear n0_ n1_ n2_ n3_; clear hb hbox hg) | ((with_reducible refine gate_dst (N := 2) rfl ?_); refine box_event ?hg (N := 2) ?hd (cs := #[.int .i64 0, .slice none 0 0]) (t := 24) ?hr ?_; (case hd => rfl); (case hg => rfl); (case hr => first | (go_simp; done) | (go_simp; rfl)); intro gb393 hg w5 hbox hb; have n0_ := Aside0.mk (blk_below (g := gb392) (o := .cells #[.int .i64 a0_0, .slice A0_1 l0_1.length c0_1] 24 (0, 0)) (zk BK392) hb); have n1_ := Aside0.mk (below_step zB hb); have n2_ := Aside0.mk (hbox); have n3_ := Aside0.mk ((by rw [hg]; exact (below_size zB) : w.heap.size ≤ gb393)); have n4_ := Aside0.mk ((by rw [hg]; exact (below_size zB) : w.heap.size ≤ gb393)); have n5_ := Aside0.mk ((by rw [hg]; exact Nat.ne_of_lt (blk_lt (g := gb392) (o := .cells #[.int .i64 a0_0, .slice A0_1 l0_1.length c0_1] 24 (0, 0)) (zk BK392)) : gb392 ≠ gb393)); have n6_ := Aside0.mk ((by rw [hg]; exact Nat.ne_of_gt (blk_lt (g := gb392) (o := .cells #[.int .i64 a0_0, .slice A0_1 l0_1.length c0_1] 24 (0, 0)) (zk BK392)) : gb393 ≠ gb392)); clear BK392; clear HB; have BK392 := n0_; have HB := n1_; have BK393 := n2_; have GW393 := n3_; have GE393 := n4_; have NB392_393 := n5_; have NB393_392 := n6_; clear n0_ n1_ n2_ n3_ n4_ n5_ n6_; clear hb hbox hg; have hnb6 := NB392_393.out; have hnc6 := NB393_392.out; have hcz7_0 : w5.cell? ⟨gb392, 0, none⟩ = some (.int .i64 a0_0) := (blk_cell BK392.out 0).trans rfl; have hcz7_1 : w5.cell? ⟨gb392, 1, none⟩ = some (.slice A0_1 l0_1.length c0_1) := (blk_cell BK392.out 1).trans rfl; have hfz7_0 := blk_frozen BK392.out 0; have hfz7_1 := blk_frozen BK392.out 1) | ((with_reducible refine gate_callee (f := 28) rfl ?_); refine goesL_ (some 9) rfl rfl Try.func28 zK rfl #[.agg #[.int .i64 a0_0, .slice A0_1 l0_1.length c0_1]] rfl zM ?_; (with_reducible refine (ancepsref09_Valid.calls k a0_0 _ _ l0_1 t394 _ ?side1 ?side2 A2.out).mono ?_); (case side1 => repeat (first | exact (Kd.C_below HR0_1.out HB.out) | (with_reducible refine Kd.C_alloc ?_ _) | (with_reducible refine Kd.C_drewN ?_ _) | (with_reducible refine Kd.C_drew ?_))); (case side2 => exact HC0_1.out); rintro e w8 ⟨rfl, hb⟩; refine ⟨_, rfl, ?_⟩; have n0_ := Aside0.mk (blk_below (g := gb392) (o := .cells #[.int .i64 a0_0, .slice A0_1 l0_1.length c0_1] 24 (0, 0)) (zk BK392) hb); have n1_ := Aside0.mk (blk_below (g := gb393) (o := .cells #[.int .i64 0, .slice none 0 0] 24 (0, 0)) (zk BK393) hb); have n2_ := Aside0.mk (below_step zB hb); clear BK392; clear BK393; clear HB; have BK392 := n0_; have BK393 := n1_; have HB := n2_; clear n0_ n1_ n2_; (try clear hb); (try clear hb2); (try clear hk); (try clear hi)))
 (try simp only [Act.put, List.setIfInBounds_toArray, List.set_cons_zero, List.set_cons_succ])
 have H := HC3.out
 clear HC3
 by_cases c9 : t394 = 0
 ·rw [if_pos c9] at H
  have c9b0 : (t394 == 0) = true := beq_iff_eq.mpr c9
  have c9b1 : (t394 != 0) = false := bne_eq_false_iff_eq.mpr c9
  clear c9
  (first | rw [c9b0] | (simp only [i64_w, i32_w]; rw [c9b0]) | skip)
  (try rw [c9b1])
  have H' := Aside0.mk H
  clear H
  have hnb10 := NB392_393.out
  have hnc10 := NB393_392.out
  have hcz11_0 : w8.cell? ⟨gb392, 0, none⟩ = some (.int .i64 a0_0) := (blk_cell BK392.out 0).trans rfl
  have hcz11_1 : w8.cell? ⟨gb392, 1, none⟩ = some (.slice A0_1 l0_1.length c0_1) := (blk_cell BK392.out 1).trans rfl
  have hfz11_0 := blk_frozen BK392.out 0
  have hfz11_1 := blk_frozen BK392.out 1
  go_wp2_with (first | ((with_reducible refine gate_dst (N := 5) rfl ?_); refine box_event ?hg (N := 5) ?hd (cs := #[.int .i64 0, .slice none 0 0]) (t := 24) ?hr ?_; (case hd => rfl); (case hg => rfl); (case hr => first | (go_simp; done) | (go_simp; rfl)); intro gb395 hg w12 hbox hb; have n0_ := Aside0.mk (blk_below (g := gb392) (o := .cells #[.int .i64 a0_0, .slice A0_1 l0_1.length c0_1] 24 (0, 0)) (zk BK392) hb); have n1_ := Aside0.mk (blk_below (g := gb393) (o := .cells #[.int .i64 0, .slice none 0 0] 24 (0, 0)) (zk BK393) hb); have n2_ := Aside0.mk (below_step zB hb); have n3_ := Aside0.mk (hbox); have n4_ := Aside0.mk ((by rw [hg]; exact (below_size zB) : w.heap.size ≤ gb395)); have n5_ := Aside0.mk ((by rw [hg]; exact (below_size zB) : w.heap.size ≤ gb395)); have n6_ := Aside0.mk ((by rw [hg]; exact Nat.ne_of_lt (blk_lt (g := gb392) (o := .cells #[.int .i64 a0_0, .slice A0_1 l0_1.length c0_1] 24 (0, 0)) (zk BK392)) : gb392 ≠ gb395)); have n7_ := Aside0.mk ((by rw [hg]; exact Nat.ne_of_gt (blk_lt (g := gb392) (o := .cells #[.int .i64 a0_0, .slice A0_1 l0_1.length c0_1] 24 (0, 0)) (zk BK392)) : gb395 ≠ gb392)); have n8_ := Aside0.mk ((by rw [hg]; exact Nat.ne_of_lt (blk_lt (g := gb393) (o := .cells #[.int .i64 0, .slice none 0 0] 24 (0, 0)) (zk BK393)) : gb393 ≠ gb395)); have n9_ := Aside0.mk ((by rw [hg]; exact Nat.ne_of_gt (blk_lt (g := gb393) (o := .cells #[.int .i64 0, .slice none 0 0] 24 (0, 0)) (zk BK393)) : gb395 ≠ gb393)); clear BK392; clear BK393; clear HB; have BK392 := n0_; have BK393 := n1_; have HB := n2_; have BK395 := n3_; have GW395 := n4_; have GE395 := n5_; have NB392_395 := n6_; have NB395_392 := n7_; have NB393_395 := n8_; have NB395_393 := n9_; clear n0_ n1_ n2_ n3_ n4_ n5_ n6_ n7_ n8_ n9_; clear hb hbox hg; have hnb13 := NB395_392.out; have hnc13 := NB392_395.out; have hnb14 := NB395_393.out; have hnc14 := NB393_395.out; have hcz15_0 : w12.cell? ⟨gb395, 0, none⟩ = some (.int .i64 0) := (blk_cell BK395.out 0).trans rfl; have hcz15_1 : w12.cell? ⟨gb395, 1, none⟩ = some (.slice none 0 0) := (blk_cell BK395.out 1).trans rfl; have hfz15_0 := blk_frozen BK395.out 0; have hfz15_1 := blk_frozen BK395.out 1))
  go_loopg [6] k (fun kq v6 w' => ∃ (x6_1 : Int) (x396001_1 : List (S69)) (u396001 : Value), v6 = .int .i64 x6_1 ∧ Aside0 (ancepsref09_Reverse.l0 kq x6_1 a0_0 l0_1 a0_0 x396001_1 = some (r1, r2, r3)) ∧ Aside0 (kq ≤ k) ∧ Aside0 (Kd.R k69 69 w' w.heap.size (fun _ => True) u396001 x396001_1) ∧ Aside0 (w'.heap[gb392]? = some (.cells #[.int .i64 a0_0, (.slice A0_1 l0_1.length c0_1)] 24 (0, 0))) ∧ Aside0 (w'.heap[gb393]? = some (.cells #[.int .i64 0, (.slice none 0 0)] 24 (0, 0))) ∧ Aside0 (w'.heap[gb395]? = some (.cells #[.int .i64 a0_0, u396001] 24 (0, 0))) ∧ Aside0 (Below w.heap.size w w'))
  case atStart => exact ⟨(0), (([] : List (S69))), (.slice none 0 0), zT, H', ⟨Nat.le_refl _⟩, ⟨by first | exact Kd.R_nil _ _ _ _ _ | exact Kd.N_nil _ _ _ _ _ | exact Kd.V_nil _ _ _ _ _ | exact Kd.Q_nil _ _ _ _ _ | exact Kd.S_nil _ _ _ _ _⟩, ⟨by (with_reducible repeat (first | refine blk_drewN ?_ _ | refine blk_drew ?_ | refine blk_alloc ?_ _)); refine blk_far ?_ NB392_395.out _; (with_reducible repeat (first | refine blk_drewN ?_ _ | refine blk_drew ?_ | refine blk_alloc ?_ _)); refine blk_far ?_ NB392_395.out _; (with_reducible repeat (first | refine blk_drewN ?_ _ | refine blk_drew ?_ | refine blk_alloc ?_ _)); exact BK392.out⟩, ⟨by (with_reducible repeat (first | refine blk_drewN ?_ _ | refine blk_drew ?_ | refine blk_alloc ?_ _)); refine blk_far ?_ NB393_395.out _; (with_reducible repeat (first | refine blk_drewN ?_ _ | refine blk_drew ?_ | refine blk_alloc ?_ _)); refine blk_far ?_ NB393_395.out _; (with_reducible repeat (first | refine blk_drewN ?_ _ | refine blk_drew ?_ | refine blk_alloc ?_ _)); exact BK393.out⟩, ⟨by (with_reducible repeat (first | refine blk_drewN ?_ _ | refine blk_drew ?_ | refine blk_alloc ?_ _)); refine blk_put (cs := #[.int .i64 a0_0, .slice none 0 0]) ?_ 1 _ rfl; (with_reducible repeat (first | refine blk_drewN ?_ _ | refine blk_drew ?_ | refine blk_alloc ?_ _)); refine blk_put (cs := #[.int .i64 0, .slice none 0 0]) ?_ 0 _ rfl; (with_reducible repeat (first | refine blk_drewN ?_ _ | refine blk_drew ?_ | refine blk_alloc ?_ _)); exact BK395.out⟩, ⟨by repeat (first | (with_reducible first | exact HB.out | apply below_alloc | apply pw_below_drewN | apply below_drew1 | refine below_set ?_ GE392.out | refine below_set ?_ GE393.out | refine below_set ?_ GE395.out) | exact HB.out)⟩⟩
  case round =>
   clear H'
   try clear c1
   try clear c2
   try clear p2
   try clear c6
   try clear c9
   try clear c9b0
   try clear c9b1
   try clear c10
   try clear c13
   try clear c14
   try clear hcz11_0
   try clear hcz11_1
   try clear hcz15_0
   try clear hcz15_1
   try clear hcz7_0
   try clear hcz7_1
   try clear hfz11_0
   try clear hfz11_1
   try clear hfz15_0
   try clear hfz15_1
   try clear hfz7_0
   try clear hfz7_1
   obtain ⟨x6_1, x396001_1, u396001, rfl, HA, HK1, HO_396001, BK392, BK393, BK395, HB⟩ := hrel
   cases gk with
   | zero => exact absurd HA.out (by simp [ancepsref09_Reverse.l0])
   | succ k1 =>
    have H := HA.out
    clear HA
    simp only [ancepsref09_Reverse.l0] at H
    by_cases c16 : x6_1 < (l0_1.length : Int)
    ·rw [if_pos c16] at H
     have c16b0 : decide (x6_1 < (l0_1.length : Int)) = true := decide_eq_true c16
     clear c16
     by_cases c17 : 0 ≤ x6_1
     ·rw [if_pos c17] at H
      have c17b0 : decide (0 ≤ x6_1) = true := decide_eq_true c17
      clear c17
      by_cases c18 : x396001_1.length < 5864062014805
      ·rw [if_pos c18] at H
       have LMc18 := Aside0.mk c18
       clear c18
       obtain ⟨y398, hy398⟩ : ∃ y_ : List (S69), y_ = (x396001_1 ++ [(⟨wrap64 ((wrap64 (a0_0 - 1)) - ((rd_T69 l0_1 x6_1).f1)), wrap64 ((wrap64 (a0_0 - 1)) - ((rd_T69 l0_1 x6_1).f0)), (rd_T69 l0_1 x6_1).f2⟩ : S69)]) := ⟨_, rfl⟩
       replace H : (ancepsref09_Reverse.l0 k1 (wrap64 (x6_1 + 1)) a0_0 l0_1 a0_0 y398) = some (r1, r2, r3) := by first | (rw [hy398]; with_reducible exact H) | (have H2_ := (Option.bind_some _ _).symm.trans H; rw [hy398]; with_reducible exact H2_) | (have H2_ := (Option.bind_some _ _).symm.trans H; with_reducible exact H2_) | with_reducible exact H | (rw [hy398]; exact H) | exact H
       have Ny398 := Aside0.mk hy398
       clear hy398
       have H' := Aside0.mk H
       clear H
       have hnb19 := NB392_393.out
       have hnc19 := NB393_392.out
       have hnb20 := NB392_395.out
       have hnc20 := NB395_392.out
       have hcz21_0 : wr.cell? ⟨gb392, 0, none⟩ = some (.int .i64 a0_0) := (blk_cell BK392.out 0).trans rfl
       have hcz21_1 : wr.cell? ⟨gb392, 1, none⟩ = some (.slice A0_1 l0_1.length c0_1) := (blk_cell BK392.out 1).trans rfl
       have hfz21_0 := blk_frozen BK392.out 0
       have hfz21_1 := blk_frozen BK392.out 1
       have p396 : 0 ≤ (x6_1 : Int) := of_decide_eq_true zh
       have q396 : x6_1 < (l0_1.length : Int) := of_decide_eq_true zh
       obtain ⟨ad396, e396, hx396_0, hx396_1, hx396_2⟩ := at_T69 HR0_1.out x6_1 p396 q396
       cases e396
       replace hx396_0 := (HB.out.cell (World.block_lt_of_cell? w _ hx396_0)).trans hx396_0
       replace hx396_1 := (HB.out.cell (World.block_lt_of_cell? w _ hx396_1)).trans hx396_1
       replace hx396_2 := (HB.out.cell (World.block_lt_of_cell? w _ hx396_2)).trans hx396_2
       replace p396 := eq_true p396
       replace q396 := eq_true q396
       go_wp2_with (first | ((with_reducible refine gate_dst (N := 7) rfl ?_); refine box_event ?hg (N := 7) ?hd (cs := #[.int .i64 0, .int .i64 0, .int .i64 0]) (t := 69) ?hr ?_; (case hd => rfl); (case hg => rfl); (case hr => first | (go_simp; done) | (go_simp; rfl)); intro gb397 hg w22 hbox hb; have n0_ := Aside0.mk (Kd.R_below (Kd.R_elderB (zR HO_396001) gb397 (Nat.le_of_eq hg.symm)) hb); have n1_ := Aside0.mk (blk_below (g := gb392) (o := .cells #[.int .i64 a0_0, .slice (some ad396) l0_1.length c0_1] 24 (0, 0)) (zk BK392) hb); have n2_ := Aside0.mk (blk_below (g := gb393) (o := .cells #[.int .i64 0, .slice none 0 0] 24 (0, 0)) (zk BK393) hb); have n3_ := Aside0.mk (blk_below (g := gb395) (o := .cells #[.int .i64 a0_0, u396001] 24 (0, 0)) (zk BK395) hb); have n4_ := Aside0.mk (below_step zB hb); have n5_ := Aside0.mk (hbox); have n6_ := Aside0.mk ((by rw [hg]; exact (below_size zB) : w.heap.size ≤ gb397)); have n7_ := Aside0.mk ((by rw [hg]; exact (below_size zB) : w.heap.size ≤ gb397)); have n8_ := Aside0.mk ((by rw [hg]; exact Nat.ne_of_lt (blk_lt (g := gb392) (o := .cells #[.int .i64 a0_0, .slice (some ad396) l0_1.length c0_1] 24 (0, 0)) (zk BK392)) : gb392 ≠ gb397)); have n9_ := Aside0.mk ((by rw [hg]; exact Nat.ne_of_gt (blk_lt (g := gb392) (o := .cells #[.int .i64 a0_0, .slice (some ad396) l0_1.length c0_1] 24 (0, 0)) (zk BK392)) : gb397 ≠ gb392)); have n10_ := Aside0.mk ((by rw [hg]; exact Nat.ne_of_lt (blk_lt (g := gb393) (o := .cells #[.int .i64 0, .slice none 0 0] 24 (0, 0)) (zk BK393)) : gb393 ≠ gb397)); have n11_ := Aside0.mk ((by rw [hg]; exact Nat.ne_of_gt (blk_lt (g := gb393) (o := .cells #[.int .i64 0, .slice none 0 0] 24 (0, 0)) (zk BK393)) : gb397 ≠ gb393)); have n12_ := Aside0.mk ((by rw [hg]; exact Nat.ne_of_lt (blk_lt (g := gb395) (o := .cells #[.int .i64 a0_0, u396001] 24 (0, 0)) (zk BK395)) : gb395 ≠ gb397)); have n13_ := Aside0.mk ((by rw [hg]; exact Nat.ne_of_gt (blk_lt (g := gb395) (o := .cells #[.int .i64 a0_0, u396001] 24 (0, 0)) (zk BK395)) : gb397 ≠ gb395)); clear HO_396001; clear BK392; clear BK393; clear BK395; clear HB; have HO_396001 := n0_; have BK392 := n1_; have BK393 := n2_; have BK395 := n3_; have HB := n4_; have BK397 := n5_; have GW397 := n6_; have GE397 := n7_; have NB392_397 := n8_; have NB397_392 := n9_; have NB393_397 := n10_; have NB397_393 := n11_; have NB395_397 := n12_; have NB397_395 := n13_; clear n0_ n1_ n2_ n3_ n4_ n5_ n6_ n7_ n8_ n9_ n10_ n11_ n12_ n13_; clear hb hbox hg; have hnb23 := NB397_392.out; have hnc23 := NB392_397.out; have hnb24 := NB397_393.out; have hnc24 := NB393_397.out; have hnb25 := NB397_395.out; have hnc25 := NB395_397.out; have hcz26_0 : w22.cell? ⟨gb397, 0, none⟩ = some (.int .i64 0) := (blk_cell BK397.out 0).trans rfl; have hcz26_1 : w22.cell? ⟨gb397, 1, none⟩ = some (.int .i64 0) := (blk_cell BK397.out 1).trans rfl; have hcz26_2 : w22.cell? ⟨gb397, 2, none⟩ = some (.int .i64 0) := (blk_cell BK397.out 2).trans rfl; have hfz26_0 := blk_frozen BK397.out 0; have hfz26_1 := blk_frozen BK397.out 1; have hfz26_2 := blk_frozen BK397.out 2; have hnb27 := NB395_393.out; have hnc27 := NB393_395.out; have hcz28_0 : w22.cell? ⟨gb395, 0, none⟩ = some (.int .i64 a0_0) := (blk_cell BK395.out 0).trans rfl; have hcz28_1 : w22.cell? ⟨gb395, 1, none⟩ = some (u396001) := (blk_cell BK395.out 1).trans rfl; have hfz28_0 := blk_frozen BK395.out 0; have hfz28_1 := blk_frozen BK395.out 1; have hcz29_0 : w22.cell? ⟨gb392, 0, none⟩ = some (.int .i64 a0_0) := (blk_cell BK392.out 0).trans rfl; have hcz29_1 : w22.cell? ⟨gb392, 1, none⟩ = some (.slice (some ad396) l0_1.length c0_1) := (blk_cell BK392.out 1).trans rfl; have hfz29_0 := blk_frozen BK392.out 0; have hfz29_1 := blk_frozen BK392.out 1) | ((with_reducible refine gate_builtin (b := .append) (xs := #[.tmp 30, .tmp 46]) rfl ?_); at_builtin; refine Kd.R_append k69 (w0 := w) w.heap.size rfl (.tmp 30) (.tmp 46) 22 69 (.agg #[(.int .i64 0), (.int .i64 0), (.int .i64 0)]) 24 rfl Try.underlying22 info69 rfl (by decide) (by omega) u396001 x396001_1 (⟨wrap64 ((wrap64 (a0_0 - 1)) - ((rd_T69 l0_1 x6_1).f1)), wrap64 ((wrap64 (a0_0 - 1)) - ((rd_T69 l0_1 x6_1).f0)), (rd_T69 l0_1 x6_1).f2⟩ : S69) [.int .i64 (wrap64 ((wrap64 (a0_0 - 1)) - ((rd_T69 l0_1 x6_1).f1))), .int .i64 (wrap64 ((wrap64 (a0_0 - 1)) - ((rd_T69 l0_1 x6_1).f0))), .int .i64 ((rd_T69 l0_1 x6_1).f2)] (fun k_ => k_ ≠ gb397) (fun _ => False) rfl (by first | (go_simp; done) | (go_simp; rfl)) ?aP (fun _ hk => hk.elim) ?aF ?aO ?aB ?aS ?aL ?_; (case aP => exact k69_mkM _ _ _ (⟨wrap64 ((wrap64 (a0_0 - 1)) - ((rd_T69 l0_1 x6_1).f1)), wrap64 ((wrap64 (a0_0 - 1)) - ((rd_T69 l0_1 x6_1).f0)), (rd_T69 l0_1 x6_1).f2⟩ : S69)); (case aB => exact zB); (case aF => exact (fun k_ hk => Kd.freshB (g := gb397) (o := .cells #[.int .i64 ((rd_T69 l0_1 x6_1).f0), .int .i64 ((rd_T69 l0_1 x6_1).f1), .int .i64 ((rd_T69 l0_1 x6_1).f2)] 69 (0, 0)) (by (with_reducible repeat (first | refine blk_drewN ?_ _ | refine blk_drew ?_ | refine blk_alloc ?_ _)); refine blk_put (cs := #[.int .i64 ((rd_T69 l0_1 x6_1).f0), .int .i64 ((rd_T69 l0_1 x6_1).f1), .int .i64 0]) ?_ 2 _ rfl; (with_reducible repeat (first | refine blk_drewN ?_ _ | refine blk_drew ?_ | refine blk_alloc ?_ _)); refine blk_put (cs := #[.int .i64 ((rd_T69 l0_1 x6_1).f0), .int .i64 0, .int .i64 0]) ?_ 1 _ rfl; (with_reducible repeat (first | refine blk_drewN ?_ _ | refine blk_drew ?_ | refine blk_alloc ?_ _)); refine blk_put (cs := #[.int .i64 0, .int .i64 0, .int .i64 0]) ?_ 0 _ rfl; (with_reducible repeat (first | refine blk_drewN ?_ _ | refine blk_drew ?_ | refine blk_alloc ?_ _)); exact BK397.out) k_ hk)); (case aO => exact (by (with_reducible repeat (first | apply Kd.R_alloc | apply Kd.R_drewN | apply Kd.R_drew)); exact Kd.R_mono (Kd.R_far (p := ⟨gb397, 2, none⟩) (Kd.R_far (p := ⟨gb397, 1, none⟩) (Kd.R_far (p := ⟨gb397, 0, none⟩) (Kd.R_mono HO_396001.out (fun k_ hk => (⟨hk, hk.2⟩ : _ ∧ k_ ≠ gb397))) (fun _ hk => hk.2) (.int .i64 ((rd_T69 l0_1 x6_1).f0))) (fun _ hk => hk.2) (.int .i64 ((rd_T69 l0_1 x6_1).f1))) (fun _ hk => hk.2) (.int .i64 ((rd_T69 l0_1 x6_1).f2))) (fun _ hk => hk.1.2))); (case aS => exact (below_size zB)); (case aL => have := LMc18.out; omega); intro v399 w30 ho hb hg hat; rw [← Ny398.out] at ho; have n0_ := Aside0.mk (blk_grown (g := gb392) (o := .cells #[.int .i64 a0_0, .slice (some ad396) l0_1.length c0_1] 24 (0, 0)) (by (with_reducible repeat (first | refine blk_drewN ?_ _ | refine blk_drew ?_ | refine blk_alloc ?_ _)); refine blk_far ?_ NB392_397.out _; (with_reducible repeat (first | refine blk_drewN ?_ _ | refine blk_drew ?_ | refine blk_alloc ?_ _)); refine blk_far ?_ NB392_397.out _; (with_reducible repeat (first | refine blk_drewN ?_ _ | refine blk_drew ?_ | refine blk_alloc ?_ _)); refine blk_far ?_ NB392_397.out _; (with_reducible repeat (first | refine blk_drewN ?_ _ | refine blk_drew ?_ | refine blk_alloc ?_ _)); exact BK392.out) hg (Kd.R_ne HO_396001.out BK392.out (by decide))); have n1_ := Aside0.mk (blk_grown (g := gb393) (o := .cells #[.int .i64 0, .slice none 0 0] 24 (0, 0)) (by (with_reducible repeat (first | refine blk_drewN ?_ _ | refine blk_drew ?_ | refine blk_alloc ?_ _)); refine blk_far ?_ NB393_397.out _; (with_reducible repeat (first | refine blk_drewN ?_ _ | refine blk_drew ?_ | refine blk_alloc ?_ _)); refine blk_far ?_ NB393_397.out _; (with_reducible repeat (first | refine blk_drewN ?_ _ | refine blk_drew ?_ | refine blk_alloc ?_ _)); refine blk_far ?_ NB393_397.out _; (with_reducible repeat (first | refine blk_drewN ?_ _ | refine blk_drew ?_ | refine blk_alloc ?_ _)); exact BK393.out) hg (Kd.R_ne HO_396001.out BK393.out (by decide))); have n2_ := Aside0.mk (blk_grown (g := gb395) (o := .cells #[.int .i64 a0_0, u396001] 24 (0, 0)) (by (with_reducible repeat (first | refine blk_drewN ?_ _ | refine blk_drew ?_ | refine blk_alloc ?_ _)); refine blk_far ?_ NB395_397.out _; (with_reducible repeat (first | refine blk_drewN ?_ _ | refine blk_drew ?_ | refine blk_alloc ?_ _)); refine blk_far ?_ NB395_397.out _; (with_reducible repeat (first | refine blk_drewN ?_ _ | refine blk_drew ?_ | refine blk_alloc ?_ _)); refine blk_far ?_ NB395_397.out _; (with_reducible repeat (first | refine blk_drewN ?_ _ | refine blk_drew ?_ | refine blk_alloc ?_ _)); exact BK395.out) hg (Kd.R_ne HO_396001.out BK395.out (by decide))); have n3_ := Aside0.mk (blk_grown (g := gb397) (o := .cells #[.int .i64 ((rd_T69 l0_1 x6_1).f0), .int .i64 ((rd_T69 l0_1 x6_1).f1), .int .i64 ((rd_T69 l0_1 x6_1).f2)] 69 (0, 0)) (by (with_reducible repeat (first | refine blk_drewN ?_ _ | refine blk_drew ?_ | refine blk_alloc ?_ _)); refine blk_put (cs := #[.int .i64 ((rd_T69 l0_1 x6_1).f0), .int .i64 ((rd_T69 l0_1 x6_1).f1), .int .i64 0]) ?_ 2 _ rfl; (with_reducible repeat (first | refine blk_drewN ?_ _ | refine blk_drew ?_ | refine blk_alloc ?_ _)); refine blk_put (cs := #[.int .i64 ((rd_T69 l0_1 x6_1).f0), .int .i64 0, .int .i64 0]) ?_ 1 _ rfl; (with_reducible repeat (first | refine blk_drewN ?_ _ | refine blk_drew ?_ | refine blk_alloc ?_ _)); refine blk_put (cs := #[.int .i64 0, .int .i64 0, .int .i64 0]) ?_ 0 _ rfl; (with_reducible repeat (first | refine blk_drewN ?_ _ | refine blk_drew ?_ | refine blk_alloc ?_ _)); exact BK397.out) hg (Kd.R_away HO_396001.out (fun _ hk => hk.2))); have n4_ := Aside0.mk (hb); have n5_ := Aside0.mk (ho); clear BK392; clear BK393; clear BK395; clear BK397; clear HB; clear HO_396001; have BK392 := n0_; have BK393 := n1_; have BK395 := n2_; have BK397 := n3_; have HB := n4_; have HO400 := n5_; clear n0_ n1_ n2_ n3_ n4_ n5_; clear ho hb hg hat; obtain ⟨Ao31, co31, eo31⟩ := Kd.R_slice HO400.out; subst eo31; have hcz32_0 : w30.cell? ⟨gb395, 0, none⟩ = some (.int .i64 a0_0) := (blk_cell BK395.out 0).trans rfl; have hcz32_1 : w30.cell? ⟨gb395, 1, none⟩ = some (u396001) := (blk_cell BK395.out 1).trans rfl; have hfz32_0 := blk_frozen BK395.out 0; have hfz32_1 := blk_frozen BK395.out 1))
       go_roundg k1
       case measure => have := HK1.out; omega
       case rel => exact ⟨(wrap64 (x6_1 + 1)), (y398), (.slice Ao31 y398.length co31), zT, H', ⟨by have := HK1.out; omega⟩, ⟨by (with_reducible repeat (first | apply Kd.R_alloc | apply Kd.R_drewN | apply Kd.R_drew)); exact Kd.R_mono (Kd.R_far (p := ⟨gb395, 1, none⟩) (Kd.R_types HO400.out BK395.out (by decide)) (fun _ hk => hk.2) (.slice Ao31 y398.length co31)) (fun _ hk => trivial)⟩, ⟨by (with_reducible repeat (first | refine blk_drewN ?_ _ | refine blk_drew ?_ | refine blk_alloc ?_ _)); refine blk_far ?_ NB392_395.out _; (with_reducible repeat (first | refine blk_drewN ?_ _ | refine blk_drew ?_ | refine blk_alloc ?_ _)); exact BK392.out⟩, ⟨by (with_reducible repeat (first | refine blk_drewN ?_ _ | refine blk_drew ?_ | refine blk_alloc ?_ _)); refine blk_far ?_ NB393_395.out _; (with_reducible repeat (first | refine blk_drewN ?_ _ | refine blk_drew ?_ | refine blk_alloc ?_ _)); exact BK393.out⟩, ⟨by (with_reducible repeat (first | refine blk_drewN ?_ _ | refine blk_drew ?_ | refine blk_alloc ?_ _)); refine blk_put (cs := #[.int .i64 a0_0, u396001]) ?_ 1 _ rfl; (with_reducible repeat (first | refine blk_drewN ?_ _ | refine blk_drew ?_ | refine blk_alloc ?_ _)); exact BK395.out⟩, ⟨by repeat (first | (with_reducible first | exact HB.out | apply below_alloc | apply pw_below_drewN | apply below_drew1 | refine below_set ?_ GE392.out | refine below_set ?_ GE393.out | refine below_set ?_ GE395.out | refine below_set ?_ GE397.out) | exact HB.out)⟩⟩
      ·rw [if_neg c18] at H
       exact absurd H (by simp)
     ·rw [if_neg c17] at H
      exact absurd H (by simp)
    ·rw [if_neg c16] at H
     have c16b0 : decide (x6_1 < (l0_1.length : Int)) = false := decide_eq_false c16
     clear c16
     simp only [Option.some.injEq, Prod.mk.injEq] at H
     obtain ⟨rfl, rfl, rfl⟩ := H
     have hnb33 := NB392_393.out
     have hnc33 := NB393_392.out
     have hnb34 := NB392_395.out
     have hnc34 := NB395_392.out
     have hcz35_0 : wr.cell? ⟨gb392, 0, none⟩ = some (.int .i64 a0_0) := (blk_cell BK392.out 0).trans rfl
     have hcz35_1 : wr.cell? ⟨gb392, 1, none⟩ = some (.slice A0_1 l0_1.length c0_1) := (blk_cell BK392.out 1).trans rfl
     have hfz35_0 := blk_frozen BK392.out 0
     have hfz35_1 := blk_frozen BK392.out 1
     have hnb36 := NB395_393.out
     have hnc36 := NB393_395.out
     have hcz37_0 : wr.cell? ⟨gb395, 0, none⟩ = some (.int .i64 a0_0) := (blk_cell BK395.out 0).trans rfl
     have hcz37_1 : wr.cell? ⟨gb395, 1, none⟩ = some (u396001) := (blk_cell BK395.out 1).trans rfl
     have hfz37_0 := blk_frozen BK395.out 0
     have hfz37_1 := blk_frozen BK395.out 1
     have hcz38_0 : wr.cell? ⟨gb393, 0, none⟩ = some (.int .i64 0) := (blk_cell BK393.out 0).trans rfl
     have hcz38_1 : wr.cell? ⟨gb393, 1, none⟩ = some (.slice none 0 0) := (blk_cell BK393.out 1).trans rfl
     have hfz38_0 := blk_frozen BK393.out 0
     have hfz38_1 := blk_frozen BK393.out 1
     obtain ⟨Ao39, co39, eo39⟩ := Kd.R_slice HO_396001.out
     subst eo39
     go_wp2
     refine bodyPost_ret (results_ct rfl _ _ gb393 24 #[.int .i64 a0_0, .slice Ao39 x396001_1.length co39] (0, 0) _ rfl (by (with_reducible repeat (first | refine blk_drewN ?_ _ | refine blk_drew ?_ | refine blk_alloc ?_ _)); refine blk_put (cs := #[.int .i64 a0_0, .slice none 0 0]) ?_ 1 _ rfl; (with_reducible repeat (first | refine blk_drewN ?_ _ | refine blk_drew ?_ | refine blk_alloc ?_ _)); refine blk_put (cs := #[.int .i64 0, .slice none 0 0]) ?_ 0 _ rfl; (with_reducible repeat (first | refine blk_drewN ?_ _ | refine blk_drew ?_ | refine blk_alloc ?_ _)); exact BK393.out) Try.underlying24 rfl zK) rfl ?_
     exact ⟨_, by first | rfl | (simp [errW_none, errW_some] <;> rfl) | (simp [*, errW_none, errW_some] <;> rfl), by (with_reducible repeat (first | apply Kd.R_alloc | apply Kd.R_drewN | apply Kd.R_drew)); exact Kd.R_mono (Kd.R_far (p := ⟨gb393, 1, none⟩) (Kd.R_far (p := ⟨gb393, 0, none⟩) (Kd.R_types HO_396001.out BK393.out (by decide)) (fun _ hk => hk.2) (.int .i64 a0_0)) (fun _ hk => hk.2) (.slice Ao39 x396001_1.length co39)) (fun _ hk => trivial), by repeat (first | (with_reducible first | exact HB.out | apply below_alloc | apply pw_below_drewN | apply below_drew1 | refine below_set ?_ GE392.out | refine below_set ?_ GE393.out | refine below_set ?_ GE395.out) | exact HB.out)⟩
 ·rw [if_neg c9] at H
  have c9b0 : (t394 == 0) = false := beq_eq_false_iff_ne.mpr c9
  have c9b1 : (t394 != 0) = true := bne_iff_ne.mpr c9
  (first | rw [c9b0] | (simp only [i64_w, i32_w]; rw [c9b0]) | skip)
  (try rw [c9b1])
  simp only [Option.some.injEq, Prod.mk.injEq] at H
  obtain ⟨rfl, rfl, rfl⟩ := H
  have hnb40 := NB393_392.out
  have hnc40 := NB392_393.out
  have hcz41_0 : w8.cell? ⟨gb393, 0, none⟩ = some (.int .i64 0) := (blk_cell BK393.out 0).trans rfl
  have hcz41_1 : w8.cell? ⟨gb393, 1, none⟩ = some (.slice none 0 0) := (blk_cell BK393.out 1).trans rfl
  have hfz41_0 := blk_frozen BK393.out 0
  have hfz41_1 := blk_frozen BK393.out 1
  go_wp2
  refine bodyPost_ret (results_ct rfl _ _ gb393 24 #[.int .i64 0, .slice none 0 0] (0, 0) _ rfl (by (with_reducible repeat (first | refine blk_drewN ?_ _ | refine blk_drew ?_ | refine blk_alloc ?_ _)); refine blk_put (cs := #[.int .i64 0, .slice none 0 0]) ?_ 1 _ rfl; (with_reducible repeat (first | refine blk_drewN ?_ _ | refine blk_drew ?_ | refine blk_alloc ?_ _)); refine blk_put (cs := #[.int .i64 0, .slice none 0 0]) ?_ 0 _ rfl; (with_reducible repeat (first | refine blk_drewN ?_ _ | refine blk_drew ?_ | refine blk_alloc ?_ _)); exact BK393.out) Try.underlying24 rfl zK) rfl ?_
  exact ⟨_, by first | rfl | (simp [errW_none, errW_some] <;> rfl) | (simp [*, errW_none, errW_some] <;> rfl), by first | exact Kd.R_nil _ _ _ _ _ | exact Kd.N_nil _ _ _ _ _ | exact Kd.V_nil _ _ _ _ _ | exact Kd.Q_nil _ _ _ _ _ | exact Kd.S_nil _ _ _ _ _, by repeat (first | (with_reducible first | exact HB.out | apply below_alloc | apply pw_below_drewN | apply below_drew1 | refine below_set ?_ GE392.out | refine below_set ?_ GE393.out) | exact HB.out)⟩
end Go.Proofs.Ytanbffoilianhaa.E
