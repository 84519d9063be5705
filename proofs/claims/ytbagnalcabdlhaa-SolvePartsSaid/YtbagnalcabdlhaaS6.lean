-- Written by wip/tools/myprint.py, a program of this session's.
import Derived.Test.YtbagnalcabdlhaaS0
import Derived.Test.YtbagnalcabdlhaaS2
import Derived.Test.YtbagnalcabdlhaaS3
import Derived.Test.YtbagnalcabdlhaaS4
import Derived.Test.YtbagnalcabdlhaaS5
namespace Go.Proofs.Ytbagnalcabdlhaa.S
open Go.RowKit Go.Proofs.YtbagnalcabdlhaaW.PrintWords Go.Proofs.YtbagnalcabdlhaaW.PrintLast Go.Proofs.YtbagnalcabdlhaaW.PrintMore
attribute [local go_sem] max2_int min2_int max_two min_two max_three min_three max_four min_four   -- for this text's walks alone
set_option linter.unusedVariables false
set_option linter.unusedSimpArgs false
/-! ### solve_right: function 54 -/
def solve_right.f : Nat → List (S61) → List (S35) → Int → Int → Int → Option (Bool)
 | 0, _, _, _, _, _ => none
 | k + 1, l0, l1_0, a2, a3_0, a3_1 => if 0 ≤ a2 then (if a2 < (l1_0.length : Int) then (if ((rd_T35 l1_0 a2).f0) < 0 then (if 0 ≤ ((rd_T35 l1_0 a2).f3) then (if ((rd_T35 l1_0 a2).f3) < (l0.length : Int) then ((solve_choices_fails.f k a3_0 a3_1 ((rd_T61 l0 ((rd_T35 l1_0 a2).f3)).f0) ((rd_T61 l0 ((rd_T35 l1_0 a2).f3)).f1)).bind fun t290 => (some t290)) else (none)) else (none)) else (if 0 ≤ ((rd_T35 l1_0 a2).f0) then (if (Go.bits .and .i64 (shr .i64 a3_0 ((rd_T35 l1_0 a2).f0)) 1) = 0 then ((solve_choices_with.f a3_0 a3_1 ((rd_T35 l1_0 a2).f0) 0).bind fun bt291 => ((solve_right.f k l0 l1_0 ((rd_T35 l1_0 a2).f1) bt291.1 bt291.2).bind fun t293 => (if t293 = true then ((solve_choices_with.f a3_0 a3_1 ((rd_T35 l1_0 a2).f0) 1).bind fun bt294 => ((solve_right.f k l0 l1_0 ((rd_T35 l1_0 a2).f2) bt294.1 bt294.2).bind fun t296 => (some t296))) else (some false)))) else (some false)) else (none))) else (none)) else (none)
theorem solve_right.mono_l : ∀ k, (∀ y0 y1 y2 y3 y4, LeO (solve_right.f k y0 y1 y2 y3 y4) (solve_right.f (k + 1) y0 y1 y2 y3 y4))
 | 0 => fun _ _ _ _ _ r h => by simp [solve_right.f] at h
 | k + 1 => by
  have ih0 := solve_right.mono_l k
  ·intro y0 y1 y2 y3 y4
   unfold solve_right.f
   repeat' first
   | (with_reducible exact ih0 _ _ _ _ _)
   | (with_reducible exact solve_choices_fails.mono _ _ _ _ _)
   | (with_reducible exact LeO.refl _)
   | (with_reducible exact LeO.none _)
   | (with_reducible refine LeO.ite ?_ ?_)
   | (with_reducible refine LeO.bind ?_ (fun _ => ?_))
   | exact ih0 _ _ _ _ _
   | exact solve_choices_fails.mono _ _ _ _ _
   | exact LeO.none _
   | refine LeO.ite ?_ ?_
   | refine LeO.bind ?_ (fun _ => ?_)
theorem solve_right.mono : ∀ a0 a1 a2 a3 a4 k, LeO (solve_right.f k a0 a1 a2 a3 a4) (solve_right.f (k + 1) a0 a1 a2 a3 a4) := by
 intro a0 a1 a2 a3 a4 k
 have ih0 := solve_right.mono_l k
 exact ih0 a0 a1 a2 a3 a4
def solve_right.T3 : Bool × List (List Nat × List Nat) := (true, [([], []), ([], []), ([], []), ([2], [2]), ([1, 3], [1, 3]), ([4], [4]), ([0, 5], [0, 5]), ([6, 6, 0, 1, 2, 3, 4, 5, 6], [6])])
def solve_right.B3 : List Nat := [0, 0, 0, 4, 14, 30, 63, 127]
theorem solve_right.tab3 : rtab .any (opsOf Try.f54 3) = solve_right.T3 := by kernel_rfl
theorem solve_right.bits3 : waitsOk solve_right.T3.2 solve_right.B3 = true := by kernel_rfl
def solve_right.T4 : Bool × List (List Nat × List Nat) := (true, [([], []), ([0], [0]), ([], []), ([2], [2]), ([1, 3], [1, 3]), ([4], [4]), ([5], [5]), ([6], [6]), ([7], [7]), ([7], [7]), ([7], [7]), ([10, 7], [7, 10]), ([7], [7]), ([7], [7]), ([13, 7], [7, 13]), ([12, 14, 7, 7], [7, 12, 14]), ([8, 9, 11, 15, 15, 7], [7, 8, 9, 11, 15]), ([7, 16], [7, 16]), ([17, 16], [17]), ([18], [18]), ([18], [18]), ([18], [18]), ([21, 18], [18, 21]), ([18], [18]), ([18], [18]), ([24, 18], [18, 24]), ([23, 25, 18, 18], [18, 23, 25]), ([19, 20, 22, 26, 26, 18], [18, 19, 20, 22, 26]), ([18, 27], [18, 27]), ([28, 27, 0, 1, 2, 3, 4, 5, 6, 7, 8, 9, 10, 11, 12, 13, 14, 15, 16, 17, 18, 19, 20, 21, 22, 23, 24, 25, 26, 27, 28], [28])])
def solve_right.B4 : List Nat := [0, 1, 0, 4, 15, 31, 63, 127, 255, 255, 255, 1279, 255, 255, 8447, 28927, 65535, 131071, 262143, 524287, 524287, 524287, 2621439, 524287, 524287, 17301503, 59244543, 134217727, 268435455, 536870911]
theorem solve_right.tab4 : rtab .any (opsOf Try.f54 4) = solve_right.T4 := by kernel_rfl
theorem solve_right.bits4 : waitsOk solve_right.T4.2 solve_right.B4 = true := by kernel_rfl
set_option maxHeartbeats 8000000 in
set_option maxRecDepth 100000 in
theorem solve_right.calls (k : Nat) : ∀ (A0 : Option Addr) (c0 : Nat) (l0 : List (S61)) (A1_0 : Option Addr) (c1_0 : Nat) (l1_0 : List (S35)) (a2 : Int) (a3_0 : Int) (a3_1 : Int) (r : Bool) (w : World) (hr0 : Kd.C k61 w A0 l0.length l0) (hc0 : l0.length ≤ c0) (hr1_0 : Kd.C k35 w A1_0 l1_0.length l1_0) (hc1_0 : l1_0.length ≤ c1_0) (h : solve_right.f k l0 l1_0 a2 a3_0 a3_1 = some r),
  Calls Try.prog 54 #[.slice A0 l0.length c0, .agg #[.slice A1_0 l1_0.length c1_0], .int .i64 a2, .agg #[.int .i64 a3_0, .int .i64 a3_1]] w fun e w' => e = .returned (.bool r) ∧ Below w.heap.size w w' := by
 induction k using Nat.strongRecOn with
 | _ k ih =>
 intro A0 c0 l0 A1_0 c1_0 l1_0 a2 a3_0 a3_1 r w hr0 hc0 hr1_0 hc1_0 h
 cases k with
 | zero => exact absurd h (by simp [solve_right.f])
 | succ k =>
 simp only [solve_right.f] at h
 have hu27 := Try.underlying27
 have hu68 := Try.underlying68
 have hu25 := Try.underlying25
 have hu35 := Try.underlying35
 have hu3 := Try.underlying3
 have hu61 := Try.underlying61
 have HR0 := Aside0.mk hr0
 have HC0 := Aside0.mk hc0
 clear hr0 hc0
 have HR1_0 := Aside0.mk hr1_0
 have HC1_0 := Aside0.mk hc1_0
 clear hr1_0 hc1_0
 have HB := Aside0.mk (Below.refl w.heap.size w)
 have H : (if 0 ≤ a2 then (if a2 < (l1_0.length : Int) then (if ((rd_T35 l1_0 a2).f0) < 0 then (if 0 ≤ ((rd_T35 l1_0 a2).f3) then (if ((rd_T35 l1_0 a2).f3) < (l0.length : Int) then ((solve_choices_fails.f k a3_0 a3_1 ((rd_T61 l0 ((rd_T35 l1_0 a2).f3)).f0) ((rd_T61 l0 ((rd_T35 l1_0 a2).f3)).f1)).bind fun t290 => (some t290)) else (none)) else (none)) else (if 0 ≤ ((rd_T35 l1_0 a2).f0) then (if (Go.bits .and .i64 (shr .i64 a3_0 ((rd_T35 l1_0 a2).f0)) 1) = 0 then ((solve_choices_with.f a3_0 a3_1 ((rd_T35 l1_0 a2).f0) 0).bind fun bt291 => ((solve_right.f k l0 l1_0 ((rd_T35 l1_0 a2).f1) bt291.1 bt291.2).bind fun t293 => (if t293 = true then ((solve_choices_with.f a3_0 a3_1 ((rd_T35 l1_0 a2).f0) 1).bind fun bt294 => ((solve_right.f k l0 l1_0 ((rd_T35 l1_0 a2).f2) bt294.1 bt294.2).bind fun t296 => (some t296))) else (some false)))) else (some false)) else (none))) else (none)) else (none)) = some r := h
 clear h
 by_cases c5 : 0 ≤ a2
 ·rw [if_pos c5] at H
  have c5b0 : decide (0 ≤ a2) = true := decide_eq_true c5
  clear c5
  by_cases c6 : a2 < (l1_0.length : Int)
  ·rw [if_pos c6] at H
   have c6b0 : decide (a2 < (l1_0.length : Int)) = true := decide_eq_true c6
   clear c6
   have HC7 := Aside0.mk H
   clear H
   go_enter Try.func54, Try.ntmps54
   go_upto_if 17 with (first | ((with_reducible refine gate_dst (N := 5) rfl ?_); refine box_event ?hg (N := 5) ?hd (cs := #[.slice A1_0 l1_0.length c1_0]) (t := 27) ?hr ?_; (case hd => rfl); (case hg => rfl); (case hr => first | (go_simp; done) | (go_simp; rfl)); intro gb285 hg w8 hbox hb; have n0_ := Aside0.mk (below_step zB hb); have n1_ := Aside0.mk (hbox); have n2_ := Aside0.mk ((by rw [hg]; exact (below_size zB) : w.heap.size ≤ gb285)); have n3_ := Aside0.mk ((by rw [hg]; exact (below_size zB) : w.heap.size ≤ gb285)); clear HB; have HB := n0_; have BK285 := n1_; have GW285 := n2_; have GE285 := n3_; clear n0_ n1_ n2_ n3_; clear hb hbox hg) | ((with_reducible refine gate_dst (N := 7) rfl ?_); refine box_event ?hg (N := 7) ?hd (cs := #[.int .i64 a3_0, .int .i64 a3_1]) (t := 68) ?hr ?_; (case hd => rfl); (case hg => rfl); (case hr => first | (go_simp; done) | (go_simp; rfl)); intro gb286 hg w9 hbox hb; have n0_ := Aside0.mk (blk_below (g := gb285) (o := .cells #[.slice A1_0 l1_0.length c1_0] 27 (0, 0)) (zk BK285) hb); have n1_ := Aside0.mk (below_step zB hb); have n2_ := Aside0.mk (hbox); have n3_ := Aside0.mk ((by rw [hg]; exact (below_size zB) : w.heap.size ≤ gb286)); have n4_ := Aside0.mk ((by rw [hg]; exact (below_size zB) : w.heap.size ≤ gb286)); have n5_ := Aside0.mk ((by rw [hg]; exact Nat.ne_of_lt (blk_lt (g := gb285) (o := .cells #[.slice A1_0 l1_0.length c1_0] 27 (0, 0)) (zk BK285)) : gb285 ≠ gb286)); have n6_ := Aside0.mk ((by rw [hg]; exact Nat.ne_of_gt (blk_lt (g := gb285) (o := .cells #[.slice A1_0 l1_0.length c1_0] 27 (0, 0)) (zk BK285)) : gb286 ≠ gb285)); clear BK285; clear HB; have BK285 := n0_; have HB := n1_; have BK286 := n2_; have GW286 := n3_; have GE286 := n4_; have NB285_286 := n5_; have NB286_285 := n6_; clear n0_ n1_ n2_ n3_ n4_ n5_ n6_; clear hb hbox hg; have hnb10 := NB285_286.out; have hnc10 := NB286_285.out; have hcz11_0 : w9.cell? ⟨gb285, 0, none⟩ = some (.slice A1_0 l1_0.length c1_0) := (blk_cell BK285.out 0).trans rfl; have hfz11_0 := blk_frozen BK285.out 0; have p287 : 0 ≤ (a2 : Int) := of_decide_eq_true zh; have q287 : a2 < (l1_0.length : Int) := of_decide_eq_true zh; obtain ⟨ad287, e287, hx287_0, hx287_1, hx287_2, hx287_3⟩ := at_T35 HR1_0.out a2 p287 q287; cases e287; replace hx287_0 := (HB.out.cell (World.block_lt_of_cell? w _ hx287_0)).trans hx287_0; replace hx287_1 := (HB.out.cell (World.block_lt_of_cell? w _ hx287_1)).trans hx287_1; replace hx287_2 := (HB.out.cell (World.block_lt_of_cell? w _ hx287_2)).trans hx287_2; replace hx287_3 := (HB.out.cell (World.block_lt_of_cell? w _ hx287_3)).trans hx287_3; replace p287 := eq_true p287; replace q287 := eq_true q287) | ((with_reducible refine gate_dst (N := 9) rfl ?_); refine box_event ?hg (N := 9) ?hd (cs := #[.int .i64 0, .int .i64 0, .int .i64 0, .int .i64 0]) (t := 35) ?hr ?_; (case hd => rfl); (case hg => rfl); (case hr => first | (go_simp; done) | (go_simp; rfl)); intro gb288 hg w12 hbox hb; have n0_ := Aside0.mk (blk_below (g := gb285) (o := .cells #[.slice (some ad287) l1_0.length c1_0] 27 (0, 0)) (zk BK285) hb); have n1_ := Aside0.mk (blk_below (g := gb286) (o := .cells #[.int .i64 a3_0, .int .i64 a3_1] 68 (0, 0)) (zk BK286) hb); have n2_ := Aside0.mk (below_step zB hb); have n3_ := Aside0.mk (hbox); have n4_ := Aside0.mk ((by rw [hg]; exact (below_size zB) : w.heap.size ≤ gb288)); have n5_ := Aside0.mk ((by rw [hg]; exact (below_size zB) : w.heap.size ≤ gb288)); have n6_ := Aside0.mk ((by rw [hg]; exact Nat.ne_of_lt (blk_lt (g := gb285) (o := .cells #[.slice (some ad287) l1_0.length c1_0] 27 (0, 0)) (zk BK285)) : gb285 ≠ gb288)); have n7_ := Aside0.mk ((by rw [hg]; exact Nat.ne_of_gt (blk_lt (g := gb285) (o := .cells #[.slice (some ad287) l1_0.length c1_0] 27 (0, 0)) (zk BK285)) : gb288 ≠ gb285)); have n8_ := Aside0.mk ((by rw [hg]; exact Nat.ne_of_lt (blk_lt (g := gb286) (o := .cells #[.int .i64 a3_0, .int .i64 a3_1] 68 (0, 0)) (zk BK286)) : gb286 ≠ gb288)); have n9_ := Aside0.mk ((by rw [hg]; exact Nat.ne_of_gt (blk_lt (g := gb286) (o := .cells #[.int .i64 a3_0, .int .i64 a3_1] 68 (0, 0)) (zk BK286)) : gb288 ≠ gb286)); clear BK285; clear BK286; clear HB; have BK285 := n0_; have BK286 := n1_; have HB := n2_; have BK288 := n3_; have GW288 := n4_; have GE288 := n5_; have NB285_288 := n6_; have NB288_285 := n7_; have NB286_288 := n8_; have NB288_286 := n9_; clear n0_ n1_ n2_ n3_ n4_ n5_ n6_ n7_ n8_ n9_; clear hb hbox hg; have hnb13 := NB288_285.out; have hnc13 := NB285_288.out; have hnb14 := NB288_286.out; have hnc14 := NB286_288.out; have hcz15_0 : w12.cell? ⟨gb288, 0, none⟩ = some (.int .i64 0) := (blk_cell BK288.out 0).trans rfl; have hcz15_1 : w12.cell? ⟨gb288, 1, none⟩ = some (.int .i64 0) := (blk_cell BK288.out 1).trans rfl; have hcz15_2 : w12.cell? ⟨gb288, 2, none⟩ = some (.int .i64 0) := (blk_cell BK288.out 2).trans rfl; have hcz15_3 : w12.cell? ⟨gb288, 3, none⟩ = some (.int .i64 0) := (blk_cell BK288.out 3).trans rfl; have hfz15_0 := blk_frozen BK288.out 0; have hfz15_1 := blk_frozen BK288.out 1; have hfz15_2 := blk_frozen BK288.out 2; have hfz15_3 := blk_frozen BK288.out 3))
   (try simp only [Act.put, List.setIfInBounds_toArray, List.set_cons_zero, List.set_cons_succ])
   have H := HC7.out
   clear HC7
   by_cases c16 : ((rd_T35 l1_0 a2).f0) < 0
   ·rw [if_pos c16] at H
    have c16b0 : decide (((rd_T35 l1_0 a2).f0) < 0) = true := decide_eq_true c16
    clear c16
    (first | rw [c16b0] | (simp only [i64_w, i32_w]; rw [c16b0]) | skip)
    by_cases c17 : 0 ≤ ((rd_T35 l1_0 a2).f3)
    ·rw [if_pos c17] at H
     have c17b0 : decide (0 ≤ ((rd_T35 l1_0 a2).f3)) = true := decide_eq_true c17
     clear c17
     by_cases c18 : ((rd_T35 l1_0 a2).f3) < (l0.length : Int)
     ·rw [if_pos c18] at H
      have c18b0 : decide (((rd_T35 l1_0 a2).f3) < (l0.length : Int)) = true := decide_eq_true c18
      clear c18
      replace H := Option.bind_eq_some_iff.mp H
      obtain ⟨t290, A190, H⟩ := H
      replace H : (some t290) = some r := H
      have A19 := Aside0.mk A190
      clear A190
      obtain rfl := Option.some.inj H
      try go_wp2
      have n0_ : Aside0 (((((w12.setCell ⟨gb288, 0, none⟩ (.int .i64 ((rd_T35 l1_0 a2).f0))).setCell ⟨gb288, 1, none⟩ (.int .i64 ((rd_T35 l1_0 a2).f1))).setCell ⟨gb288, 2, none⟩ (.int .i64 ((rd_T35 l1_0 a2).f2))).setCell ⟨gb288, 3, none⟩ (.int .i64 ((rd_T35 l1_0 a2).f3))).heap[gb285]? = some (.cells #[.slice (some ad287) l1_0.length c1_0] 27 (0, 0))) := ⟨by (with_reducible repeat (first | refine blk_drewN ?_ _ | refine blk_drew ?_ | refine blk_alloc ?_ _)); refine blk_far ?_ NB285_288.out _; (with_reducible repeat (first | refine blk_drewN ?_ _ | refine blk_drew ?_ | refine blk_alloc ?_ _)); refine blk_far ?_ NB285_288.out _; (with_reducible repeat (first | refine blk_drewN ?_ _ | refine blk_drew ?_ | refine blk_alloc ?_ _)); refine blk_far ?_ NB285_288.out _; (with_reducible repeat (first | refine blk_drewN ?_ _ | refine blk_drew ?_ | refine blk_alloc ?_ _)); refine blk_far ?_ NB285_288.out _; (with_reducible repeat (first | refine blk_drewN ?_ _ | refine blk_drew ?_ | refine blk_alloc ?_ _)); exact BK285.out⟩
      have n1_ : Aside0 (((((w12.setCell ⟨gb288, 0, none⟩ (.int .i64 ((rd_T35 l1_0 a2).f0))).setCell ⟨gb288, 1, none⟩ (.int .i64 ((rd_T35 l1_0 a2).f1))).setCell ⟨gb288, 2, none⟩ (.int .i64 ((rd_T35 l1_0 a2).f2))).setCell ⟨gb288, 3, none⟩ (.int .i64 ((rd_T35 l1_0 a2).f3))).heap[gb286]? = some (.cells #[.int .i64 a3_0, .int .i64 a3_1] 68 (0, 0))) := ⟨by (with_reducible repeat (first | refine blk_drewN ?_ _ | refine blk_drew ?_ | refine blk_alloc ?_ _)); refine blk_far ?_ NB286_288.out _; (with_reducible repeat (first | refine blk_drewN ?_ _ | refine blk_drew ?_ | refine blk_alloc ?_ _)); refine blk_far ?_ NB286_288.out _; (with_reducible repeat (first | refine blk_drewN ?_ _ | refine blk_drew ?_ | refine blk_alloc ?_ _)); refine blk_far ?_ NB286_288.out _; (with_reducible repeat (first | refine blk_drewN ?_ _ | refine blk_drew ?_ | refine blk_alloc ?_ _)); refine blk_far ?_ NB286_288.out _; (with_reducible repeat (first | refine blk_drewN ?_ _ | refine blk_drew ?_ | refine blk_alloc ?_ _)); exact BK286.out⟩
      have n2_ : Aside0 (((((w12.setCell ⟨gb288, 0, none⟩ (.int .i64 ((rd_T35 l1_0 a2).f0))).setCell ⟨gb288, 1, none⟩ (.int .i64 ((rd_T35 l1_0 a2).f1))).setCell ⟨gb288, 2, none⟩ (.int .i64 ((rd_T35 l1_0 a2).f2))).setCell ⟨gb288, 3, none⟩ (.int .i64 ((rd_T35 l1_0 a2).f3))).heap[gb288]? = some (.cells #[.int .i64 ((rd_T35 l1_0 a2).f0), .int .i64 ((rd_T35 l1_0 a2).f1), .int .i64 ((rd_T35 l1_0 a2).f2), .int .i64 ((rd_T35 l1_0 a2).f3)] 35 (0, 0))) := ⟨by (with_reducible repeat (first | refine blk_drewN ?_ _ | refine blk_drew ?_ | refine blk_alloc ?_ _)); refine blk_put (cs := #[.int .i64 ((rd_T35 l1_0 a2).f0), .int .i64 ((rd_T35 l1_0 a2).f1), .int .i64 ((rd_T35 l1_0 a2).f2), .int .i64 0]) ?_ 3 _ rfl; (with_reducible repeat (first | refine blk_drewN ?_ _ | refine blk_drew ?_ | refine blk_alloc ?_ _)); refine blk_put (cs := #[.int .i64 ((rd_T35 l1_0 a2).f0), .int .i64 ((rd_T35 l1_0 a2).f1), .int .i64 0, .int .i64 0]) ?_ 2 _ rfl; (with_reducible repeat (first | refine blk_drewN ?_ _ | refine blk_drew ?_ | refine blk_alloc ?_ _)); refine blk_put (cs := #[.int .i64 ((rd_T35 l1_0 a2).f0), .int .i64 0, .int .i64 0, .int .i64 0]) ?_ 1 _ rfl; (with_reducible repeat (first | refine blk_drewN ?_ _ | refine blk_drew ?_ | refine blk_alloc ?_ _)); refine blk_put (cs := #[.int .i64 0, .int .i64 0, .int .i64 0, .int .i64 0]) ?_ 0 _ rfl; (with_reducible repeat (first | refine blk_drewN ?_ _ | refine blk_drew ?_ | refine blk_alloc ?_ _)); exact BK288.out⟩
      have n3_ : Aside0 (Below w.heap.size w ((((w12.setCell ⟨gb288, 0, none⟩ (.int .i64 ((rd_T35 l1_0 a2).f0))).setCell ⟨gb288, 1, none⟩ (.int .i64 ((rd_T35 l1_0 a2).f1))).setCell ⟨gb288, 2, none⟩ (.int .i64 ((rd_T35 l1_0 a2).f2))).setCell ⟨gb288, 3, none⟩ (.int .i64 ((rd_T35 l1_0 a2).f3)))) := ⟨by repeat (first | (with_reducible first | exact HB.out | apply below_alloc | apply pw_below_drewN | apply below_drew1 | refine below_set ?_ GE285.out | refine below_set ?_ GE286.out | refine below_set ?_ GE288.out) | exact HB.out)⟩
      (try clear BK285)
      (try clear BK286)
      (try clear BK288)
      (try clear HB)
      generalize ((((w12.setCell ⟨gb288, 0, none⟩ (.int .i64 ((rd_T35 l1_0 a2).f0))).setCell ⟨gb288, 1, none⟩ (.int .i64 ((rd_T35 l1_0 a2).f1))).setCell ⟨gb288, 2, none⟩ (.int .i64 ((rd_T35 l1_0 a2).f2))).setCell ⟨gb288, 3, none⟩ (.int .i64 ((rd_T35 l1_0 a2).f3))) = w20 at n0_ n1_ n2_ n3_ ⊢
      have BK285 := n0_
      have BK286 := n1_
      have BK288 := n2_
      have HB := n3_
      clear n0_ n1_ n2_ n3_
      have n0_ := Aside0.mk (blk_drew BK285.out)
      have n1_ := Aside0.mk (blk_drew BK286.out)
      have n2_ := Aside0.mk (blk_drew BK288.out)
      have n3_ := Aside0.mk (below_drew1 HB.out)
      clear BK285
      clear BK286
      clear BK288
      clear HB
      have BK285 := n0_
      have BK286 := n1_
      have BK288 := n2_
      have HB := n3_
      clear n0_ n1_ n2_ n3_
      have p289 : 0 ≤ (((rd_T35 l1_0 a2).f3) : Int) := of_decide_eq_true zh
      have q289 : ((rd_T35 l1_0 a2).f3) < (l0.length : Int) := of_decide_eq_true zh
      obtain ⟨ad289, A289_0, c289_0, A289_1, c289_1, e289, hx289_0, hx289_1, hl289_0, hi289_0, hl289_1, hi289_1⟩ := at_T61 HR0.out ((rd_T35 l1_0 a2).f3) p289 q289
      have hw289_1 := hx289_1
      have hw289_0 := hx289_0
      cases e289
      replace hx289_0 := (HB.out.cell (World.block_lt_of_cell? w _ hx289_0)).trans hx289_0
      replace hx289_1 := (HB.out.cell (World.block_lt_of_cell? w _ hx289_1)).trans hx289_1
      have HR289_0 := Aside0.mk hi289_0
      have HC289_0 := Aside0.mk hl289_0
      clear hi289_0 hl289_0
      have HR289_1 := Aside0.mk hi289_1
      have HC289_1 := Aside0.mk hl289_1
      clear hi289_1 hl289_1
      replace p289 := eq_true p289
      replace q289 := eq_true q289
      refine start_ (n := 8) (S := fun w' => w'.cell? ⟨gb286, 0, none⟩ = some (.int .i64 a3_0) ∧ w'.cell? ⟨gb286, 1, none⟩ = some (.int .i64 a3_1) ∧ w'.cell? ⟨gb288, 0, none⟩ = some (.int .i64 ((rd_T35 l1_0 a2).f0)) ∧ w'.cell? ⟨gb288, 1, none⟩ = some (.int .i64 ((rd_T35 l1_0 a2).f1)) ∧ w'.cell? ⟨gb288, 2, none⟩ = some (.int .i64 ((rd_T35 l1_0 a2).f2)) ∧ w'.cell? ⟨gb288, 3, none⟩ = some (.int .i64 ((rd_T35 l1_0 a2).f3)) ∧ w'.cell? (ad289.add ((((rd_T35 l1_0 a2).f3)).toNat * 2)) = some (.slice A289_0 ((rd_T61 l0 ((rd_T35 l1_0 a2).f3)).f0).length c289_0) ∧ w'.cell? ⟨(ad289.add ((((rd_T35 l1_0 a2).f3)).toNat * 2)).block, (ad289.add ((((rd_T35 l1_0 a2).f3)).toNat * 2)).off + 1, none⟩ = some (.slice A289_1 ((rd_T61 l0 ((rd_T35 l1_0 a2).f3)).f1).length c289_1)) (ds := []) #[false, false, false, false, false, false, false, false] zK rfl rfl ⟨(blk_cell BK286.out 0).trans rfl, (blk_cell BK286.out 1).trans rfl, (blk_cell BK288.out 0).trans rfl, (blk_cell BK288.out 1).trans rfl, (blk_cell BK288.out 2).trans rfl, (blk_cell BK288.out 3).trans rfl, ((HB.out.cell (World.block_lt_of_cell? w _ hw289_0)).trans hw289_0), ((HB.out.cell (World.block_lt_of_cell? w _ hw289_1)).trans hw289_1)⟩ (fun hHeld => ?_); refine with_tabW solve_right.tab3 solve_right.bits3 (fun HT_ HW_ => ?_)
      generalize w20.drew = w21 at BK285 BK286 BK288 HB HR289_0 HR289_1 hx289_0 hx289_1 hHeld ⊢
      refine pure_ (i := 1) (N := some 19) (v := ?_) (a' := ?_) #[false, true, false, false, false, false, false, false] rfl rfl (any_of HT_.out zK) (fun _ _ _ h => h) (Or.inl ⟨by rfl, ?_⟩) ?_ ?_
      rotate_left
      ·intro w'
       go_simp
       with_reducible rfl
      rotate_left
      ·simp only [Act.put, List.setIfInBounds_toArray, List.set_cons_zero, List.set_cons_succ, i64_w, i32_w]
       rfl
      refine pure_ (i := 2) (N := some 20) (v := ?_) (a' := ?_) #[false, true, true, false, false, false, false, false] rfl rfl (any_of HT_.out zK) (fun _ _ _ h => h) (Or.inl ⟨by rfl, ?_⟩) ?_ ?_
      rotate_left
      ·intro w'
       go_simp
       with_reducible rfl
      rotate_left
      ·simp only [Act.put, List.setIfInBounds_toArray, List.set_cons_zero, List.set_cons_succ, i64_w, i32_w]
       rfl
      refine take_ (i := 0) (N := some 18) (v := ?_) (a' := ?_) #[true, true, true, false, false, false, false, false] rfl rfl (take_ofW HT_.out HW_.out zK) (fun _ _ _ h => h) (Or.inl ⟨by rfl, ?_⟩) hHeld ?_ ?_
      rotate_left
      ·rintro w' ⟨s0, s1, s2, s3, s4, s5, s6, s7⟩
       go_simp
       with_reducible rfl
      rotate_left
      ·simp only [Act.put, List.setIfInBounds_toArray, List.set_cons_zero, List.set_cons_succ, i64_w, i32_w]
       rfl
      refine take_ (i := 3) (N := some 21) (v := ?_) (a' := ?_) #[true, true, true, true, false, false, false, false] rfl rfl (take_ofW HT_.out HW_.out zK) (fun _ _ _ h => h) (Or.inl ⟨by rfl, ?_⟩) hHeld ?_ ?_
      rotate_left
      ·rintro w' ⟨s0, s1, s2, s3, s4, s5, s6, s7⟩
       go_simp
       with_reducible rfl
      rotate_left
      ·simp only [Act.put, List.setIfInBounds_toArray, List.set_cons_zero, List.set_cons_succ, i64_w, i32_w]
       rfl
      refine pure_ (i := 4) (N := some 22) (v := ?_) (a' := ?_) #[true, true, true, true, true, false, false, false] rfl rfl (any_of HT_.out zK) (fun _ _ _ h => h) (Or.inl ⟨by rfl, ?_⟩) ?_ ?_
      rotate_left
      ·intro w'
       go_simp
       with_reducible rfl
      rotate_left
      ·simp only [Act.put, List.setIfInBounds_toArray, List.set_cons_zero, List.set_cons_succ, i64_w, i32_w]
       rfl
      refine take_ (i := 5) (N := some 23) (v := ?_) (a' := ?_) #[true, true, true, true, true, true, false, false] rfl rfl (take_ofW HT_.out HW_.out zK) (fun _ _ _ h => h) (Or.inl ⟨by rfl, ?_⟩) hHeld ?_ ?_
      rotate_left
      ·rintro w' ⟨s0, s1, s2, s3, s4, s5, s6, s7⟩
       go_simp
       with_reducible rfl
      rotate_left
      ·simp only [Act.put, List.setIfInBounds_toArray, List.set_cons_zero, List.set_cons_succ, i64_w, i32_w]
       rfl
      refine one_ (i := 6) (N := some 24) #[true, true, true, true, true, true, true, false] rfl rfl (one_of HT_.out zK) (by decide) (fun K hK => ?_)
      refine goes_ Try.func92 zK rfl #[.agg #[.int .i64 a3_0, .int .i64 a3_1], .agg #[.slice A289_0 ((rd_T61 l0 ((rd_T35 l1_0 a2).f3)).f0).length c289_0, .slice A289_1 ((rd_T61 l0 ((rd_T35 l1_0 a2).f3)).f1).length c289_1]] (by rfl) rfl rfl zM ?_
      with_reducible refine (solve_choices_fails.calls k a3_0 a3_1 _ _ ((rd_T61 l0 ((rd_T35 l1_0 a2).f3)).f0) _ _ ((rd_T61 l0 ((rd_T35 l1_0 a2).f3)).f1) t290 _ ?side1 ?side2 ?side3 ?side4 A19.out).mono ?_
      (case side1 => repeat (first | exact (Kd.C_below HR289_0.out HB.out) | (with_reducible refine Kd.C_alloc ?_ _) | (with_reducible refine Kd.C_drewN ?_ _) | (with_reducible refine Kd.C_drew ?_)))
      (case side2 => exact HC289_0.out)
      (case side3 => repeat (first | exact (Kd.C_below HR289_1.out HB.out) | (with_reducible refine Kd.C_alloc ?_ _) | (with_reducible refine Kd.C_drewN ?_ _) | (with_reducible refine Kd.C_drew ?_)))
      (case side4 => exact HC289_1.out)
      rintro e w22 ⟨rfl, hb⟩
      refine ⟨_, rfl, ?_⟩
      have n0_ := Aside0.mk (blk_below (g := gb285) (o := .cells #[.slice (some ad287) l1_0.length c1_0] 27 (0, 0)) (zk BK285) hb)
      have n1_ := Aside0.mk (blk_below (g := gb286) (o := .cells #[.int .i64 a3_0, .int .i64 a3_1] 68 (0, 0)) (zk BK286) hb)
      have n2_ := Aside0.mk (blk_below (g := gb288) (o := .cells #[.int .i64 ((rd_T35 l1_0 a2).f0), .int .i64 ((rd_T35 l1_0 a2).f1), .int .i64 ((rd_T35 l1_0 a2).f2), .int .i64 ((rd_T35 l1_0 a2).f3)] 35 (0, 0)) (zk BK288) hb)
      have n3_ := Aside0.mk (below_step zB hb)
      clear BK285
      clear BK286
      clear BK288
      clear HB
      have BK285 := n0_
      have BK286 := n1_
      have BK288 := n2_
      have HB := n3_
      clear n0_ n1_ n2_ n3_
      (try clear hb)
      (try clear hb2)
      (try clear hk)
      (try clear hi)
      refine hK.out _ _ ⟨(blk_cell BK286.out 0).trans rfl, (blk_cell BK286.out 1).trans rfl, (blk_cell BK288.out 0).trans rfl, (blk_cell BK288.out 1).trans rfl, (blk_cell BK288.out 2).trans rfl, (blk_cell BK288.out 3).trans rfl, ((HB.out.cell (World.block_lt_of_cell? w _ hw289_0)).trans hw289_0), ((HB.out.cell (World.block_lt_of_cell? w _ hw289_1)).trans hw289_1)⟩ (fun hHeld => ?_)
      clear hK K
      refine norm_ (a' := ?_) ?_ ?_
      rotate_left
      ·show Act.put _ (some 24) _ = _
       simp only [Act.put, List.setIfInBounds_toArray, List.set_cons_zero, List.set_cons_succ, i64_w, i32_w]
       rfl
      refine pure_ (i := 7) (N := some 8) (v := ?_) (a' := ?_) #[true, true, true, true, true, true, true, true] rfl rfl (any_of HT_.out zK) (fun _ _ _ h => h) (Or.inl ⟨by rfl, ?_⟩) ?_ ?_
      rotate_left
      ·intro w'
       go_simp
       with_reducible rfl
      rotate_left
      ·simp only [Act.put, List.setIfInBounds_toArray, List.set_cons_zero, List.set_cons_succ, i64_w, i32_w]
       rfl
      refine done_ (done_of HT_.out zK) ?_
      try go_wp2
      go_ret
      exact ⟨by first | rfl | (simp [errW_none, errW_some] <;> rfl) | (simp [*, errW_none, errW_some] <;> rfl), by repeat (first | (with_reducible first | exact HB.out | apply below_alloc | apply pw_below_drewN | apply below_drew1 | refine below_set ?_ GE285.out | refine below_set ?_ GE286.out | refine below_set ?_ GE288.out) | exact HB.out)⟩
     ·rw [if_neg c18] at H
      exact absurd H (by simp)
    ·rw [if_neg c17] at H
     exact absurd H (by simp)
   ·rw [if_neg c16] at H
    have c16b0 : decide (((rd_T35 l1_0 a2).f0) < 0) = false := decide_eq_false c16
    clear c16
    (first | rw [c16b0] | (simp only [i64_w, i32_w]; rw [c16b0]) | skip)
    by_cases c23 : 0 ≤ ((rd_T35 l1_0 a2).f0)
    ·rw [if_pos c23] at H
     have c23b0 := eq_true c23
     have c23b1 : decide (0 ≤ ((rd_T35 l1_0 a2).f0)) = true := decide_eq_true c23
     clear c23
     obtain ⟨ji24, hji24⟩ : ∃ j_ : Int, (shr .i64 a3_0 ((rd_T35 l1_0 a2).f0)) = j_ := ⟨_, rfl⟩
     replace H : (if (Go.bits .and .i64 (ji24) 1) = 0 then ((solve_choices_with.f a3_0 a3_1 ((rd_T35 l1_0 a2).f0) 0).bind fun bt291 => ((solve_right.f k l0 l1_0 ((rd_T35 l1_0 a2).f1) bt291.1 bt291.2).bind fun t293 => (if t293 = true then ((solve_choices_with.f a3_0 a3_1 ((rd_T35 l1_0 a2).f0) 1).bind fun bt294 => ((solve_right.f k l0 l1_0 ((rd_T35 l1_0 a2).f2) bt294.1 bt294.2).bind fun t296 => (some t296))) else (some false)))) else (some false)) = some r := by first | (rw [hji24] at H; exact H) | (simp only [hji24] at H ⊢; exact H)
     have hji24_ : (a3_0 / 2 ^ min ((rd_T35 l1_0 a2).f0).toNat 64) = ji24 := hji24
     have hji24z : ((rd_T35 l1_0 a2).f0) ≤ 64 → (a3_0 / 2 ^ ((rd_T35 l1_0 a2).f0).toNat) = ji24 := shr_small hji24
     by_cases c25 : (Go.bits .and .i64 (ji24) 1) = 0
     ·rw [if_pos c25] at H
      have c25b0 : ((Go.bits .and .i64 (ji24) 1) == 0) = true := beq_iff_eq.mpr c25
      have c25b1 : ((Go.bits .and .i64 (ji24) 1) != 0) = false := bne_eq_false_iff_eq.mpr c25
      clear c25
      replace H := Option.bind_eq_some_iff.mp H
      obtain ⟨⟨t291, t292⟩, A260, H⟩ := H
      replace H : ((solve_right.f k l0 l1_0 ((rd_T35 l1_0 a2).f1) t291 t292).bind fun t293 => (if t293 = true then ((solve_choices_with.f a3_0 a3_1 ((rd_T35 l1_0 a2).f0) 1).bind fun bt294 => ((solve_right.f k l0 l1_0 ((rd_T35 l1_0 a2).f2) bt294.1 bt294.2).bind fun t296 => (some t296))) else (some false))) = some r := H
      have A26 := Aside0.mk A260
      clear A260
      replace H := Option.bind_eq_some_iff.mp H
      obtain ⟨t293, A270, H⟩ := H
      replace H : (if t293 = true then ((solve_choices_with.f a3_0 a3_1 ((rd_T35 l1_0 a2).f0) 1).bind fun bt294 => ((solve_right.f k l0 l1_0 ((rd_T35 l1_0 a2).f2) bt294.1 bt294.2).bind fun t296 => (some t296))) else (some false)) = some r := H
      have A27 := Aside0.mk A270
      clear A270
      by_cases c28 : t293 = true
      ·subst c28
       have H1 : ((solve_choices_with.f a3_0 a3_1 ((rd_T35 l1_0 a2).f0) 1).bind fun bt294 => ((solve_right.f k l0 l1_0 ((rd_T35 l1_0 a2).f2) bt294.1 bt294.2).bind fun t296 => (some t296))) = some r := by rw [if_pos rfl] at H; exact H
       clear H
       have H := H1
       clear H1
       replace H := Option.bind_eq_some_iff.mp H
       obtain ⟨⟨t294, t295⟩, A290, H⟩ := H
       replace H : ((solve_right.f k l0 l1_0 ((rd_T35 l1_0 a2).f2) t294 t295).bind fun t296 => (some t296)) = some r := H
       have A29 := Aside0.mk A290
       clear A290
       replace H := Option.bind_eq_some_iff.mp H
       obtain ⟨t296, A300, H⟩ := H
       replace H : (some t296) = some r := H
       have A30 := Aside0.mk A300
       clear A300
       obtain rfl := Option.some.inj H
       try go_wp2
       have n0_ : Aside0 (((((w12.setCell ⟨gb288, 0, none⟩ (.int .i64 ((rd_T35 l1_0 a2).f0))).setCell ⟨gb288, 1, none⟩ (.int .i64 ((rd_T35 l1_0 a2).f1))).setCell ⟨gb288, 2, none⟩ (.int .i64 ((rd_T35 l1_0 a2).f2))).setCell ⟨gb288, 3, none⟩ (.int .i64 ((rd_T35 l1_0 a2).f3))).heap[gb285]? = some (.cells #[.slice (some ad287) l1_0.length c1_0] 27 (0, 0))) := ⟨by (with_reducible repeat (first | refine blk_drewN ?_ _ | refine blk_drew ?_ | refine blk_alloc ?_ _)); refine blk_far ?_ NB285_288.out _; (with_reducible repeat (first | refine blk_drewN ?_ _ | refine blk_drew ?_ | refine blk_alloc ?_ _)); refine blk_far ?_ NB285_288.out _; (with_reducible repeat (first | refine blk_drewN ?_ _ | refine blk_drew ?_ | refine blk_alloc ?_ _)); refine blk_far ?_ NB285_288.out _; (with_reducible repeat (first | refine blk_drewN ?_ _ | refine blk_drew ?_ | refine blk_alloc ?_ _)); refine blk_far ?_ NB285_288.out _; (with_reducible repeat (first | refine blk_drewN ?_ _ | refine blk_drew ?_ | refine blk_alloc ?_ _)); exact BK285.out⟩
       have n1_ : Aside0 (((((w12.setCell ⟨gb288, 0, none⟩ (.int .i64 ((rd_T35 l1_0 a2).f0))).setCell ⟨gb288, 1, none⟩ (.int .i64 ((rd_T35 l1_0 a2).f1))).setCell ⟨gb288, 2, none⟩ (.int .i64 ((rd_T35 l1_0 a2).f2))).setCell ⟨gb288, 3, none⟩ (.int .i64 ((rd_T35 l1_0 a2).f3))).heap[gb286]? = some (.cells #[.int .i64 a3_0, .int .i64 a3_1] 68 (0, 0))) := ⟨by (with_reducible repeat (first | refine blk_drewN ?_ _ | refine blk_drew ?_ | refine blk_alloc ?_ _)); refine blk_far ?_ NB286_288.out _; (with_reducible repeat (first | refine blk_drewN ?_ _ | refine blk_drew ?_ | refine blk_alloc ?_ _)); refine blk_far ?_ NB286_288.out _; (with_reducible repeat (first | refine blk_drewN ?_ _ | refine blk_drew ?_ | refine blk_alloc ?_ _)); refine blk_far ?_ NB286_288.out _; (with_reducible repeat (first | refine blk_drewN ?_ _ | refine blk_drew ?_ | refine blk_alloc ?_ _)); refine blk_far ?_ NB286_288.out _; (with_reducible repeat (first | refine blk_drewN ?_ _ | refine blk_drew ?_ | refine blk_alloc ?_ _)); exact BK286.out⟩
       have n2_ : Aside0 (((((w12.setCell ⟨gb288, 0, none⟩ (.int .i64 ((rd_T35 l1_0 a2).f0))).setCell ⟨gb288, 1, none⟩ (.int .i64 ((rd_T35 l1_0 a2).f1))).setCell ⟨gb288, 2, none⟩ (.int .i64 ((rd_T35 l1_0 a2).f2))).setCell ⟨gb288, 3, none⟩ (.int .i64 ((rd_T35 l1_0 a2).f3))).heap[gb288]? = some (.cells #[.int .i64 ((rd_T35 l1_0 a2).f0), .int .i64 ((rd_T35 l1_0 a2).f1), .int .i64 ((rd_T35 l1_0 a2).f2), .int .i64 ((rd_T35 l1_0 a2).f3)] 35 (0, 0))) := ⟨by (with_reducible repeat (first | refine blk_drewN ?_ _ | refine blk_drew ?_ | refine blk_alloc ?_ _)); refine blk_put (cs := #[.int .i64 ((rd_T35 l1_0 a2).f0), .int .i64 ((rd_T35 l1_0 a2).f1), .int .i64 ((rd_T35 l1_0 a2).f2), .int .i64 0]) ?_ 3 _ rfl; (with_reducible repeat (first | refine blk_drewN ?_ _ | refine blk_drew ?_ | refine blk_alloc ?_ _)); refine blk_put (cs := #[.int .i64 ((rd_T35 l1_0 a2).f0), .int .i64 ((rd_T35 l1_0 a2).f1), .int .i64 0, .int .i64 0]) ?_ 2 _ rfl; (with_reducible repeat (first | refine blk_drewN ?_ _ | refine blk_drew ?_ | refine blk_alloc ?_ _)); refine blk_put (cs := #[.int .i64 ((rd_T35 l1_0 a2).f0), .int .i64 0, .int .i64 0, .int .i64 0]) ?_ 1 _ rfl; (with_reducible repeat (first | refine blk_drewN ?_ _ | refine blk_drew ?_ | refine blk_alloc ?_ _)); refine blk_put (cs := #[.int .i64 0, .int .i64 0, .int .i64 0, .int .i64 0]) ?_ 0 _ rfl; (with_reducible repeat (first | refine blk_drewN ?_ _ | refine blk_drew ?_ | refine blk_alloc ?_ _)); exact BK288.out⟩
       have n3_ : Aside0 (Below w.heap.size w ((((w12.setCell ⟨gb288, 0, none⟩ (.int .i64 ((rd_T35 l1_0 a2).f0))).setCell ⟨gb288, 1, none⟩ (.int .i64 ((rd_T35 l1_0 a2).f1))).setCell ⟨gb288, 2, none⟩ (.int .i64 ((rd_T35 l1_0 a2).f2))).setCell ⟨gb288, 3, none⟩ (.int .i64 ((rd_T35 l1_0 a2).f3)))) := ⟨by repeat (first | (with_reducible first | exact HB.out | apply below_alloc | apply pw_below_drewN | apply below_drew1 | refine below_set ?_ GE285.out | refine below_set ?_ GE286.out | refine below_set ?_ GE288.out) | exact HB.out)⟩
       (try clear BK285)
       (try clear BK286)
       (try clear BK288)
       (try clear HB)
       generalize ((((w12.setCell ⟨gb288, 0, none⟩ (.int .i64 ((rd_T35 l1_0 a2).f0))).setCell ⟨gb288, 1, none⟩ (.int .i64 ((rd_T35 l1_0 a2).f1))).setCell ⟨gb288, 2, none⟩ (.int .i64 ((rd_T35 l1_0 a2).f2))).setCell ⟨gb288, 3, none⟩ (.int .i64 ((rd_T35 l1_0 a2).f3))) = w31 at n0_ n1_ n2_ n3_ ⊢
       have BK285 := n0_
       have BK286 := n1_
       have BK288 := n2_
       have HB := n3_
       clear n0_ n1_ n2_ n3_
       have n0_ := Aside0.mk (blk_drew BK285.out)
       have n1_ := Aside0.mk (blk_drew BK286.out)
       have n2_ := Aside0.mk (blk_drew BK288.out)
       have n3_ := Aside0.mk (below_drew1 HB.out)
       clear BK285
       clear BK286
       clear BK288
       clear HB
       have BK285 := n0_
       have BK286 := n1_
       have BK288 := n2_
       have HB := n3_
       clear n0_ n1_ n2_ n3_
       refine start_ (n := 30) (S := fun w' => w'.cell? ⟨gb286, 0, none⟩ = some (.int .i64 a3_0) ∧ w'.cell? ⟨gb286, 1, none⟩ = some (.int .i64 a3_1) ∧ w'.cell? ⟨gb288, 0, none⟩ = some (.int .i64 ((rd_T35 l1_0 a2).f0)) ∧ w'.cell? ⟨gb288, 1, none⟩ = some (.int .i64 ((rd_T35 l1_0 a2).f1)) ∧ w'.cell? ⟨gb288, 2, none⟩ = some (.int .i64 ((rd_T35 l1_0 a2).f2)) ∧ w'.cell? ⟨gb288, 3, none⟩ = some (.int .i64 ((rd_T35 l1_0 a2).f3)) ∧ w'.cell? ⟨gb285, 0, none⟩ = some (.slice (some ad287) l1_0.length c1_0)) (ds := []) #[false, false, false, false, false, false, false, false, false, false, false, false, false, false, false, false, false, false, false, false, false, false, false, false, false, false, false, false, false, false] zK rfl rfl ⟨(blk_cell BK286.out 0).trans rfl, (blk_cell BK286.out 1).trans rfl, (blk_cell BK288.out 0).trans rfl, (blk_cell BK288.out 1).trans rfl, (blk_cell BK288.out 2).trans rfl, (blk_cell BK288.out 3).trans rfl, (blk_cell BK285.out 0).trans rfl⟩ (fun hHeld => ?_); refine with_tabW solve_right.tab4 solve_right.bits4 (fun HT_ HW_ => ?_)
       generalize w31.drew = w32 at BK285 BK286 BK288 HB hHeld ⊢
       refine pure_ (i := 0) (N := some 25) (v := ?_) (a' := ?_) #[true, false, false, false, false, false, false, false, false, false, false, false, false, false, false, false, false, false, false, false, false, false, false, false, false, false, false, false, false, false] rfl rfl (any_of HT_.out zK) (fun _ _ _ h => h) (Or.inl ⟨by rfl, ?_⟩) ?_ ?_
       rotate_left
       ·intro w'
        go_simp
        with_reducible rfl
       rotate_left
       ·simp only [Act.put, List.setIfInBounds_toArray, List.set_cons_zero, List.set_cons_succ, i64_w, i32_w]
        rfl
       refine pure_ (i := 2) (N := some 27) (v := ?_) (a' := ?_) #[true, false, true, false, false, false, false, false, false, false, false, false, false, false, false, false, false, false, false, false, false, false, false, false, false, false, false, false, false, false] rfl rfl (any_of HT_.out zK) (fun _ _ _ h => h) (Or.inl ⟨by rfl, ?_⟩) ?_ ?_
       rotate_left
       ·intro w'
        go_simp
        with_reducible rfl
       rotate_left
       ·simp only [Act.put, List.setIfInBounds_toArray, List.set_cons_zero, List.set_cons_succ, i64_w, i32_w]
        rfl
       refine take_ (i := 1) (N := some 26) (v := ?_) (a' := ?_) #[true, true, true, false, false, false, false, false, false, false, false, false, false, false, false, false, false, false, false, false, false, false, false, false, false, false, false, false, false, false] rfl rfl (take_ofW HT_.out HW_.out zK) (fun _ _ _ h => h) (Or.inl ⟨by rfl, ?_⟩) hHeld ?_ ?_
       rotate_left
       ·rintro w' ⟨s0, s1, s2, s3, s4, s5, s6⟩
        go_simp
        with_reducible rfl
       rotate_left
       ·simp only [Act.put, List.setIfInBounds_toArray, List.set_cons_zero, List.set_cons_succ, i64_w, i32_w]
        rfl
       refine take_ (i := 3) (N := some 28) (v := ?_) (a' := ?_) #[true, true, true, true, false, false, false, false, false, false, false, false, false, false, false, false, false, false, false, false, false, false, false, false, false, false, false, false, false, false] rfl rfl (take_ofW HT_.out HW_.out zK) (fun _ _ _ h => h) (Or.inl ⟨by rfl, ?_⟩) hHeld ?_ ?_
       rotate_left
       ·rintro w' ⟨s0, s1, s2, s3, s4, s5, s6⟩
        go_simp
        with_reducible rfl
       rotate_left
       ·simp only [Act.put, List.setIfInBounds_toArray, List.set_cons_zero, List.set_cons_succ, i64_w, i32_w]
        rfl
       refine pure_ (i := 4) (N := some 29) (v := ?_) (a' := ?_) #[true, true, true, true, true, false, false, false, false, false, false, false, false, false, false, false, false, false, false, false, false, false, false, false, false, false, false, false, false, false] rfl rfl (any_of HT_.out zK) (fun _ _ _ h => h) (Or.inl ⟨by rfl, ?_⟩) ?_ ?_
       rotate_left
       ·intro w'
        go_simp
        with_reducible rfl
       rotate_left
       ·simp only [Act.put, List.setIfInBounds_toArray, List.set_cons_zero, List.set_cons_succ, i64_w, i32_w]
        rfl
       refine pure_ (i := 5) (N := some 30) (v := ?_) (a' := ?_) #[true, true, true, true, true, true, false, false, false, false, false, false, false, false, false, false, false, false, false, false, false, false, false, false, false, false, false, false, false, false] rfl rfl (any_of HT_.out zK) (fun _ _ _ h => h) (Or.inl ⟨by rfl, ?_⟩) ?_ ?_
       rotate_left
       ·intro w'
        go_simp
        with_reducible rfl
       rotate_left
       ·simp only [Act.put, List.setIfInBounds_toArray, List.set_cons_zero, List.set_cons_succ, i64_w, i32_w]
        rfl
       refine pure_ (i := 6) (N := some 31) (v := ?_) (a' := ?_) #[true, true, true, true, true, true, true, false, false, false, false, false, false, false, false, false, false, false, false, false, false, false, false, false, false, false, false, false, false, false] rfl rfl (any_of HT_.out zK) (fun _ _ _ h => h) (Or.inl ⟨by rfl, ?_⟩) ?_ ?_
       rotate_left
       ·intro w'
        go_simp
        with_reducible rfl
       rotate_left
       ·simp only [Act.put, List.setIfInBounds_toArray, List.set_cons_zero, List.set_cons_succ, i64_w, i32_w]
        rfl
       refine pure_ (i := 7) (N := some 32) (v := ?_) (a' := ?_) #[true, true, true, true, true, true, true, true, false, false, false, false, false, false, false, false, false, false, false, false, false, false, false, false, false, false, false, false, false, false] rfl rfl (any_of HT_.out zK) (fun _ _ _ h => h) (Or.inl ⟨by rfl, ?_⟩) ?_ ?_
       rotate_left
       ·intro w'
        go_simp
        with_reducible rfl
       rotate_left
       ·simp only [Act.put, List.setIfInBounds_toArray, List.set_cons_zero, List.set_cons_succ, i64_w, i32_w]
        rfl
       refine pure_ (i := 8) (N := some 33) (v := ?_) (a' := ?_) #[true, true, true, true, true, true, true, true, true, false, false, false, false, false, false, false, false, false, false, false, false, false, false, false, false, false, false, false, false, false] rfl rfl (any_of HT_.out zK) (fun _ _ _ h => h) (Or.inl ⟨by rfl, ?_⟩) ?_ ?_
       rotate_left
       ·intro w'
        go_simp
        with_reducible rfl
       rotate_left
       ·simp only [Act.put, List.setIfInBounds_toArray, List.set_cons_zero, List.set_cons_succ, i64_w, i32_w]
        rfl
       refine pure_ (i := 10) (N := some 35) (v := ?_) (a' := ?_) #[true, true, true, true, true, true, true, true, true, false, true, false, false, false, false, false, false, false, false, false, false, false, false, false, false, false, false, false, false, false] rfl rfl (any_of HT_.out zK) (fun _ _ _ h => h) (Or.inl ⟨by rfl, ?_⟩) ?_ ?_
       rotate_left
       ·intro w'
        go_simp
        with_reducible rfl
       rotate_left
       ·simp only [Act.put, List.setIfInBounds_toArray, List.set_cons_zero, List.set_cons_succ, i64_w, i32_w]
        rfl
       refine pure_ (i := 13) (N := some 38) (v := ?_) (a' := ?_) #[true, true, true, true, true, true, true, true, true, false, true, false, false, true, false, false, false, false, false, false, false, false, false, false, false, false, false, false, false, false] rfl rfl (any_of HT_.out zK) (fun _ _ _ h => h) (Or.inl ⟨by rfl, ?_⟩) ?_ ?_
       rotate_left
       ·intro w'
        go_simp
        with_reducible rfl
       rotate_left
       ·simp only [Act.put, List.setIfInBounds_toArray, List.set_cons_zero, List.set_cons_succ, i64_w, i32_w]
        rfl
       refine take_ (i := 9) (N := some 34) (v := ?_) (a' := ?_) #[true, true, true, true, true, true, true, true, true, true, true, false, false, true, false, false, false, false, false, false, false, false, false, false, false, false, false, false, false, false] rfl rfl (take_ofW HT_.out HW_.out zK) (fun _ _ _ h => h) (Or.inl ⟨by rfl, ?_⟩) hHeld ?_ ?_
       rotate_left
       ·rintro w' ⟨s0, s1, s2, s3, s4, s5, s6⟩
        go_simp
        with_reducible rfl
       rotate_left
       ·simp only [Act.put, List.setIfInBounds_toArray, List.set_cons_zero, List.set_cons_succ, i64_w, i32_w]
        rfl
       refine take_ (i := 11) (N := some 36) (v := ?_) (a' := ?_) #[true, true, true, true, true, true, true, true, true, true, true, true, false, true, false, false, false, false, false, false, false, false, false, false, false, false, false, false, false, false] rfl rfl (take_ofW HT_.out HW_.out zK) (fun _ _ _ h => h) (Or.inl ⟨by rfl, ?_⟩) hHeld ?_ ?_
       rotate_left
       ·rintro w' ⟨s0, s1, s2, s3, s4, s5, s6⟩
        go_simp
        with_reducible rfl
       rotate_left
       ·simp only [Act.put, List.setIfInBounds_toArray, List.set_cons_zero, List.set_cons_succ, i64_w, i32_w]
        rfl
       refine take_ (i := 12) (N := some 37) (v := ?_) (a' := ?_) #[true, true, true, true, true, true, true, true, true, true, true, true, true, true, false, false, false, false, false, false, false, false, false, false, false, false, false, false, false, false] rfl rfl (take_ofW HT_.out HW_.out zK) (fun _ _ _ h => h) (Or.inl ⟨by rfl, ?_⟩) hHeld ?_ ?_
       rotate_left
       ·rintro w' ⟨s0, s1, s2, s3, s4, s5, s6⟩
        go_simp
        with_reducible rfl
       rotate_left
       ·simp only [Act.put, List.setIfInBounds_toArray, List.set_cons_zero, List.set_cons_succ, i64_w, i32_w]
        rfl
       refine take_ (i := 14) (N := some 39) (v := ?_) (a' := ?_) #[true, true, true, true, true, true, true, true, true, true, true, true, true, true, true, false, false, false, false, false, false, false, false, false, false, false, false, false, false, false] rfl rfl (take_ofW HT_.out HW_.out zK) (fun _ _ _ h => h) (Or.inl ⟨by rfl, ?_⟩) hHeld ?_ ?_
       rotate_left
       ·rintro w' ⟨s0, s1, s2, s3, s4, s5, s6⟩
        go_simp
        with_reducible rfl
       rotate_left
       ·simp only [Act.put, List.setIfInBounds_toArray, List.set_cons_zero, List.set_cons_succ, i64_w, i32_w]
        rfl
       refine one_ (i := 15) (N := some 40) #[true, true, true, true, true, true, true, true, true, true, true, true, true, true, true, true, false, false, false, false, false, false, false, false, false, false, false, false, false, false] rfl rfl (one_of HT_.out zK) (by decide) (fun K hK => ?_)
       refine goes_ Try.func88 zK rfl #[.agg #[.int .i64 a3_0, .int .i64 a3_1], .int .i64 ((rd_T35 l1_0 a2).f0), .int .i64 0] (by rfl) rfl rfl zM ?_
       with_reducible refine (solve_choices_with.calls a3_0 a3_1 ((rd_T35 l1_0 a2).f0) 0 t291 t292 _ A26.out).mono ?_
       rintro e w33 ⟨rfl, hb⟩
       refine ⟨_, rfl, ?_⟩
       have n0_ := Aside0.mk (blk_below (g := gb285) (o := .cells #[.slice (some ad287) l1_0.length c1_0] 27 (0, 0)) (zk BK285) hb)
       have n1_ := Aside0.mk (blk_below (g := gb286) (o := .cells #[.int .i64 a3_0, .int .i64 a3_1] 68 (0, 0)) (zk BK286) hb)
       have n2_ := Aside0.mk (blk_below (g := gb288) (o := .cells #[.int .i64 ((rd_T35 l1_0 a2).f0), .int .i64 ((rd_T35 l1_0 a2).f1), .int .i64 ((rd_T35 l1_0 a2).f2), .int .i64 ((rd_T35 l1_0 a2).f3)] 35 (0, 0)) (zk BK288) hb)
       have n3_ := Aside0.mk (below_step zB hb)
       clear BK285
       clear BK286
       clear BK288
       clear HB
       have BK285 := n0_
       have BK286 := n1_
       have BK288 := n2_
       have HB := n3_
       clear n0_ n1_ n2_ n3_
       (try clear hb)
       (try clear hb2)
       (try clear hk)
       (try clear hi)
       refine hK.out _ _ ⟨(blk_cell BK286.out 0).trans rfl, (blk_cell BK286.out 1).trans rfl, (blk_cell BK288.out 0).trans rfl, (blk_cell BK288.out 1).trans rfl, (blk_cell BK288.out 2).trans rfl, (blk_cell BK288.out 3).trans rfl, (blk_cell BK285.out 0).trans rfl⟩ (fun hHeld => ?_)
       clear hK K
       refine norm_ (a' := ?_) ?_ ?_
       rotate_left
       ·show Act.put _ (some 40) _ = _
        simp only [Act.put, List.setIfInBounds_toArray, List.set_cons_zero, List.set_cons_succ, i64_w, i32_w]
        rfl
       refine one_ (i := 16) (N := some 41) #[true, true, true, true, true, true, true, true, true, true, true, true, true, true, true, true, true, false, false, false, false, false, false, false, false, false, false, false, false, false] rfl rfl (one_of HT_.out zK) (by decide) (fun K hK => ?_)
       refine goes_ Try.func54 zK rfl #[.slice A0 l0.length c0, .agg #[.slice (some ad287) l1_0.length c1_0], .int .i64 ((rd_T35 l1_0 a2).f1), .agg #[.int .i64 t291, .int .i64 t292]] (by rfl) rfl rfl zM ?_
       with_reducible refine (ih k (by omega) _ _ l0 _ _ l1_0 ((rd_T35 l1_0 a2).f1) t291 t292 true _ ?side1 ?side2 ?side3 ?side4 A27.out).mono ?_
       (case side1 => repeat (first | exact (Kd.C_below HR0.out HB.out) | (with_reducible refine Kd.C_alloc ?_ _) | (with_reducible refine Kd.C_drewN ?_ _) | (with_reducible refine Kd.C_drew ?_)))
       (case side2 => exact HC0.out)
       (case side3 => repeat (first | exact (Kd.C_below HR1_0.out HB.out) | (with_reducible refine Kd.C_alloc ?_ _) | (with_reducible refine Kd.C_drewN ?_ _) | (with_reducible refine Kd.C_drew ?_)))
       (case side4 => exact HC1_0.out)
       rintro e w34 ⟨rfl, hb⟩
       refine ⟨_, rfl, ?_⟩
       have n0_ := Aside0.mk (blk_below (g := gb285) (o := .cells #[.slice (some ad287) l1_0.length c1_0] 27 (0, 0)) (zk BK285) hb)
       have n1_ := Aside0.mk (blk_below (g := gb286) (o := .cells #[.int .i64 a3_0, .int .i64 a3_1] 68 (0, 0)) (zk BK286) hb)
       have n2_ := Aside0.mk (blk_below (g := gb288) (o := .cells #[.int .i64 ((rd_T35 l1_0 a2).f0), .int .i64 ((rd_T35 l1_0 a2).f1), .int .i64 ((rd_T35 l1_0 a2).f2), .int .i64 ((rd_T35 l1_0 a2).f3)] 35 (0, 0)) (zk BK288) hb)
       have n3_ := Aside0.mk (below_step zB hb)
       clear BK285
       clear BK286
       clear BK288
       clear HB
       have BK285 := n0_
       have BK286 := n1_
       have BK288 := n2_
       have HB := n3_
       clear n0_ n1_ n2_ n3_
       (try clear hb)
       (try clear hb2)
       (try clear hk)
       (try clear hi)
       refine hK.out _ _ ⟨(blk_cell BK286.out 0).trans rfl, (blk_cell BK286.out 1).trans rfl, (blk_cell BK288.out 0).trans rfl, (blk_cell BK288.out 1).trans rfl, (blk_cell BK288.out 2).trans rfl, (blk_cell BK288.out 3).trans rfl, (blk_cell BK285.out 0).trans rfl⟩ (fun hHeld => ?_)
       clear hK K
       refine norm_ (a' := ?_) ?_ ?_
       rotate_left
       ·show Act.put _ (some 41) _ = _
        simp only [Act.put, List.setIfInBounds_toArray, List.set_cons_zero, List.set_cons_succ, i64_w, i32_w]
        rfl
       refine pure_ (i := 17) (N := some 42) (v := ?_) (a' := ?_) #[true, true, true, true, true, true, true, true, true, true, true, true, true, true, true, true, true, true, false, false, false, false, false, false, false, false, false, false, false, false] rfl rfl (any_of HT_.out zK) (fun _ _ _ h => h) (Or.inl ⟨by rfl, ?_⟩) ?_ ?_
       rotate_left
       ·intro w'
        go_simp
        with_reducible rfl
       rotate_left
       ·simp only [Act.put, List.setIfInBounds_toArray, List.set_cons_zero, List.set_cons_succ, i64_w, i32_w]
        rfl
       refine pure_ (i := 18) (N := some 43) (v := ?_) (a' := ?_) #[true, true, true, true, true, true, true, true, true, true, true, true, true, true, true, true, true, true, true, false, false, false, false, false, false, false, false, false, false, false] rfl rfl (any_of HT_.out zK) (fun _ _ _ h => h) (Or.inl ⟨by rfl, ?_⟩) ?_ ?_
       rotate_left
       ·intro w'
        go_simp
        with_reducible rfl
       rotate_left
       ·simp only [Act.put, List.setIfInBounds_toArray, List.set_cons_zero, List.set_cons_succ, i64_w, i32_w]
        rfl
       refine pure_ (i := 19) (N := some 44) (v := ?_) (a' := ?_) #[true, true, true, true, true, true, true, true, true, true, true, true, true, true, true, true, true, true, true, true, false, false, false, false, false, false, false, false, false, false] rfl rfl (any_of HT_.out zK) (fun _ _ _ h => h) (Or.inl ⟨by rfl, ?_⟩) ?_ ?_
       rotate_left
       ·intro w'
        go_simp
        with_reducible rfl
       rotate_left
       ·simp only [Act.put, List.setIfInBounds_toArray, List.set_cons_zero, List.set_cons_succ, i64_w, i32_w]
        rfl
       refine pure_ (i := 21) (N := some 46) (v := ?_) (a' := ?_) #[true, true, true, true, true, true, true, true, true, true, true, true, true, true, true, true, true, true, true, true, false, true, false, false, false, false, false, false, false, false] rfl rfl (any_of HT_.out zK) (fun _ _ _ h => h) (Or.inl ⟨by rfl, ?_⟩) ?_ ?_
       rotate_left
       ·intro w'
        go_simp
        with_reducible rfl
       rotate_left
       ·simp only [Act.put, List.setIfInBounds_toArray, List.set_cons_zero, List.set_cons_succ, i64_w, i32_w]
        rfl
       refine pure_ (i := 24) (N := some 49) (v := ?_) (a' := ?_) #[true, true, true, true, true, true, true, true, true, true, true, true, true, true, true, true, true, true, true, true, false, true, false, false, true, false, false, false, false, false] rfl rfl (any_of HT_.out zK) (fun _ _ _ h => h) (Or.inl ⟨by rfl, ?_⟩) ?_ ?_
       rotate_left
       ·intro w'
        go_simp
        with_reducible rfl
       rotate_left
       ·simp only [Act.put, List.setIfInBounds_toArray, List.set_cons_zero, List.set_cons_succ, i64_w, i32_w]
        rfl
       refine take_ (i := 20) (N := some 45) (v := ?_) (a' := ?_) #[true, true, true, true, true, true, true, true, true, true, true, true, true, true, true, true, true, true, true, true, true, true, false, false, true, false, false, false, false, false] rfl rfl (take_ofW HT_.out HW_.out zK) (fun _ _ _ h => h) (Or.inl ⟨by rfl, ?_⟩) hHeld ?_ ?_
       rotate_left
       ·rintro w' ⟨s0, s1, s2, s3, s4, s5, s6⟩
        go_simp
        with_reducible rfl
       rotate_left
       ·simp only [Act.put, List.setIfInBounds_toArray, List.set_cons_zero, List.set_cons_succ, i64_w, i32_w]
        rfl
       refine take_ (i := 22) (N := some 47) (v := ?_) (a' := ?_) #[true, true, true, true, true, true, true, true, true, true, true, true, true, true, true, true, true, true, true, true, true, true, true, false, true, false, false, false, false, false] rfl rfl (take_ofW HT_.out HW_.out zK) (fun _ _ _ h => h) (Or.inl ⟨by rfl, ?_⟩) hHeld ?_ ?_
       rotate_left
       ·rintro w' ⟨s0, s1, s2, s3, s4, s5, s6⟩
        go_simp
        with_reducible rfl
       rotate_left
       ·simp only [Act.put, List.setIfInBounds_toArray, List.set_cons_zero, List.set_cons_succ, i64_w, i32_w]
        rfl
       refine take_ (i := 23) (N := some 48) (v := ?_) (a' := ?_) #[true, true, true, true, true, true, true, true, true, true, true, true, true, true, true, true, true, true, true, true, true, true, true, true, true, false, false, false, false, false] rfl rfl (take_ofW HT_.out HW_.out zK) (fun _ _ _ h => h) (Or.inl ⟨by rfl, ?_⟩) hHeld ?_ ?_
       rotate_left
       ·rintro w' ⟨s0, s1, s2, s3, s4, s5, s6⟩
        go_simp
        with_reducible rfl
       rotate_left
       ·simp only [Act.put, List.setIfInBounds_toArray, List.set_cons_zero, List.set_cons_succ, i64_w, i32_w]
        rfl
       refine take_ (i := 25) (N := some 50) (v := ?_) (a' := ?_) #[true, true, true, true, true, true, true, true, true, true, true, true, true, true, true, true, true, true, true, true, true, true, true, true, true, true, false, false, false, false] rfl rfl (take_ofW HT_.out HW_.out zK) (fun _ _ _ h => h) (Or.inl ⟨by rfl, ?_⟩) hHeld ?_ ?_
       rotate_left
       ·rintro w' ⟨s0, s1, s2, s3, s4, s5, s6⟩
        go_simp
        with_reducible rfl
       rotate_left
       ·simp only [Act.put, List.setIfInBounds_toArray, List.set_cons_zero, List.set_cons_succ, i64_w, i32_w]
        rfl
       refine one_ (i := 26) (N := some 51) #[true, true, true, true, true, true, true, true, true, true, true, true, true, true, true, true, true, true, true, true, true, true, true, true, true, true, true, false, false, false] rfl rfl (one_of HT_.out zK) (by decide) (fun K hK => ?_)
       refine goes_ Try.func88 zK rfl #[.agg #[.int .i64 a3_0, .int .i64 a3_1], .int .i64 ((rd_T35 l1_0 a2).f0), .int .i64 1] (by rfl) rfl rfl zM ?_
       with_reducible refine (solve_choices_with.calls a3_0 a3_1 ((rd_T35 l1_0 a2).f0) 1 t294 t295 _ A29.out).mono ?_
       rintro e w35 ⟨rfl, hb⟩
       refine ⟨_, rfl, ?_⟩
       have n0_ := Aside0.mk (blk_below (g := gb285) (o := .cells #[.slice (some ad287) l1_0.length c1_0] 27 (0, 0)) (zk BK285) hb)
       have n1_ := Aside0.mk (blk_below (g := gb286) (o := .cells #[.int .i64 a3_0, .int .i64 a3_1] 68 (0, 0)) (zk BK286) hb)
       have n2_ := Aside0.mk (blk_below (g := gb288) (o := .cells #[.int .i64 ((rd_T35 l1_0 a2).f0), .int .i64 ((rd_T35 l1_0 a2).f1), .int .i64 ((rd_T35 l1_0 a2).f2), .int .i64 ((rd_T35 l1_0 a2).f3)] 35 (0, 0)) (zk BK288) hb)
       have n3_ := Aside0.mk (below_step zB hb)
       clear BK285
       clear BK286
       clear BK288
       clear HB
       have BK285 := n0_
       have BK286 := n1_
       have BK288 := n2_
       have HB := n3_
       clear n0_ n1_ n2_ n3_
       (try clear hb)
       (try clear hb2)
       (try clear hk)
       (try clear hi)
       refine hK.out _ _ ⟨(blk_cell BK286.out 0).trans rfl, (blk_cell BK286.out 1).trans rfl, (blk_cell BK288.out 0).trans rfl, (blk_cell BK288.out 1).trans rfl, (blk_cell BK288.out 2).trans rfl, (blk_cell BK288.out 3).trans rfl, (blk_cell BK285.out 0).trans rfl⟩ (fun hHeld => ?_)
       clear hK K
       refine norm_ (a' := ?_) ?_ ?_
       rotate_left
       ·show Act.put _ (some 51) _ = _
        simp only [Act.put, List.setIfInBounds_toArray, List.set_cons_zero, List.set_cons_succ, i64_w, i32_w]
        rfl
       refine one_ (i := 27) (N := some 52) #[true, true, true, true, true, true, true, true, true, true, true, true, true, true, true, true, true, true, true, true, true, true, true, true, true, true, true, true, false, false] rfl rfl (one_of HT_.out zK) (by decide) (fun K hK => ?_)
       refine goes_ Try.func54 zK rfl #[.slice A0 l0.length c0, .agg #[.slice (some ad287) l1_0.length c1_0], .int .i64 ((rd_T35 l1_0 a2).f2), .agg #[.int .i64 t294, .int .i64 t295]] (by rfl) rfl rfl zM ?_
       with_reducible refine (ih k (by omega) _ _ l0 _ _ l1_0 ((rd_T35 l1_0 a2).f2) t294 t295 t296 _ ?side1 ?side2 ?side3 ?side4 A30.out).mono ?_
       (case side1 => repeat (first | exact (Kd.C_below HR0.out HB.out) | (with_reducible refine Kd.C_alloc ?_ _) | (with_reducible refine Kd.C_drewN ?_ _) | (with_reducible refine Kd.C_drew ?_)))
       (case side2 => exact HC0.out)
       (case side3 => repeat (first | exact (Kd.C_below HR1_0.out HB.out) | (with_reducible refine Kd.C_alloc ?_ _) | (with_reducible refine Kd.C_drewN ?_ _) | (with_reducible refine Kd.C_drew ?_)))
       (case side4 => exact HC1_0.out)
       rintro e w36 ⟨rfl, hb⟩
       refine ⟨_, rfl, ?_⟩
       have n0_ := Aside0.mk (blk_below (g := gb285) (o := .cells #[.slice (some ad287) l1_0.length c1_0] 27 (0, 0)) (zk BK285) hb)
       have n1_ := Aside0.mk (blk_below (g := gb286) (o := .cells #[.int .i64 a3_0, .int .i64 a3_1] 68 (0, 0)) (zk BK286) hb)
       have n2_ := Aside0.mk (blk_below (g := gb288) (o := .cells #[.int .i64 ((rd_T35 l1_0 a2).f0), .int .i64 ((rd_T35 l1_0 a2).f1), .int .i64 ((rd_T35 l1_0 a2).f2), .int .i64 ((rd_T35 l1_0 a2).f3)] 35 (0, 0)) (zk BK288) hb)
       have n3_ := Aside0.mk (below_step zB hb)
       clear BK285
       clear BK286
       clear BK288
       clear HB
       have BK285 := n0_
       have BK286 := n1_
       have BK288 := n2_
       have HB := n3_
       clear n0_ n1_ n2_ n3_
       (try clear hb)
       (try clear hb2)
       (try clear hk)
       (try clear hi)
       refine hK.out _ _ ⟨(blk_cell BK286.out 0).trans rfl, (blk_cell BK286.out 1).trans rfl, (blk_cell BK288.out 0).trans rfl, (blk_cell BK288.out 1).trans rfl, (blk_cell BK288.out 2).trans rfl, (blk_cell BK288.out 3).trans rfl, (blk_cell BK285.out 0).trans rfl⟩ (fun hHeld => ?_)
       clear hK K
       refine norm_ (a' := ?_) ?_ ?_
       rotate_left
       ·show Act.put _ (some 52) _ = _
        simp only [Act.put, List.setIfInBounds_toArray, List.set_cons_zero, List.set_cons_succ, i64_w, i32_w]
        rfl
       refine pure_ (i := 28) (N := some 53) (v := ?_) (a' := ?_) #[true, true, true, true, true, true, true, true, true, true, true, true, true, true, true, true, true, true, true, true, true, true, true, true, true, true, true, true, true, false] rfl rfl (any_of HT_.out zK) (fun _ _ _ h => h) (Or.inl ⟨by rfl, ?_⟩) ?_ ?_
       rotate_left
       ·intro w'
        go_simp
        with_reducible rfl
       rotate_left
       ·simp only [Act.put, List.setIfInBounds_toArray, List.set_cons_zero, List.set_cons_succ, i64_w, i32_w]
        rfl
       refine pure_ (i := 29) (N := some 8) (v := ?_) (a' := ?_) #[true, true, true, true, true, true, true, true, true, true, true, true, true, true, true, true, true, true, true, true, true, true, true, true, true, true, true, true, true, true] rfl rfl (any_of HT_.out zK) (fun _ _ _ h => h) (Or.inl ⟨by rfl, ?_⟩) ?_ ?_
       rotate_left
       ·intro w'
        go_simp
        with_reducible rfl
       rotate_left
       ·simp only [Act.put, List.setIfInBounds_toArray, List.set_cons_zero, List.set_cons_succ, i64_w, i32_w]
        rfl
       refine done_ (done_of HT_.out zK) ?_
       try go_wp2
       go_ret
       exact ⟨by first | rfl | (simp [errW_none, errW_some] <;> rfl) | (simp only [← hji24]; first | rfl | (simp [errW_none, errW_some] <;> rfl)) | (simp [*, errW_none, errW_some] <;> rfl), by repeat (first | (with_reducible first | exact HB.out | apply below_alloc | apply pw_below_drewN | apply below_drew1 | refine below_set ?_ GE285.out | refine below_set ?_ GE286.out | refine below_set ?_ GE288.out) | exact HB.out)⟩
      ·replace c28 := Bool.eq_false_iff.mpr c28
       subst c28
       have H1 : (some false) = some r := by rw [if_neg (show ¬ (false = true) by decide)] at H; exact H
       clear H
       have H := H1
       clear H1
       obtain rfl := Option.some.inj H
       try go_wp2
       have n0_ : Aside0 (((((w12.setCell ⟨gb288, 0, none⟩ (.int .i64 ((rd_T35 l1_0 a2).f0))).setCell ⟨gb288, 1, none⟩ (.int .i64 ((rd_T35 l1_0 a2).f1))).setCell ⟨gb288, 2, none⟩ (.int .i64 ((rd_T35 l1_0 a2).f2))).setCell ⟨gb288, 3, none⟩ (.int .i64 ((rd_T35 l1_0 a2).f3))).heap[gb285]? = some (.cells #[.slice (some ad287) l1_0.length c1_0] 27 (0, 0))) := ⟨by (with_reducible repeat (first | refine blk_drewN ?_ _ | refine blk_drew ?_ | refine blk_alloc ?_ _)); refine blk_far ?_ NB285_288.out _; (with_reducible repeat (first | refine blk_drewN ?_ _ | refine blk_drew ?_ | refine blk_alloc ?_ _)); refine blk_far ?_ NB285_288.out _; (with_reducible repeat (first | refine blk_drewN ?_ _ | refine blk_drew ?_ | refine blk_alloc ?_ _)); refine blk_far ?_ NB285_288.out _; (with_reducible repeat (first | refine blk_drewN ?_ _ | refine blk_drew ?_ | refine blk_alloc ?_ _)); refine blk_far ?_ NB285_288.out _; (with_reducible repeat (first | refine blk_drewN ?_ _ | refine blk_drew ?_ | refine blk_alloc ?_ _)); exact BK285.out⟩
       have n1_ : Aside0 (((((w12.setCell ⟨gb288, 0, none⟩ (.int .i64 ((rd_T35 l1_0 a2).f0))).setCell ⟨gb288, 1, none⟩ (.int .i64 ((rd_T35 l1_0 a2).f1))).setCell ⟨gb288, 2, none⟩ (.int .i64 ((rd_T35 l1_0 a2).f2))).setCell ⟨gb288, 3, none⟩ (.int .i64 ((rd_T35 l1_0 a2).f3))).heap[gb286]? = some (.cells #[.int .i64 a3_0, .int .i64 a3_1] 68 (0, 0))) := ⟨by (with_reducible repeat (first | refine blk_drewN ?_ _ | refine blk_drew ?_ | refine blk_alloc ?_ _)); refine blk_far ?_ NB286_288.out _; (with_reducible repeat (first | refine blk_drewN ?_ _ | refine blk_drew ?_ | refine blk_alloc ?_ _)); refine blk_far ?_ NB286_288.out _; (with_reducible repeat (first | refine blk_drewN ?_ _ | refine blk_drew ?_ | refine blk_alloc ?_ _)); refine blk_far ?_ NB286_288.out _; (with_reducible repeat (first | refine blk_drewN ?_ _ | refine blk_drew ?_ | refine blk_alloc ?_ _)); refine blk_far ?_ NB286_288.out _; (with_reducible repeat (first | refine blk_drewN ?_ _ | refine blk_drew ?_ | refine blk_alloc ?_ _)); exact BK286.out⟩
       have n2_ : Aside0 (((((w12.setCell ⟨gb288, 0, none⟩ (.int .i64 ((rd_T35 l1_0 a2).f0))).setCell ⟨gb288, 1, none⟩ (.int .i64 ((rd_T35 l1_0 a2).f1))).setCell ⟨gb288, 2, none⟩ (.int .i64 ((rd_T35 l1_0 a2).f2))).setCell ⟨gb288, 3, none⟩ (.int .i64 ((rd_T35 l1_0 a2).f3))).heap[gb288]? = some (.cells #[.int .i64 ((rd_T35 l1_0 a2).f0), .int .i64 ((rd_T35 l1_0 a2).f1), .int .i64 ((rd_T35 l1_0 a2).f2), .int .i64 ((rd_T35 l1_0 a2).f3)] 35 (0, 0))) := ⟨by (with_reducible repeat (first | refine blk_drewN ?_ _ | refine blk_drew ?_ | refine blk_alloc ?_ _)); refine blk_put (cs := #[.int .i64 ((rd_T35 l1_0 a2).f0), .int .i64 ((rd_T35 l1_0 a2).f1), .int .i64 ((rd_T35 l1_0 a2).f2), .int .i64 0]) ?_ 3 _ rfl; (with_reducible repeat (first | refine blk_drewN ?_ _ | refine blk_drew ?_ | refine blk_alloc ?_ _)); refine blk_put (cs := #[.int .i64 ((rd_T35 l1_0 a2).f0), .int .i64 ((rd_T35 l1_0 a2).f1), .int .i64 0, .int .i64 0]) ?_ 2 _ rfl; (with_reducible repeat (first | refine blk_drewN ?_ _ | refine blk_drew ?_ | refine blk_alloc ?_ _)); refine blk_put (cs := #[.int .i64 ((rd_T35 l1_0 a2).f0), .int .i64 0, .int .i64 0, .int .i64 0]) ?_ 1 _ rfl; (with_reducible repeat (first | refine blk_drewN ?_ _ | refine blk_drew ?_ | refine blk_alloc ?_ _)); refine blk_put (cs := #[.int .i64 0, .int .i64 0, .int .i64 0, .int .i64 0]) ?_ 0 _ rfl; (with_reducible repeat (first | refine blk_drewN ?_ _ | refine blk_drew ?_ | refine blk_alloc ?_ _)); exact BK288.out⟩
       have n3_ : Aside0 (Below w.heap.size w ((((w12.setCell ⟨gb288, 0, none⟩ (.int .i64 ((rd_T35 l1_0 a2).f0))).setCell ⟨gb288, 1, none⟩ (.int .i64 ((rd_T35 l1_0 a2).f1))).setCell ⟨gb288, 2, none⟩ (.int .i64 ((rd_T35 l1_0 a2).f2))).setCell ⟨gb288, 3, none⟩ (.int .i64 ((rd_T35 l1_0 a2).f3)))) := ⟨by repeat (first | (with_reducible first | exact HB.out | apply below_alloc | apply pw_below_drewN | apply below_drew1 | refine below_set ?_ GE285.out | refine below_set ?_ GE286.out | refine below_set ?_ GE288.out) | exact HB.out)⟩
       (try clear BK285)
       (try clear BK286)
       (try clear BK288)
       (try clear HB)
       generalize ((((w12.setCell ⟨gb288, 0, none⟩ (.int .i64 ((rd_T35 l1_0 a2).f0))).setCell ⟨gb288, 1, none⟩ (.int .i64 ((rd_T35 l1_0 a2).f1))).setCell ⟨gb288, 2, none⟩ (.int .i64 ((rd_T35 l1_0 a2).f2))).setCell ⟨gb288, 3, none⟩ (.int .i64 ((rd_T35 l1_0 a2).f3))) = w37 at n0_ n1_ n2_ n3_ ⊢
       have BK285 := n0_
       have BK286 := n1_
       have BK288 := n2_
       have HB := n3_
       clear n0_ n1_ n2_ n3_
       have n0_ := Aside0.mk (blk_drew BK285.out)
       have n1_ := Aside0.mk (blk_drew BK286.out)
       have n2_ := Aside0.mk (blk_drew BK288.out)
       have n3_ := Aside0.mk (below_drew1 HB.out)
       clear BK285
       clear BK286
       clear BK288
       clear HB
       have BK285 := n0_
       have BK286 := n1_
       have BK288 := n2_
       have HB := n3_
       clear n0_ n1_ n2_ n3_
       refine start_ (n := 30) (S := fun w' => w'.cell? ⟨gb286, 0, none⟩ = some (.int .i64 a3_0) ∧ w'.cell? ⟨gb286, 1, none⟩ = some (.int .i64 a3_1) ∧ w'.cell? ⟨gb288, 0, none⟩ = some (.int .i64 ((rd_T35 l1_0 a2).f0)) ∧ w'.cell? ⟨gb288, 1, none⟩ = some (.int .i64 ((rd_T35 l1_0 a2).f1)) ∧ w'.cell? ⟨gb288, 2, none⟩ = some (.int .i64 ((rd_T35 l1_0 a2).f2)) ∧ w'.cell? ⟨gb288, 3, none⟩ = some (.int .i64 ((rd_T35 l1_0 a2).f3)) ∧ w'.cell? ⟨gb285, 0, none⟩ = some (.slice (some ad287) l1_0.length c1_0)) (ds := []) #[false, false, false, false, false, false, false, false, false, false, false, false, false, false, false, false, false, false, false, false, false, false, false, false, false, false, false, false, false, false] zK rfl rfl ⟨(blk_cell BK286.out 0).trans rfl, (blk_cell BK286.out 1).trans rfl, (blk_cell BK288.out 0).trans rfl, (blk_cell BK288.out 1).trans rfl, (blk_cell BK288.out 2).trans rfl, (blk_cell BK288.out 3).trans rfl, (blk_cell BK285.out 0).trans rfl⟩ (fun hHeld => ?_); refine with_tabW solve_right.tab4 solve_right.bits4 (fun HT_ HW_ => ?_)
       generalize w37.drew = w38 at BK285 BK286 BK288 HB hHeld ⊢
       refine pure_ (i := 0) (N := some 25) (v := ?_) (a' := ?_) #[true, false, false, false, false, false, false, false, false, false, false, false, false, false, false, false, false, false, false, false, false, false, false, false, false, false, false, false, false, false] rfl rfl (any_of HT_.out zK) (fun _ _ _ h => h) (Or.inl ⟨by rfl, ?_⟩) ?_ ?_
       rotate_left
       ·intro w'
        go_simp
        with_reducible rfl
       rotate_left
       ·simp only [Act.put, List.setIfInBounds_toArray, List.set_cons_zero, List.set_cons_succ, i64_w, i32_w]
        rfl
       refine pure_ (i := 2) (N := some 27) (v := ?_) (a' := ?_) #[true, false, true, false, false, false, false, false, false, false, false, false, false, false, false, false, false, false, false, false, false, false, false, false, false, false, false, false, false, false] rfl rfl (any_of HT_.out zK) (fun _ _ _ h => h) (Or.inl ⟨by rfl, ?_⟩) ?_ ?_
       rotate_left
       ·intro w'
        go_simp
        with_reducible rfl
       rotate_left
       ·simp only [Act.put, List.setIfInBounds_toArray, List.set_cons_zero, List.set_cons_succ, i64_w, i32_w]
        rfl
       refine take_ (i := 1) (N := some 26) (v := ?_) (a' := ?_) #[true, true, true, false, false, false, false, false, false, false, false, false, false, false, false, false, false, false, false, false, false, false, false, false, false, false, false, false, false, false] rfl rfl (take_ofW HT_.out HW_.out zK) (fun _ _ _ h => h) (Or.inl ⟨by rfl, ?_⟩) hHeld ?_ ?_
       rotate_left
       ·rintro w' ⟨s0, s1, s2, s3, s4, s5, s6⟩
        go_simp
        with_reducible rfl
       rotate_left
       ·simp only [Act.put, List.setIfInBounds_toArray, List.set_cons_zero, List.set_cons_succ, i64_w, i32_w]
        rfl
       refine take_ (i := 3) (N := some 28) (v := ?_) (a' := ?_) #[true, true, true, true, false, false, false, false, false, false, false, false, false, false, false, false, false, false, false, false, false, false, false, false, false, false, false, false, false, false] rfl rfl (take_ofW HT_.out HW_.out zK) (fun _ _ _ h => h) (Or.inl ⟨by rfl, ?_⟩) hHeld ?_ ?_
       rotate_left
       ·rintro w' ⟨s0, s1, s2, s3, s4, s5, s6⟩
        go_simp
        with_reducible rfl
       rotate_left
       ·simp only [Act.put, List.setIfInBounds_toArray, List.set_cons_zero, List.set_cons_succ, i64_w, i32_w]
        rfl
       refine pure_ (i := 4) (N := some 29) (v := ?_) (a' := ?_) #[true, true, true, true, true, false, false, false, false, false, false, false, false, false, false, false, false, false, false, false, false, false, false, false, false, false, false, false, false, false] rfl rfl (any_of HT_.out zK) (fun _ _ _ h => h) (Or.inl ⟨by rfl, ?_⟩) ?_ ?_
       rotate_left
       ·intro w'
        go_simp
        with_reducible rfl
       rotate_left
       ·simp only [Act.put, List.setIfInBounds_toArray, List.set_cons_zero, List.set_cons_succ, i64_w, i32_w]
        rfl
       refine pure_ (i := 5) (N := some 30) (v := ?_) (a' := ?_) #[true, true, true, true, true, true, false, false, false, false, false, false, false, false, false, false, false, false, false, false, false, false, false, false, false, false, false, false, false, false] rfl rfl (any_of HT_.out zK) (fun _ _ _ h => h) (Or.inl ⟨by rfl, ?_⟩) ?_ ?_
       rotate_left
       ·intro w'
        go_simp
        with_reducible rfl
       rotate_left
       ·simp only [Act.put, List.setIfInBounds_toArray, List.set_cons_zero, List.set_cons_succ, i64_w, i32_w]
        rfl
       refine pure_ (i := 6) (N := some 31) (v := ?_) (a' := ?_) #[true, true, true, true, true, true, true, false, false, false, false, false, false, false, false, false, false, false, false, false, false, false, false, false, false, false, false, false, false, false] rfl rfl (any_of HT_.out zK) (fun _ _ _ h => h) (Or.inl ⟨by rfl, ?_⟩) ?_ ?_
       rotate_left
       ·intro w'
        go_simp
        with_reducible rfl
       rotate_left
       ·simp only [Act.put, List.setIfInBounds_toArray, List.set_cons_zero, List.set_cons_succ, i64_w, i32_w]
        rfl
       refine pure_ (i := 7) (N := some 32) (v := ?_) (a' := ?_) #[true, true, true, true, true, true, true, true, false, false, false, false, false, false, false, false, false, false, false, false, false, false, false, false, false, false, false, false, false, false] rfl rfl (any_of HT_.out zK) (fun _ _ _ h => h) (Or.inl ⟨by rfl, ?_⟩) ?_ ?_
       rotate_left
       ·intro w'
        go_simp
        with_reducible rfl
       rotate_left
       ·simp only [Act.put, List.setIfInBounds_toArray, List.set_cons_zero, List.set_cons_succ, i64_w, i32_w]
        rfl
       refine pure_ (i := 8) (N := some 33) (v := ?_) (a' := ?_) #[true, true, true, true, true, true, true, true, true, false, false, false, false, false, false, false, false, false, false, false, false, false, false, false, false, false, false, false, false, false] rfl rfl (any_of HT_.out zK) (fun _ _ _ h => h) (Or.inl ⟨by rfl, ?_⟩) ?_ ?_
       rotate_left
       ·intro w'
        go_simp
        with_reducible rfl
       rotate_left
       ·simp only [Act.put, List.setIfInBounds_toArray, List.set_cons_zero, List.set_cons_succ, i64_w, i32_w]
        rfl
       refine pure_ (i := 10) (N := some 35) (v := ?_) (a' := ?_) #[true, true, true, true, true, true, true, true, true, false, true, false, false, false, false, false, false, false, false, false, false, false, false, false, false, false, false, false, false, false] rfl rfl (any_of HT_.out zK) (fun _ _ _ h => h) (Or.inl ⟨by rfl, ?_⟩) ?_ ?_
       rotate_left
       ·intro w'
        go_simp
        with_reducible rfl
       rotate_left
       ·simp only [Act.put, List.setIfInBounds_toArray, List.set_cons_zero, List.set_cons_succ, i64_w, i32_w]
        rfl
       refine pure_ (i := 13) (N := some 38) (v := ?_) (a' := ?_) #[true, true, true, true, true, true, true, true, true, false, true, false, false, true, false, false, false, false, false, false, false, false, false, false, false, false, false, false, false, false] rfl rfl (any_of HT_.out zK) (fun _ _ _ h => h) (Or.inl ⟨by rfl, ?_⟩) ?_ ?_
       rotate_left
       ·intro w'
        go_simp
        with_reducible rfl
       rotate_left
       ·simp only [Act.put, List.setIfInBounds_toArray, List.set_cons_zero, List.set_cons_succ, i64_w, i32_w]
        rfl
       refine take_ (i := 9) (N := some 34) (v := ?_) (a' := ?_) #[true, true, true, true, true, true, true, true, true, true, true, false, false, true, false, false, false, false, false, false, false, false, false, false, false, false, false, false, false, false] rfl rfl (take_ofW HT_.out HW_.out zK) (fun _ _ _ h => h) (Or.inl ⟨by rfl, ?_⟩) hHeld ?_ ?_
       rotate_left
       ·rintro w' ⟨s0, s1, s2, s3, s4, s5, s6⟩
        go_simp
        with_reducible rfl
       rotate_left
       ·simp only [Act.put, List.setIfInBounds_toArray, List.set_cons_zero, List.set_cons_succ, i64_w, i32_w]
        rfl
       refine take_ (i := 11) (N := some 36) (v := ?_) (a' := ?_) #[true, true, true, true, true, true, true, true, true, true, true, true, false, true, false, false, false, false, false, false, false, false, false, false, false, false, false, false, false, false] rfl rfl (take_ofW HT_.out HW_.out zK) (fun _ _ _ h => h) (Or.inl ⟨by rfl, ?_⟩) hHeld ?_ ?_
       rotate_left
       ·rintro w' ⟨s0, s1, s2, s3, s4, s5, s6⟩
        go_simp
        with_reducible rfl
       rotate_left
       ·simp only [Act.put, List.setIfInBounds_toArray, List.set_cons_zero, List.set_cons_succ, i64_w, i32_w]
        rfl
       refine take_ (i := 12) (N := some 37) (v := ?_) (a' := ?_) #[true, true, true, true, true, true, true, true, true, true, true, true, true, true, false, false, false, false, false, false, false, false, false, false, false, false, false, false, false, false] rfl rfl (take_ofW HT_.out HW_.out zK) (fun _ _ _ h => h) (Or.inl ⟨by rfl, ?_⟩) hHeld ?_ ?_
       rotate_left
       ·rintro w' ⟨s0, s1, s2, s3, s4, s5, s6⟩
        go_simp
        with_reducible rfl
       rotate_left
       ·simp only [Act.put, List.setIfInBounds_toArray, List.set_cons_zero, List.set_cons_succ, i64_w, i32_w]
        rfl
       refine take_ (i := 14) (N := some 39) (v := ?_) (a' := ?_) #[true, true, true, true, true, true, true, true, true, true, true, true, true, true, true, false, false, false, false, false, false, false, false, false, false, false, false, false, false, false] rfl rfl (take_ofW HT_.out HW_.out zK) (fun _ _ _ h => h) (Or.inl ⟨by rfl, ?_⟩) hHeld ?_ ?_
       rotate_left
       ·rintro w' ⟨s0, s1, s2, s3, s4, s5, s6⟩
        go_simp
        with_reducible rfl
       rotate_left
       ·simp only [Act.put, List.setIfInBounds_toArray, List.set_cons_zero, List.set_cons_succ, i64_w, i32_w]
        rfl
       refine one_ (i := 15) (N := some 40) #[true, true, true, true, true, true, true, true, true, true, true, true, true, true, true, true, false, false, false, false, false, false, false, false, false, false, false, false, false, false] rfl rfl (one_of HT_.out zK) (by decide) (fun K hK => ?_)
       refine goes_ Try.func88 zK rfl #[.agg #[.int .i64 a3_0, .int .i64 a3_1], .int .i64 ((rd_T35 l1_0 a2).f0), .int .i64 0] (by rfl) rfl rfl zM ?_
       with_reducible refine (solve_choices_with.calls a3_0 a3_1 ((rd_T35 l1_0 a2).f0) 0 t291 t292 _ A26.out).mono ?_
       rintro e w39 ⟨rfl, hb⟩
       refine ⟨_, rfl, ?_⟩
       have n0_ := Aside0.mk (blk_below (g := gb285) (o := .cells #[.slice (some ad287) l1_0.length c1_0] 27 (0, 0)) (zk BK285) hb)
       have n1_ := Aside0.mk (blk_below (g := gb286) (o := .cells #[.int .i64 a3_0, .int .i64 a3_1] 68 (0, 0)) (zk BK286) hb)
       have n2_ := Aside0.mk (blk_below (g := gb288) (o := .cells #[.int .i64 ((rd_T35 l1_0 a2).f0), .int .i64 ((rd_T35 l1_0 a2).f1), .int .i64 ((rd_T35 l1_0 a2).f2), .int .i64 ((rd_T35 l1_0 a2).f3)] 35 (0, 0)) (zk BK288) hb)
       have n3_ := Aside0.mk (below_step zB hb)
       clear BK285
       clear BK286
       clear BK288
       clear HB
       have BK285 := n0_
       have BK286 := n1_
       have BK288 := n2_
       have HB := n3_
       clear n0_ n1_ n2_ n3_
       (try clear hb)
       (try clear hb2)
       (try clear hk)
       (try clear hi)
       refine hK.out _ _ ⟨(blk_cell BK286.out 0).trans rfl, (blk_cell BK286.out 1).trans rfl, (blk_cell BK288.out 0).trans rfl, (blk_cell BK288.out 1).trans rfl, (blk_cell BK288.out 2).trans rfl, (blk_cell BK288.out 3).trans rfl, (blk_cell BK285.out 0).trans rfl⟩ (fun hHeld => ?_)
       clear hK K
       refine norm_ (a' := ?_) ?_ ?_
       rotate_left
       ·show Act.put _ (some 40) _ = _
        simp only [Act.put, List.setIfInBounds_toArray, List.set_cons_zero, List.set_cons_succ, i64_w, i32_w]
        rfl
       refine one_ (i := 16) (N := some 41) #[true, true, true, true, true, true, true, true, true, true, true, true, true, true, true, true, true, false, false, false, false, false, false, false, false, false, false, false, false, false] rfl rfl (one_of HT_.out zK) (by decide) (fun K hK => ?_)
       refine goes_ Try.func54 zK rfl #[.slice A0 l0.length c0, .agg #[.slice (some ad287) l1_0.length c1_0], .int .i64 ((rd_T35 l1_0 a2).f1), .agg #[.int .i64 t291, .int .i64 t292]] (by rfl) rfl rfl zM ?_
       with_reducible refine (ih k (by omega) _ _ l0 _ _ l1_0 ((rd_T35 l1_0 a2).f1) t291 t292 false _ ?side1 ?side2 ?side3 ?side4 A27.out).mono ?_
       (case side1 => repeat (first | exact (Kd.C_below HR0.out HB.out) | (with_reducible refine Kd.C_alloc ?_ _) | (with_reducible refine Kd.C_drewN ?_ _) | (with_reducible refine Kd.C_drew ?_)))
       (case side2 => exact HC0.out)
       (case side3 => repeat (first | exact (Kd.C_below HR1_0.out HB.out) | (with_reducible refine Kd.C_alloc ?_ _) | (with_reducible refine Kd.C_drewN ?_ _) | (with_reducible refine Kd.C_drew ?_)))
       (case side4 => exact HC1_0.out)
       rintro e w40 ⟨rfl, hb⟩
       refine ⟨_, rfl, ?_⟩
       have n0_ := Aside0.mk (blk_below (g := gb285) (o := .cells #[.slice (some ad287) l1_0.length c1_0] 27 (0, 0)) (zk BK285) hb)
       have n1_ := Aside0.mk (blk_below (g := gb286) (o := .cells #[.int .i64 a3_0, .int .i64 a3_1] 68 (0, 0)) (zk BK286) hb)
       have n2_ := Aside0.mk (blk_below (g := gb288) (o := .cells #[.int .i64 ((rd_T35 l1_0 a2).f0), .int .i64 ((rd_T35 l1_0 a2).f1), .int .i64 ((rd_T35 l1_0 a2).f2), .int .i64 ((rd_T35 l1_0 a2).f3)] 35 (0, 0)) (zk BK288) hb)
       have n3_ := Aside0.mk (below_step zB hb)
       clear BK285
       clear BK286
       clear BK288
       clear HB
       have BK285 := n0_
       have BK286 := n1_
       have BK288 := n2_
       have HB := n3_
       clear n0_ n1_ n2_ n3_
       (try clear hb)
       (try clear hb2)
       (try clear hk)
       (try clear hi)
       refine hK.out _ _ ⟨(blk_cell BK286.out 0).trans rfl, (blk_cell BK286.out 1).trans rfl, (blk_cell BK288.out 0).trans rfl, (blk_cell BK288.out 1).trans rfl, (blk_cell BK288.out 2).trans rfl, (blk_cell BK288.out 3).trans rfl, (blk_cell BK285.out 0).trans rfl⟩ (fun hHeld => ?_)
       clear hK K
       refine norm_ (a' := ?_) ?_ ?_
       rotate_left
       ·show Act.put _ (some 41) _ = _
        simp only [Act.put, List.setIfInBounds_toArray, List.set_cons_zero, List.set_cons_succ, i64_w, i32_w]
        rfl
       refine pure_ (i := 17) (N := some 42) (v := ?_) (a' := ?_) #[true, true, true, true, true, true, true, true, true, true, true, true, true, true, true, true, true, true, false, false, false, false, false, false, false, false, false, false, false, false] rfl rfl (any_of HT_.out zK) (fun _ _ _ h => h) (Or.inl ⟨by rfl, ?_⟩) ?_ ?_
       rotate_left
       ·intro w'
        go_simp
        with_reducible rfl
       rotate_left
       ·simp only [Act.put, List.setIfInBounds_toArray, List.set_cons_zero, List.set_cons_succ, i64_w, i32_w]
        rfl
       refine pure_ (i := 18) (N := some 43) (v := ?_) (a' := ?_) #[true, true, true, true, true, true, true, true, true, true, true, true, true, true, true, true, true, true, true, false, false, false, false, false, false, false, false, false, false, false] rfl rfl (any_of HT_.out zK) (fun _ _ _ h => h) (Or.inl ⟨by rfl, ?_⟩) ?_ ?_
       rotate_left
       ·intro w'
        go_simp
        with_reducible rfl
       rotate_left
       ·simp only [Act.put, List.setIfInBounds_toArray, List.set_cons_zero, List.set_cons_succ, i64_w, i32_w]
        rfl
       refine pure_ (i := 19) (N := some 44) (v := undef) (a' := ?_) #[true, true, true, true, true, true, true, true, true, true, true, true, true, true, true, true, true, true, true, true, false, false, false, false, false, false, false, false, false, false] rfl rfl (any_of HT_.out zK) (fun _ _ _ h => h) (Or.inr ⟨by rfl, rfl⟩) ?_ ?_
       rotate_left
       ·simp only [Act.put, List.setIfInBounds_toArray, List.set_cons_zero, List.set_cons_succ, i64_w, i32_w]
        rfl
       refine pure_ (i := 20) (N := some 45) (v := undef) (a' := ?_) #[true, true, true, true, true, true, true, true, true, true, true, true, true, true, true, true, true, true, true, true, true, false, false, false, false, false, false, false, false, false] rfl rfl (any_of HT_.out zK) (fun _ _ _ h => h) (Or.inr ⟨by rfl, rfl⟩) ?_ ?_
       rotate_left
       ·simp only [Act.put, List.setIfInBounds_toArray, List.set_cons_zero, List.set_cons_succ, i64_w, i32_w]
        rfl
       refine pure_ (i := 21) (N := some 46) (v := undef) (a' := ?_) #[true, true, true, true, true, true, true, true, true, true, true, true, true, true, true, true, true, true, true, true, true, true, false, false, false, false, false, false, false, false] rfl rfl (any_of HT_.out zK) (fun _ _ _ h => h) (Or.inr ⟨by rfl, rfl⟩) ?_ ?_
       rotate_left
       ·simp only [Act.put, List.setIfInBounds_toArray, List.set_cons_zero, List.set_cons_succ, i64_w, i32_w]
        rfl
       refine pure_ (i := 22) (N := some 47) (v := undef) (a' := ?_) #[true, true, true, true, true, true, true, true, true, true, true, true, true, true, true, true, true, true, true, true, true, true, true, false, false, false, false, false, false, false] rfl rfl (any_of HT_.out zK) (fun _ _ _ h => h) (Or.inr ⟨by rfl, rfl⟩) ?_ ?_
       rotate_left
       ·simp only [Act.put, List.setIfInBounds_toArray, List.set_cons_zero, List.set_cons_succ, i64_w, i32_w]
        rfl
       refine pure_ (i := 23) (N := some 48) (v := undef) (a' := ?_) #[true, true, true, true, true, true, true, true, true, true, true, true, true, true, true, true, true, true, true, true, true, true, true, true, false, false, false, false, false, false] rfl rfl (any_of HT_.out zK) (fun _ _ _ h => h) (Or.inr ⟨by rfl, rfl⟩) ?_ ?_
       rotate_left
       ·simp only [Act.put, List.setIfInBounds_toArray, List.set_cons_zero, List.set_cons_succ, i64_w, i32_w]
        rfl
       refine pure_ (i := 24) (N := some 49) (v := undef) (a' := ?_) #[true, true, true, true, true, true, true, true, true, true, true, true, true, true, true, true, true, true, true, true, true, true, true, true, true, false, false, false, false, false] rfl rfl (any_of HT_.out zK) (fun _ _ _ h => h) (Or.inr ⟨by rfl, rfl⟩) ?_ ?_
       rotate_left
       ·simp only [Act.put, List.setIfInBounds_toArray, List.set_cons_zero, List.set_cons_succ, i64_w, i32_w]
        rfl
       refine pure_ (i := 25) (N := some 50) (v := undef) (a' := ?_) #[true, true, true, true, true, true, true, true, true, true, true, true, true, true, true, true, true, true, true, true, true, true, true, true, true, true, false, false, false, false] rfl rfl (any_of HT_.out zK) (fun _ _ _ h => h) (Or.inr ⟨by rfl, rfl⟩) ?_ ?_
       rotate_left
       ·simp only [Act.put, List.setIfInBounds_toArray, List.set_cons_zero, List.set_cons_succ, i64_w, i32_w]
        rfl
       refine pure_ (i := 26) (N := some 51) (v := undef) (a' := ?_) #[true, true, true, true, true, true, true, true, true, true, true, true, true, true, true, true, true, true, true, true, true, true, true, true, true, true, true, false, false, false] rfl rfl (any_of HT_.out zK) (fun _ _ _ h => h) (Or.inr ⟨by rfl, rfl⟩) ?_ ?_
       rotate_left
       ·simp only [Act.put, List.setIfInBounds_toArray, List.set_cons_zero, List.set_cons_succ, i64_w, i32_w]
        rfl
       refine pure_ (i := 27) (N := some 52) (v := undef) (a' := ?_) #[true, true, true, true, true, true, true, true, true, true, true, true, true, true, true, true, true, true, true, true, true, true, true, true, true, true, true, true, false, false] rfl rfl (any_of HT_.out zK) (fun _ _ _ h => h) (Or.inr ⟨by rfl, rfl⟩) ?_ ?_
       rotate_left
       ·simp only [Act.put, List.setIfInBounds_toArray, List.set_cons_zero, List.set_cons_succ, i64_w, i32_w]
        rfl
       refine pure_ (i := 28) (N := some 53) (v := ?_) (a' := ?_) #[true, true, true, true, true, true, true, true, true, true, true, true, true, true, true, true, true, true, true, true, true, true, true, true, true, true, true, true, true, false] rfl rfl (any_of HT_.out zK) (fun _ _ _ h => h) (Or.inl ⟨by rfl, ?_⟩) ?_ ?_
       rotate_left
       ·intro w'
        go_simp
        with_reducible rfl
       rotate_left
       ·simp only [Act.put, List.setIfInBounds_toArray, List.set_cons_zero, List.set_cons_succ, i64_w, i32_w]
        rfl
       refine pure_ (i := 29) (N := some 8) (v := ?_) (a' := ?_) #[true, true, true, true, true, true, true, true, true, true, true, true, true, true, true, true, true, true, true, true, true, true, true, true, true, true, true, true, true, true] rfl rfl (any_of HT_.out zK) (fun _ _ _ h => h) (Or.inl ⟨by rfl, ?_⟩) ?_ ?_
       rotate_left
       ·intro w'
        go_simp
        with_reducible rfl
       rotate_left
       ·simp only [Act.put, List.setIfInBounds_toArray, List.set_cons_zero, List.set_cons_succ, i64_w, i32_w]
        rfl
       refine done_ (done_of HT_.out zK) ?_
       try go_wp2
       go_ret
       exact ⟨by first | rfl | (simp [errW_none, errW_some] <;> rfl) | (simp only [← hji24]; first | rfl | (simp [errW_none, errW_some] <;> rfl)) | (simp [*, errW_none, errW_some] <;> rfl), by repeat (first | (with_reducible first | exact HB.out | apply below_alloc | apply pw_below_drewN | apply below_drew1 | refine below_set ?_ GE285.out | refine below_set ?_ GE286.out | refine below_set ?_ GE288.out) | exact HB.out)⟩
     ·rw [if_neg c25] at H
      have c25b0 : ((Go.bits .and .i64 (ji24) 1) == 0) = false := beq_eq_false_iff_ne.mpr c25
      have c25b1 : ((Go.bits .and .i64 (ji24) 1) != 0) = true := bne_iff_ne.mpr c25
      obtain rfl := Option.some.inj H
      try go_wp2
      have n0_ : Aside0 (((((w12.setCell ⟨gb288, 0, none⟩ (.int .i64 ((rd_T35 l1_0 a2).f0))).setCell ⟨gb288, 1, none⟩ (.int .i64 ((rd_T35 l1_0 a2).f1))).setCell ⟨gb288, 2, none⟩ (.int .i64 ((rd_T35 l1_0 a2).f2))).setCell ⟨gb288, 3, none⟩ (.int .i64 ((rd_T35 l1_0 a2).f3))).heap[gb285]? = some (.cells #[.slice (some ad287) l1_0.length c1_0] 27 (0, 0))) := ⟨by (with_reducible repeat (first | refine blk_drewN ?_ _ | refine blk_drew ?_ | refine blk_alloc ?_ _)); refine blk_far ?_ NB285_288.out _; (with_reducible repeat (first | refine blk_drewN ?_ _ | refine blk_drew ?_ | refine blk_alloc ?_ _)); refine blk_far ?_ NB285_288.out _; (with_reducible repeat (first | refine blk_drewN ?_ _ | refine blk_drew ?_ | refine blk_alloc ?_ _)); refine blk_far ?_ NB285_288.out _; (with_reducible repeat (first | refine blk_drewN ?_ _ | refine blk_drew ?_ | refine blk_alloc ?_ _)); refine blk_far ?_ NB285_288.out _; (with_reducible repeat (first | refine blk_drewN ?_ _ | refine blk_drew ?_ | refine blk_alloc ?_ _)); exact BK285.out⟩
      have n1_ : Aside0 (((((w12.setCell ⟨gb288, 0, none⟩ (.int .i64 ((rd_T35 l1_0 a2).f0))).setCell ⟨gb288, 1, none⟩ (.int .i64 ((rd_T35 l1_0 a2).f1))).setCell ⟨gb288, 2, none⟩ (.int .i64 ((rd_T35 l1_0 a2).f2))).setCell ⟨gb288, 3, none⟩ (.int .i64 ((rd_T35 l1_0 a2).f3))).heap[gb286]? = some (.cells #[.int .i64 a3_0, .int .i64 a3_1] 68 (0, 0))) := ⟨by (with_reducible repeat (first | refine blk_drewN ?_ _ | refine blk_drew ?_ | refine blk_alloc ?_ _)); refine blk_far ?_ NB286_288.out _; (with_reducible repeat (first | refine blk_drewN ?_ _ | refine blk_drew ?_ | refine blk_alloc ?_ _)); refine blk_far ?_ NB286_288.out _; (with_reducible repeat (first | refine blk_drewN ?_ _ | refine blk_drew ?_ | refine blk_alloc ?_ _)); refine blk_far ?_ NB286_288.out _; (with_reducible repeat (first | refine blk_drewN ?_ _ | refine blk_drew ?_ | refine blk_alloc ?_ _)); refine blk_far ?_ NB286_288.out _; (with_reducible repeat (first | refine blk_drewN ?_ _ | refine blk_drew ?_ | refine blk_alloc ?_ _)); exact BK286.out⟩
      have n2_ : Aside0 (((((w12.setCell ⟨gb288, 0, none⟩ (.int .i64 ((rd_T35 l1_0 a2).f0))).setCell ⟨gb288, 1, none⟩ (.int .i64 ((rd_T35 l1_0 a2).f1))).setCell ⟨gb288, 2, none⟩ (.int .i64 ((rd_T35 l1_0 a2).f2))).setCell ⟨gb288, 3, none⟩ (.int .i64 ((rd_T35 l1_0 a2).f3))).heap[gb288]? = some (.cells #[.int .i64 ((rd_T35 l1_0 a2).f0), .int .i64 ((rd_T35 l1_0 a2).f1), .int .i64 ((rd_T35 l1_0 a2).f2), .int .i64 ((rd_T35 l1_0 a2).f3)] 35 (0, 0))) := ⟨by (with_reducible repeat (first | refine blk_drewN ?_ _ | refine blk_drew ?_ | refine blk_alloc ?_ _)); refine blk_put (cs := #[.int .i64 ((rd_T35 l1_0 a2).f0), .int .i64 ((rd_T35 l1_0 a2).f1), .int .i64 ((rd_T35 l1_0 a2).f2), .int .i64 0]) ?_ 3 _ rfl; (with_reducible repeat (first | refine blk_drewN ?_ _ | refine blk_drew ?_ | refine blk_alloc ?_ _)); refine blk_put (cs := #[.int .i64 ((rd_T35 l1_0 a2).f0), .int .i64 ((rd_T35 l1_0 a2).f1), .int .i64 0, .int .i64 0]) ?_ 2 _ rfl; (with_reducible repeat (first | refine blk_drewN ?_ _ | refine blk_drew ?_ | refine blk_alloc ?_ _)); refine blk_put (cs := #[.int .i64 ((rd_T35 l1_0 a2).f0), .int .i64 0, .int .i64 0, .int .i64 0]) ?_ 1 _ rfl; (with_reducible repeat (first | refine blk_drewN ?_ _ | refine blk_drew ?_ | refine blk_alloc ?_ _)); refine blk_put (cs := #[.int .i64 0, .int .i64 0, .int .i64 0, .int .i64 0]) ?_ 0 _ rfl; (with_reducible repeat (first | refine blk_drewN ?_ _ | refine blk_drew ?_ | refine blk_alloc ?_ _)); exact BK288.out⟩
      have n3_ : Aside0 (Below w.heap.size w ((((w12.setCell ⟨gb288, 0, none⟩ (.int .i64 ((rd_T35 l1_0 a2).f0))).setCell ⟨gb288, 1, none⟩ (.int .i64 ((rd_T35 l1_0 a2).f1))).setCell ⟨gb288, 2, none⟩ (.int .i64 ((rd_T35 l1_0 a2).f2))).setCell ⟨gb288, 3, none⟩ (.int .i64 ((rd_T35 l1_0 a2).f3)))) := ⟨by repeat (first | (with_reducible first | exact HB.out | apply below_alloc | apply pw_below_drewN | apply below_drew1 | refine below_set ?_ GE285.out | refine below_set ?_ GE286.out | refine below_set ?_ GE288.out) | exact HB.out)⟩
      (try clear BK285)
      (try clear BK286)
      (try clear BK288)
      (try clear HB)
      generalize ((((w12.setCell ⟨gb288, 0, none⟩ (.int .i64 ((rd_T35 l1_0 a2).f0))).setCell ⟨gb288, 1, none⟩ (.int .i64 ((rd_T35 l1_0 a2).f1))).setCell ⟨gb288, 2, none⟩ (.int .i64 ((rd_T35 l1_0 a2).f2))).setCell ⟨gb288, 3, none⟩ (.int .i64 ((rd_T35 l1_0 a2).f3))) = w41 at n0_ n1_ n2_ n3_ ⊢
      have BK285 := n0_
      have BK286 := n1_
      have BK288 := n2_
      have HB := n3_
      clear n0_ n1_ n2_ n3_
      have n0_ := Aside0.mk (blk_drew BK285.out)
      have n1_ := Aside0.mk (blk_drew BK286.out)
      have n2_ := Aside0.mk (blk_drew BK288.out)
      have n3_ := Aside0.mk (below_drew1 HB.out)
      clear BK285
      clear BK286
      clear BK288
      clear HB
      have BK285 := n0_
      have BK286 := n1_
      have BK288 := n2_
      have HB := n3_
      clear n0_ n1_ n2_ n3_
      refine start_ (n := 30) (S := fun w' => w'.cell? ⟨gb286, 0, none⟩ = some (.int .i64 a3_0) ∧ w'.cell? ⟨gb286, 1, none⟩ = some (.int .i64 a3_1) ∧ w'.cell? ⟨gb288, 0, none⟩ = some (.int .i64 ((rd_T35 l1_0 a2).f0)) ∧ w'.cell? ⟨gb288, 1, none⟩ = some (.int .i64 ((rd_T35 l1_0 a2).f1)) ∧ w'.cell? ⟨gb288, 2, none⟩ = some (.int .i64 ((rd_T35 l1_0 a2).f2)) ∧ w'.cell? ⟨gb288, 3, none⟩ = some (.int .i64 ((rd_T35 l1_0 a2).f3))) (ds := []) #[false, false, false, false, false, false, false, false, false, false, false, false, false, false, false, false, false, false, false, false, false, false, false, false, false, false, false, false, false, false] zK rfl rfl ⟨(blk_cell BK286.out 0).trans rfl, (blk_cell BK286.out 1).trans rfl, (blk_cell BK288.out 0).trans rfl, (blk_cell BK288.out 1).trans rfl, (blk_cell BK288.out 2).trans rfl, (blk_cell BK288.out 3).trans rfl⟩ (fun hHeld => ?_); refine with_tabW solve_right.tab4 solve_right.bits4 (fun HT_ HW_ => ?_)
      generalize w41.drew = w42 at BK285 BK286 BK288 HB hHeld ⊢
      refine pure_ (i := 0) (N := some 25) (v := ?_) (a' := ?_) #[true, false, false, false, false, false, false, false, false, false, false, false, false, false, false, false, false, false, false, false, false, false, false, false, false, false, false, false, false, false] rfl rfl (any_of HT_.out zK) (fun _ _ _ h => h) (Or.inl ⟨by rfl, ?_⟩) ?_ ?_
      rotate_left
      ·intro w'
       go_simp
       with_reducible rfl
      rotate_left
      ·simp only [Act.put, List.setIfInBounds_toArray, List.set_cons_zero, List.set_cons_succ, i64_w, i32_w]
       rfl
      refine pure_ (i := 2) (N := some 27) (v := ?_) (a' := ?_) #[true, false, true, false, false, false, false, false, false, false, false, false, false, false, false, false, false, false, false, false, false, false, false, false, false, false, false, false, false, false] rfl rfl (any_of HT_.out zK) (fun _ _ _ h => h) (Or.inl ⟨by rfl, ?_⟩) ?_ ?_
      rotate_left
      ·intro w'
       go_simp
       with_reducible rfl
      rotate_left
      ·simp only [Act.put, List.setIfInBounds_toArray, List.set_cons_zero, List.set_cons_succ, i64_w, i32_w]
       rfl
      refine take_ (i := 1) (N := some 26) (v := ?_) (a' := ?_) #[true, true, true, false, false, false, false, false, false, false, false, false, false, false, false, false, false, false, false, false, false, false, false, false, false, false, false, false, false, false] rfl rfl (take_ofW HT_.out HW_.out zK) (fun _ _ _ h => h) (Or.inl ⟨by rfl, ?_⟩) hHeld ?_ ?_
      rotate_left
      ·rintro w' ⟨s0, s1, s2, s3, s4, s5⟩
       go_simp
       with_reducible rfl
      rotate_left
      ·simp only [Act.put, List.setIfInBounds_toArray, List.set_cons_zero, List.set_cons_succ, i64_w, i32_w]
       rfl
      refine take_ (i := 3) (N := some 28) (v := ?_) (a' := ?_) #[true, true, true, true, false, false, false, false, false, false, false, false, false, false, false, false, false, false, false, false, false, false, false, false, false, false, false, false, false, false] rfl rfl (take_ofW HT_.out HW_.out zK) (fun _ _ _ h => h) (Or.inl ⟨by rfl, ?_⟩) hHeld ?_ ?_
      rotate_left
      ·rintro w' ⟨s0, s1, s2, s3, s4, s5⟩
       go_simp
       with_reducible rfl
      rotate_left
      ·simp only [Act.put, List.setIfInBounds_toArray, List.set_cons_zero, List.set_cons_succ, i64_w, i32_w]
       rfl
      refine pure_ (i := 4) (N := some 29) (v := ?_) (a' := ?_) #[true, true, true, true, true, false, false, false, false, false, false, false, false, false, false, false, false, false, false, false, false, false, false, false, false, false, false, false, false, false] rfl rfl (any_of HT_.out zK) (fun _ _ _ h => h) (Or.inl ⟨by rfl, ?_⟩) ?_ ?_
      rotate_left
      ·intro w'
       go_simp
       with_reducible rfl
      rotate_left
      ·simp only [Act.put, List.setIfInBounds_toArray, List.set_cons_zero, List.set_cons_succ, i64_w, i32_w]
       rfl
      refine pure_ (i := 5) (N := some 30) (v := ?_) (a' := ?_) #[true, true, true, true, true, true, false, false, false, false, false, false, false, false, false, false, false, false, false, false, false, false, false, false, false, false, false, false, false, false] rfl rfl (any_of HT_.out zK) (fun _ _ _ h => h) (Or.inl ⟨by rfl, ?_⟩) ?_ ?_
      rotate_left
      ·intro w'
       go_simp
       with_reducible rfl
      rotate_left
      ·simp only [Act.put, List.setIfInBounds_toArray, List.set_cons_zero, List.set_cons_succ, i64_w, i32_w]
       rfl
      refine pure_ (i := 6) (N := some 31) (v := ?_) (a' := ?_) #[true, true, true, true, true, true, true, false, false, false, false, false, false, false, false, false, false, false, false, false, false, false, false, false, false, false, false, false, false, false] rfl rfl (any_of HT_.out zK) (fun _ _ _ h => h) (Or.inl ⟨by rfl, ?_⟩) ?_ ?_
      rotate_left
      ·intro w'
       go_simp
       with_reducible rfl
      rotate_left
      ·simp only [Act.put, List.setIfInBounds_toArray, List.set_cons_zero, List.set_cons_succ, i64_w, i32_w]
       rfl
      refine pure_ (i := 7) (N := some 32) (v := ?_) (a' := ?_) #[true, true, true, true, true, true, true, true, false, false, false, false, false, false, false, false, false, false, false, false, false, false, false, false, false, false, false, false, false, false] rfl rfl (any_of HT_.out zK) (fun _ _ _ h => h) (Or.inl ⟨by rfl, ?_⟩) ?_ ?_
      rotate_left
      ·intro w'
       go_simp
       with_reducible rfl
      rotate_left
      ·simp only [Act.put, List.setIfInBounds_toArray, List.set_cons_zero, List.set_cons_succ, i64_w, i32_w]
       rfl
      refine pure_ (i := 8) (N := some 33) (v := undef) (a' := ?_) #[true, true, true, true, true, true, true, true, true, false, false, false, false, false, false, false, false, false, false, false, false, false, false, false, false, false, false, false, false, false] rfl rfl (any_of HT_.out zK) (fun _ _ _ h => h) (Or.inr ⟨by rfl, rfl⟩) ?_ ?_
      rotate_left
      ·simp only [Act.put, List.setIfInBounds_toArray, List.set_cons_zero, List.set_cons_succ, i64_w, i32_w]
       rfl
      refine pure_ (i := 9) (N := some 34) (v := undef) (a' := ?_) #[true, true, true, true, true, true, true, true, true, true, false, false, false, false, false, false, false, false, false, false, false, false, false, false, false, false, false, false, false, false] rfl rfl (any_of HT_.out zK) (fun _ _ _ h => h) (Or.inr ⟨by rfl, rfl⟩) ?_ ?_
      rotate_left
      ·simp only [Act.put, List.setIfInBounds_toArray, List.set_cons_zero, List.set_cons_succ, i64_w, i32_w]
       rfl
      refine pure_ (i := 10) (N := some 35) (v := undef) (a' := ?_) #[true, true, true, true, true, true, true, true, true, true, true, false, false, false, false, false, false, false, false, false, false, false, false, false, false, false, false, false, false, false] rfl rfl (any_of HT_.out zK) (fun _ _ _ h => h) (Or.inr ⟨by rfl, rfl⟩) ?_ ?_
      rotate_left
      ·simp only [Act.put, List.setIfInBounds_toArray, List.set_cons_zero, List.set_cons_succ, i64_w, i32_w]
       rfl
      refine pure_ (i := 11) (N := some 36) (v := undef) (a' := ?_) #[true, true, true, true, true, true, true, true, true, true, true, true, false, false, false, false, false, false, false, false, false, false, false, false, false, false, false, false, false, false] rfl rfl (any_of HT_.out zK) (fun _ _ _ h => h) (Or.inr ⟨by rfl, rfl⟩) ?_ ?_
      rotate_left
      ·simp only [Act.put, List.setIfInBounds_toArray, List.set_cons_zero, List.set_cons_succ, i64_w, i32_w]
       rfl
      refine pure_ (i := 12) (N := some 37) (v := undef) (a' := ?_) #[true, true, true, true, true, true, true, true, true, true, true, true, true, false, false, false, false, false, false, false, false, false, false, false, false, false, false, false, false, false] rfl rfl (any_of HT_.out zK) (fun _ _ _ h => h) (Or.inr ⟨by rfl, rfl⟩) ?_ ?_
      rotate_left
      ·simp only [Act.put, List.setIfInBounds_toArray, List.set_cons_zero, List.set_cons_succ, i64_w, i32_w]
       rfl
      refine pure_ (i := 13) (N := some 38) (v := undef) (a' := ?_) #[true, true, true, true, true, true, true, true, true, true, true, true, true, true, false, false, false, false, false, false, false, false, false, false, false, false, false, false, false, false] rfl rfl (any_of HT_.out zK) (fun _ _ _ h => h) (Or.inr ⟨by rfl, rfl⟩) ?_ ?_
      rotate_left
      ·simp only [Act.put, List.setIfInBounds_toArray, List.set_cons_zero, List.set_cons_succ, i64_w, i32_w]
       rfl
      refine pure_ (i := 14) (N := some 39) (v := undef) (a' := ?_) #[true, true, true, true, true, true, true, true, true, true, true, true, true, true, true, false, false, false, false, false, false, false, false, false, false, false, false, false, false, false] rfl rfl (any_of HT_.out zK) (fun _ _ _ h => h) (Or.inr ⟨by rfl, rfl⟩) ?_ ?_
      rotate_left
      ·simp only [Act.put, List.setIfInBounds_toArray, List.set_cons_zero, List.set_cons_succ, i64_w, i32_w]
       rfl
      refine pure_ (i := 15) (N := some 40) (v := undef) (a' := ?_) #[true, true, true, true, true, true, true, true, true, true, true, true, true, true, true, true, false, false, false, false, false, false, false, false, false, false, false, false, false, false] rfl rfl (any_of HT_.out zK) (fun _ _ _ h => h) (Or.inr ⟨by rfl, rfl⟩) ?_ ?_
      rotate_left
      ·simp only [Act.put, List.setIfInBounds_toArray, List.set_cons_zero, List.set_cons_succ, i64_w, i32_w]
       rfl
      refine pure_ (i := 16) (N := some 41) (v := undef) (a' := ?_) #[true, true, true, true, true, true, true, true, true, true, true, true, true, true, true, true, true, false, false, false, false, false, false, false, false, false, false, false, false, false] rfl rfl (any_of HT_.out zK) (fun _ _ _ h => h) (Or.inr ⟨by rfl, rfl⟩) ?_ ?_
      rotate_left
      ·simp only [Act.put, List.setIfInBounds_toArray, List.set_cons_zero, List.set_cons_succ, i64_w, i32_w]
       rfl
      refine pure_ (i := 17) (N := some 42) (v := ?_) (a' := ?_) #[true, true, true, true, true, true, true, true, true, true, true, true, true, true, true, true, true, true, false, false, false, false, false, false, false, false, false, false, false, false] rfl rfl (any_of HT_.out zK) (fun _ _ _ h => h) (Or.inl ⟨by rfl, ?_⟩) ?_ ?_
      rotate_left
      ·intro w'
       go_simp
       with_reducible rfl
      rotate_left
      ·simp only [Act.put, List.setIfInBounds_toArray, List.set_cons_zero, List.set_cons_succ, i64_w, i32_w]
       rfl
      refine pure_ (i := 18) (N := some 43) (v := ?_) (a' := ?_) #[true, true, true, true, true, true, true, true, true, true, true, true, true, true, true, true, true, true, true, false, false, false, false, false, false, false, false, false, false, false] rfl rfl (any_of HT_.out zK) (fun _ _ _ h => h) (Or.inl ⟨by rfl, ?_⟩) ?_ ?_
      rotate_left
      ·intro w'
       go_simp
       with_reducible rfl
      rotate_left
      ·simp only [Act.put, List.setIfInBounds_toArray, List.set_cons_zero, List.set_cons_succ, i64_w, i32_w]
       rfl
      refine pure_ (i := 19) (N := some 44) (v := undef) (a' := ?_) #[true, true, true, true, true, true, true, true, true, true, true, true, true, true, true, true, true, true, true, true, false, false, false, false, false, false, false, false, false, false] rfl rfl (any_of HT_.out zK) (fun _ _ _ h => h) (Or.inr ⟨by rfl, rfl⟩) ?_ ?_
      rotate_left
      ·simp only [Act.put, List.setIfInBounds_toArray, List.set_cons_zero, List.set_cons_succ, i64_w, i32_w]
       rfl
      refine pure_ (i := 20) (N := some 45) (v := undef) (a' := ?_) #[true, true, true, true, true, true, true, true, true, true, true, true, true, true, true, true, true, true, true, true, true, false, false, false, false, false, false, false, false, false] rfl rfl (any_of HT_.out zK) (fun _ _ _ h => h) (Or.inr ⟨by rfl, rfl⟩) ?_ ?_
      rotate_left
      ·simp only [Act.put, List.setIfInBounds_toArray, List.set_cons_zero, List.set_cons_succ, i64_w, i32_w]
       rfl
      refine pure_ (i := 21) (N := some 46) (v := undef) (a' := ?_) #[true, true, true, true, true, true, true, true, true, true, true, true, true, true, true, true, true, true, true, true, true, true, false, false, false, false, false, false, false, false] rfl rfl (any_of HT_.out zK) (fun _ _ _ h => h) (Or.inr ⟨by rfl, rfl⟩) ?_ ?_
      rotate_left
      ·simp only [Act.put, List.setIfInBounds_toArray, List.set_cons_zero, List.set_cons_succ, i64_w, i32_w]
       rfl
      refine pure_ (i := 22) (N := some 47) (v := undef) (a' := ?_) #[true, true, true, true, true, true, true, true, true, true, true, true, true, true, true, true, true, true, true, true, true, true, true, false, false, false, false, false, false, false] rfl rfl (any_of HT_.out zK) (fun _ _ _ h => h) (Or.inr ⟨by rfl, rfl⟩) ?_ ?_
      rotate_left
      ·simp only [Act.put, List.setIfInBounds_toArray, List.set_cons_zero, List.set_cons_succ, i64_w, i32_w]
       rfl
      refine pure_ (i := 23) (N := some 48) (v := undef) (a' := ?_) #[true, true, true, true, true, true, true, true, true, true, true, true, true, true, true, true, true, true, true, true, true, true, true, true, false, false, false, false, false, false] rfl rfl (any_of HT_.out zK) (fun _ _ _ h => h) (Or.inr ⟨by rfl, rfl⟩) ?_ ?_
      rotate_left
      ·simp only [Act.put, List.setIfInBounds_toArray, List.set_cons_zero, List.set_cons_succ, i64_w, i32_w]
       rfl
      refine pure_ (i := 24) (N := some 49) (v := undef) (a' := ?_) #[true, true, true, true, true, true, true, true, true, true, true, true, true, true, true, true, true, true, true, true, true, true, true, true, true, false, false, false, false, false] rfl rfl (any_of HT_.out zK) (fun _ _ _ h => h) (Or.inr ⟨by rfl, rfl⟩) ?_ ?_
      rotate_left
      ·simp only [Act.put, List.setIfInBounds_toArray, List.set_cons_zero, List.set_cons_succ, i64_w, i32_w]
       rfl
      refine pure_ (i := 25) (N := some 50) (v := undef) (a' := ?_) #[true, true, true, true, true, true, true, true, true, true, true, true, true, true, true, true, true, true, true, true, true, true, true, true, true, true, false, false, false, false] rfl rfl (any_of HT_.out zK) (fun _ _ _ h => h) (Or.inr ⟨by rfl, rfl⟩) ?_ ?_
      rotate_left
      ·simp only [Act.put, List.setIfInBounds_toArray, List.set_cons_zero, List.set_cons_succ, i64_w, i32_w]
       rfl
      refine pure_ (i := 26) (N := some 51) (v := undef) (a' := ?_) #[true, true, true, true, true, true, true, true, true, true, true, true, true, true, true, true, true, true, true, true, true, true, true, true, true, true, true, false, false, false] rfl rfl (any_of HT_.out zK) (fun _ _ _ h => h) (Or.inr ⟨by rfl, rfl⟩) ?_ ?_
      rotate_left
      ·simp only [Act.put, List.setIfInBounds_toArray, List.set_cons_zero, List.set_cons_succ, i64_w, i32_w]
       rfl
      refine pure_ (i := 27) (N := some 52) (v := undef) (a' := ?_) #[true, true, true, true, true, true, true, true, true, true, true, true, true, true, true, true, true, true, true, true, true, true, true, true, true, true, true, true, false, false] rfl rfl (any_of HT_.out zK) (fun _ _ _ h => h) (Or.inr ⟨by rfl, rfl⟩) ?_ ?_
      rotate_left
      ·simp only [Act.put, List.setIfInBounds_toArray, List.set_cons_zero, List.set_cons_succ, i64_w, i32_w]
       rfl
      refine pure_ (i := 28) (N := some 53) (v := ?_) (a' := ?_) #[true, true, true, true, true, true, true, true, true, true, true, true, true, true, true, true, true, true, true, true, true, true, true, true, true, true, true, true, true, false] rfl rfl (any_of HT_.out zK) (fun _ _ _ h => h) (Or.inl ⟨by rfl, ?_⟩) ?_ ?_
      rotate_left
      ·intro w'
       go_simp
       with_reducible rfl
      rotate_left
      ·simp only [Act.put, List.setIfInBounds_toArray, List.set_cons_zero, List.set_cons_succ, i64_w, i32_w]
       rfl
      refine pure_ (i := 29) (N := some 8) (v := ?_) (a' := ?_) #[true, true, true, true, true, true, true, true, true, true, true, true, true, true, true, true, true, true, true, true, true, true, true, true, true, true, true, true, true, true] rfl rfl (any_of HT_.out zK) (fun _ _ _ h => h) (Or.inl ⟨by rfl, ?_⟩) ?_ ?_
      rotate_left
      ·intro w'
       go_simp
       with_reducible rfl
      rotate_left
      ·simp only [Act.put, List.setIfInBounds_toArray, List.set_cons_zero, List.set_cons_succ, i64_w, i32_w]
       rfl
      refine done_ (done_of HT_.out zK) ?_
      try go_wp2
      go_ret
      exact ⟨by first | rfl | (simp [errW_none, errW_some] <;> rfl) | (simp only [← hji24]; first | rfl | (simp [errW_none, errW_some] <;> rfl)) | (simp [*, errW_none, errW_some] <;> rfl), by repeat (first | (with_reducible first | exact HB.out | apply below_alloc | apply pw_below_drewN | apply below_drew1 | refine below_set ?_ GE285.out | refine below_set ?_ GE286.out | refine below_set ?_ GE288.out) | exact HB.out)⟩
    ·rw [if_neg c23] at H
     exact absurd H (by simp)
  ·rw [if_neg c6] at H
   exact absurd H (by simp)
 ·rw [if_neg c5] at H
  exact absurd H (by simp)
/-! ### solve_Check: function 17 -/
def solve_Check.f (k : Nat) (l0 : List (S61)) (l1_0 : List (S35)) : Option (Bool) := (solve_valid.f k l0).bind fun t298 => (if t298 = 0 then ((solve_shape.f k l0 l1_0).bind fun t299 => (if t299 = true then ((solve_right.f k l0 l1_0 0 0 0).bind fun t300 => (some t300)) else (some false))) else (some false))
theorem solve_Check.mono : ∀ a0 a1 k, LeO (solve_Check.f k a0 a1) (solve_Check.f (k + 1) a0 a1) := by
 intro a0 a1 k
 unfold solve_Check.f
 repeat' first
   | (with_reducible exact solve_right.mono _ _ _ _ _ _)
   | (with_reducible exact solve_shape.mono _ _ _)
   | (with_reducible exact solve_valid.mono _ _)
   | (with_reducible exact LeO.refl _)
   | (with_reducible exact LeO.none _)
   | (with_reducible refine LeO.ite ?_ ?_)
   | (with_reducible refine LeO.bind ?_ (fun _ => ?_))
   | exact solve_right.mono _ _ _ _ _ _
   | exact solve_shape.mono _ _ _
   | exact solve_valid.mono _ _
   | exact LeO.none _
   | refine LeO.ite ?_ ?_
   | refine LeO.bind ?_ (fun _ => ?_)
set_option maxHeartbeats 8000000 in
set_option maxRecDepth 100000 in
theorem solve_Check.calls (k : Nat) (A0 : Option Addr) (c0 : Nat) (l0 : List (S61)) (A1_0 : Option Addr) (c1_0 : Nat) (l1_0 : List (S35)) (r : Bool) (w : World) (hr0 : Kd.C k61 w A0 l0.length l0) (hc0 : l0.length ≤ c0) (hr1_0 : Kd.C k35 w A1_0 l1_0.length l1_0) (hc1_0 : l1_0.length ≤ c1_0) (h : solve_Check.f k l0 l1_0 = some r) :
  Calls Try.prog 17 #[.slice A0 l0.length c0, .agg #[.slice A1_0 l1_0.length c1_0]] w fun e w' => e = .returned (.bool r) ∧ Below w.heap.size w w' := by
 have hu27 := Try.underlying27
 have hu68 := Try.underlying68
 have HR0 := Aside0.mk hr0
 have HC0 := Aside0.mk hc0
 clear hr0 hc0
 have HR1_0 := Aside0.mk hr1_0
 have HC1_0 := Aside0.mk hc1_0
 clear hr1_0 hc1_0
 have HB := Aside0.mk (Below.refl w.heap.size w)
 have H : ((solve_valid.f k l0).bind fun t298 => (if t298 = 0 then ((solve_shape.f k l0 l1_0).bind fun t299 => (if t299 = true then ((solve_right.f k l0 l1_0 0 0 0).bind fun t300 => (some t300)) else (some false))) else (some false))) = some r := h
 clear h
 have HC3 := Aside0.mk H
 clear H
 go_enter Try.func17, Try.ntmps17
 go_upto_region 1 with (first | ((with_reducible refine gate_dst (N := 3) rfl ?_); refine box_event ?hg (N := 3) ?hd (cs := #[.slice A1_0 l1_0.length c1_0]) (t := 27) ?hr ?_; (case hd => rfl); (case hg => rfl); (case hr => first | (go_simp; done) | (go_simp; rfl)); intro gb297 hg w4 hbox hb; have n0_ := Aside0.mk (below_step zB hb); have n1_ := Aside0.mk (hbox); have n2_ := Aside0.mk ((by rw [hg]; exact (below_size zB) : w.heap.size ≤ gb297)); have n3_ := Aside0.mk ((by rw [hg]; exact (below_size zB) : w.heap.size ≤ gb297)); clear HB; have HB := n0_; have BK297 := n1_; have GW297 := n2_; have GE297 := n3_; clear n0_ n1_ n2_ n3_; clear hb hbox hg))
 (try simp only [Act.put, List.setIfInBounds_toArray, List.set_cons_zero, List.set_cons_succ])
 have H := HC3.out
 clear HC3
 replace H := Option.bind_eq_some_iff.mp H
 obtain ⟨t298, A50, H⟩ := H
 replace H : (if t298 = 0 then ((solve_shape.f k l0 l1_0).bind fun t299 => (if t299 = true then ((solve_right.f k l0 l1_0 0 0 0).bind fun t300 => (some t300)) else (some false))) else (some false)) = some r := H
 have A5 := Aside0.mk A50
 clear A50
 by_cases c6 : t298 = 0
 ·rw [if_pos c6] at H
  have c6b0 : (t298 == 0) = true := beq_iff_eq.mpr c6
  have c6b1 : (t298 != 0) = false := bne_eq_false_iff_eq.mpr c6
  clear c6
  (first | rw [c6b0] | (simp only [i64_w, i32_w]; rw [c6b0]) | skip)
  (try rw [c6b1])
  replace H := Option.bind_eq_some_iff.mp H
  obtain ⟨t299, A70, H⟩ := H
  replace H : (if t299 = true then ((solve_right.f k l0 l1_0 0 0 0).bind fun t300 => (some t300)) else (some false)) = some r := H
  have A7 := Aside0.mk A70
  clear A70
  by_cases c8 : t299 = true
  ·subst c8
   have H1 : ((solve_right.f k l0 l1_0 0 0 0).bind fun t300 => (some t300)) = some r := by rw [if_pos rfl] at H; exact H
   clear H
   have H := H1
   clear H1
   replace H := Option.bind_eq_some_iff.mp H
   obtain ⟨t300, A90, H⟩ := H
   replace H : (some t300) = some r := H
   have A9 := Aside0.mk A90
   clear A90
   obtain rfl := Option.some.inj H
   go_wp2_with (first | ((with_reducible refine gate_callee (f := 46) rfl ?_); refine goesL_ (some 6) rfl rfl Try.func46 zK rfl #[.slice A0 l0.length c0] rfl zM ?_; (with_reducible refine (solve_valid.calls k _ _ l0 t298 _ ?side1 ?side2 A5.out).mono ?_); (case side1 => repeat (first | exact (Kd.C_below HR0.out HB.out) | (with_reducible refine Kd.C_alloc ?_ _) | (with_reducible refine Kd.C_drewN ?_ _) | (with_reducible refine Kd.C_drew ?_))); (case side2 => exact HC0.out); rintro e w10 ⟨rfl, hb⟩; refine ⟨_, rfl, ?_⟩; have n0_ := Aside0.mk (blk_below (g := gb297) (o := .cells #[.slice A1_0 l1_0.length c1_0] 27 (0, 0)) (zk BK297) hb); have n1_ := Aside0.mk (below_step zB hb); clear BK297; clear HB; have BK297 := n0_; have HB := n1_; clear n0_ n1_; (try clear hb); (try clear hb2); (try clear hk); (try clear hi); have hcz11_0 : w10.cell? ⟨gb297, 0, none⟩ = some (.slice A1_0 l1_0.length c1_0) := (blk_cell BK297.out 0).trans rfl; have hfz11_0 := blk_frozen BK297.out 0) | (go_at_call 53; (with_reducible refine (solve_shape.calls k _ _ l0 _ _ l1_0 true _ ?side1 ?side2 ?side3 ?side4 A7.out).mono ?_); (case side1 => repeat (first | exact (Kd.C_below HR0.out HB.out) | (with_reducible refine Kd.C_alloc ?_ _) | (with_reducible refine Kd.C_drewN ?_ _) | (with_reducible refine Kd.C_drew ?_))); (case side2 => exact HC0.out); (case side3 => repeat (first | exact (Kd.C_below HR1_0.out HB.out) | (with_reducible refine Kd.C_alloc ?_ _) | (with_reducible refine Kd.C_drewN ?_ _) | (with_reducible refine Kd.C_drew ?_))); (case side4 => exact HC1_0.out); rintro e w12 ⟨rfl, hb⟩; have n0_ := Aside0.mk (blk_below (g := gb297) (o := .cells #[.slice A1_0 l1_0.length c1_0] 27 (0, 0)) (zk BK297) hb); have n1_ := Aside0.mk (below_step zB hb); clear BK297; clear HB; have BK297 := n0_; have HB := n1_; clear n0_ n1_; (try clear hb); (try clear hb2); (try clear hk); (try clear hi); have hcz13_0 : w12.cell? ⟨gb297, 0, none⟩ = some (.slice A1_0 l1_0.length c1_0) := (blk_cell BK297.out 0).trans rfl; have hfz13_0 := blk_frozen BK297.out 0) | (go_at_call 54; (with_reducible refine (solve_right.calls k _ _ l0 _ _ l1_0 0 0 0 t300 _ ?side1 ?side2 ?side3 ?side4 A9.out).mono ?_); (case side1 => repeat (first | exact (Kd.C_below HR0.out HB.out) | (with_reducible refine Kd.C_alloc ?_ _) | (with_reducible refine Kd.C_drewN ?_ _) | (with_reducible refine Kd.C_drew ?_))); (case side2 => exact HC0.out); (case side3 => repeat (first | exact (Kd.C_below HR1_0.out HB.out) | (with_reducible refine Kd.C_alloc ?_ _) | (with_reducible refine Kd.C_drewN ?_ _) | (with_reducible refine Kd.C_drew ?_))); (case side4 => exact HC1_0.out); rintro e w14 ⟨rfl, hb⟩; have n0_ := Aside0.mk (blk_below (g := gb297) (o := .cells #[.slice A1_0 l1_0.length c1_0] 27 (0, 0)) (zk BK297) hb); have n1_ := Aside0.mk (below_step zB hb); clear BK297; clear HB; have BK297 := n0_; have HB := n1_; clear n0_ n1_; (try clear hb); (try clear hb2); (try clear hk); (try clear hi)))
   go_ret
   exact ⟨by first | rfl | (simp [errW_none, errW_some] <;> rfl) | (simp [*, errW_none, errW_some] <;> rfl), by repeat (first | (with_reducible first | exact HB.out | apply below_alloc | apply pw_below_drewN | apply below_drew1 | refine below_set ?_ GE297.out) | exact HB.out)⟩
  ·replace c8 := Bool.eq_false_iff.mpr c8
   subst c8
   have H1 : (some false) = some r := by rw [if_neg (show ¬ (false = true) by decide)] at H; exact H
   clear H
   have H := H1
   clear H1
   obtain rfl := Option.some.inj H
   go_wp2_with (first | ((with_reducible refine gate_callee (f := 46) rfl ?_); refine goesL_ (some 6) rfl rfl Try.func46 zK rfl #[.slice A0 l0.length c0] rfl zM ?_; (with_reducible refine (solve_valid.calls k _ _ l0 t298 _ ?side1 ?side2 A5.out).mono ?_); (case side1 => repeat (first | exact (Kd.C_below HR0.out HB.out) | (with_reducible refine Kd.C_alloc ?_ _) | (with_reducible refine Kd.C_drewN ?_ _) | (with_reducible refine Kd.C_drew ?_))); (case side2 => exact HC0.out); rintro e w15 ⟨rfl, hb⟩; refine ⟨_, rfl, ?_⟩; have n0_ := Aside0.mk (blk_below (g := gb297) (o := .cells #[.slice A1_0 l1_0.length c1_0] 27 (0, 0)) (zk BK297) hb); have n1_ := Aside0.mk (below_step zB hb); clear BK297; clear HB; have BK297 := n0_; have HB := n1_; clear n0_ n1_; (try clear hb); (try clear hb2); (try clear hk); (try clear hi); have hcz16_0 : w15.cell? ⟨gb297, 0, none⟩ = some (.slice A1_0 l1_0.length c1_0) := (blk_cell BK297.out 0).trans rfl; have hfz16_0 := blk_frozen BK297.out 0) | (go_at_call 53; (with_reducible refine (solve_shape.calls k _ _ l0 _ _ l1_0 false _ ?side1 ?side2 ?side3 ?side4 A7.out).mono ?_); (case side1 => repeat (first | exact (Kd.C_below HR0.out HB.out) | (with_reducible refine Kd.C_alloc ?_ _) | (with_reducible refine Kd.C_drewN ?_ _) | (with_reducible refine Kd.C_drew ?_))); (case side2 => exact HC0.out); (case side3 => repeat (first | exact (Kd.C_below HR1_0.out HB.out) | (with_reducible refine Kd.C_alloc ?_ _) | (with_reducible refine Kd.C_drewN ?_ _) | (with_reducible refine Kd.C_drew ?_))); (case side4 => exact HC1_0.out); rintro e w17 ⟨rfl, hb⟩; have n0_ := Aside0.mk (blk_below (g := gb297) (o := .cells #[.slice A1_0 l1_0.length c1_0] 27 (0, 0)) (zk BK297) hb); have n1_ := Aside0.mk (below_step zB hb); clear BK297; clear HB; have BK297 := n0_; have HB := n1_; clear n0_ n1_; (try clear hb); (try clear hb2); (try clear hk); (try clear hi)))
   go_ret
   exact ⟨by first | rfl | (simp [errW_none, errW_some] <;> rfl) | (simp [*, errW_none, errW_some] <;> rfl), by repeat (first | (with_reducible first | exact HB.out | apply below_alloc | apply pw_below_drewN | apply below_drew1 | refine below_set ?_ GE297.out) | exact HB.out)⟩
 ·rw [if_neg c6] at H
  have c6b0 : (t298 == 0) = false := beq_eq_false_iff_ne.mpr c6
  have c6b1 : (t298 != 0) = true := bne_iff_ne.mpr c6
  (first | rw [c6b0] | (simp only [i64_w, i32_w]; rw [c6b0]) | skip)
  (try rw [c6b1])
  obtain rfl := Option.some.inj H
  go_wp2_with (first | ((with_reducible refine gate_callee (f := 46) rfl ?_); refine goesL_ (some 6) rfl rfl Try.func46 zK rfl #[.slice A0 l0.length c0] rfl zM ?_; (with_reducible refine (solve_valid.calls k _ _ l0 t298 _ ?side1 ?side2 A5.out).mono ?_); (case side1 => repeat (first | exact (Kd.C_below HR0.out HB.out) | (with_reducible refine Kd.C_alloc ?_ _) | (with_reducible refine Kd.C_drewN ?_ _) | (with_reducible refine Kd.C_drew ?_))); (case side2 => exact HC0.out); rintro e w18 ⟨rfl, hb⟩; refine ⟨_, rfl, ?_⟩; have n0_ := Aside0.mk (blk_below (g := gb297) (o := .cells #[.slice A1_0 l1_0.length c1_0] 27 (0, 0)) (zk BK297) hb); have n1_ := Aside0.mk (below_step zB hb); clear BK297; clear HB; have BK297 := n0_; have HB := n1_; clear n0_ n1_; (try clear hb); (try clear hb2); (try clear hk); (try clear hi)))
  go_ret
  exact ⟨by first | rfl | (simp [errW_none, errW_some] <;> rfl) | (simp [*, errW_none, errW_some] <;> rfl), by repeat (first | (with_reducible first | exact HB.out | apply below_alloc | apply pw_below_drewN | apply below_drew1 | refine below_set ?_ GE297.out) | exact HB.out)⟩
/-! ### solve_First: function 19 -/
/-- What First says of all solutions. -/
def solve_First.of : List Int → Int × Int
 | [] => (0, 10)
 | x :: _ => (x, 0)
def solve_First.f (k : Nat) (l0 : List (S61)) : Option (Int × Int) := (solve_valid.f k l0).bind fun t268 => (if t268 = 0 then ((solve_occurring.f k l0).bind fun t269 => ((solve_search.f k l0 t269 0 0).bind fun s => some (solve_First.of s))) else (some (0, t268)))
theorem solve_First.mono : ∀ a0 k, LeO (solve_First.f k a0) (solve_First.f (k + 1) a0) := by
 intro a0 k
 unfold solve_First.f
 repeat' first
   | (with_reducible exact solve_occurring.mono _ _)
   | (with_reducible exact solve_valid.mono _ _)
   | (with_reducible exact LeO.refl _)
   | (with_reducible exact LeO.none _)
   | (with_reducible refine LeO.ite ?_ ?_)
   | (with_reducible refine LeO.bind ?_ (fun _ => ?_))
   | exact solve_occurring.mono _ _
   | exact solve_valid.mono _ _
   | exact solve_search.mono _ _ _ _ _
   | exact LeO.none _
   | refine LeO.ite ?_ ?_
   | refine LeO.bind ?_ (fun _ => ?_)
section
attribute [local go_sem] Oper.semAt_some
set_option maxHeartbeats 8000000 in
set_option maxRecDepth 100000 in
theorem solve_First.calls (k : Nat) (A0 : Option Addr) (c0 : Nat) (l0 : List (S61)) (r1 : Int) (r2 : Int) (w : World) (hr0 : Kd.C k61 w A0 l0.length l0) (hc0 : l0.length ≤ c0) (h : solve_First.f k l0 = some (r1, r2)) :
  Calls Try.prog 19 #[.slice A0 l0.length c0] w fun e w' => e = .returned (.tuple #[.int .i64 r1, .int .i64 r2]) ∧ Below w.heap.size w w' := by
 have hu3 := Try.underlying3
 have hu28 := Try.underlying28
 have hu68 := Try.underlying68
 have HR0 := Aside0.mk hr0
 have HC0 := Aside0.mk hc0
 clear hr0 hc0
 have HB := Aside0.mk (Below.refl w.heap.size w)
 have H : ((solve_valid.f k l0).bind fun t268 => (if t268 = 0 then ((solve_occurring.f k l0).bind fun t269 => ((solve_search.f k l0 t269 0 0).bind fun s => some (solve_First.of s))) else (some (0, t268)))) = some (r1, r2) := h
 clear h
 replace H := Option.bind_eq_some_iff.mp H
 obtain ⟨t268, A20, H⟩ := H
 replace H : (if t268 = 0 then ((solve_occurring.f k l0).bind fun t269 => ((solve_search.f k l0 t269 0 0).bind fun s => some (solve_First.of s))) else (some (0, t268))) = some (r1, r2) := H
 have A2 := Aside0.mk A20
 clear A20
 have HC3 := Aside0.mk H
 clear H
 refine (callsIn_wide (n := 5)).1 ?_
 refine callsIn_of_wp_marks Try.func19 rfl trivial ?_ rfl
 simp only [Try.ntmps19, List.size_toArray, List.length_cons, List.length_nil, Nat.reduceAdd, Nat.reduceSub, Array.replicate_succ, Array.replicate_zero, List.push_toArray, List.append_toArray, List.nil_append, List.cons_append]
 refine wpIn_wide.2 ?_
 go_upto_if 9 with (first | ((with_reducible refine gate_dst (N := 2) rfl ?_); refine box_event ?hg (N := 2) ?hd (cs := #[.int .i64 0]) (t := 3) ?hr ?_; (case hd => rfl); (case hg => rfl); (case hr => first | (go_simp; done) | (go_simp; rfl)); intro gb266 hg w4 hbox hb; have n0_ := Aside0.mk (below_step zB hb); have n1_ := Aside0.mk (hbox); have n2_ := Aside0.mk ((by rw [hg]; exact (below_size zB) : w.heap.size ≤ gb266)); have n3_ := Aside0.mk ((by rw [hg]; exact (below_size zB) : w.heap.size ≤ gb266)); clear HB; have HB := n0_; have BK266 := n1_; have GW266 := n2_; have GE266 := n3_; clear n0_ n1_ n2_ n3_; clear hb hbox hg) | ((with_reducible refine gate_dst (N := 3) rfl ?_); refine box_event ?hg (N := 3) ?hd (cs := #[.int .i64 0]) (t := 28) ?hr ?_; (case hd => rfl); (case hg => rfl); (case hr => first | (go_simp; done) | (go_simp; rfl)); intro gb267 hg w5 hbox hb; have n0_ := Aside0.mk (blk_below (g := gb266) (o := .cells #[.int .i64 0] 3 (0, 0)) (zk BK266) hb); have n1_ := Aside0.mk (below_step zB hb); have n2_ := Aside0.mk (hbox); have n3_ := Aside0.mk ((by rw [hg]; exact (below_size zB) : w.heap.size ≤ gb267)); have n4_ := Aside0.mk ((by rw [hg]; exact (below_size zB) : w.heap.size ≤ gb267)); have n5_ := Aside0.mk ((by rw [hg]; exact Nat.ne_of_lt (blk_lt (g := gb266) (o := .cells #[.int .i64 0] 3 (0, 0)) (zk BK266)) : gb266 ≠ gb267)); have n6_ := Aside0.mk ((by rw [hg]; exact Nat.ne_of_gt (blk_lt (g := gb266) (o := .cells #[.int .i64 0] 3 (0, 0)) (zk BK266)) : gb267 ≠ gb266)); clear BK266; clear HB; have BK266 := n0_; have HB := n1_; have BK267 := n2_; have GW267 := n3_; have GE267 := n4_; have NB266_267 := n5_; have NB267_266 := n6_; clear n0_ n1_ n2_ n3_ n4_ n5_ n6_; clear hb hbox hg) | ((with_reducible refine gate_callee (f := 46) rfl ?_); refine goesL_ (some 7) rfl rfl Try.func46 zK rfl #[.slice A0 l0.length c0] rfl zM ?_; (with_reducible refine (solve_valid.calls k _ _ l0 t268 _ ?side1 ?side2 A2.out).mono ?_); (case side1 => repeat (first | exact (Kd.C_below HR0.out HB.out) | (with_reducible refine Kd.C_alloc ?_ _) | (with_reducible refine Kd.C_drewN ?_ _) | (with_reducible refine Kd.C_drew ?_))); (case side2 => exact HC0.out); rintro e w6 ⟨rfl, hb⟩; refine ⟨_, rfl, ?_⟩; have n0_ := Aside0.mk (blk_below (g := gb266) (o := .cells #[.int .i64 0] 3 (0, 0)) (zk BK266) hb); have n1_ := Aside0.mk (blk_below (g := gb267) (o := .cells #[.int .i64 0] 28 (0, 0)) (zk BK267) hb); have n2_ := Aside0.mk (below_step zB hb); clear BK266; clear BK267; clear HB; have BK266 := n0_; have BK267 := n1_; have HB := n2_; clear n0_ n1_ n2_; (try clear hb); (try clear hb2); (try clear hk); (try clear hi)))
 (try simp only [Act.put, List.setIfInBounds_toArray, List.set_cons_zero, List.set_cons_succ])
 have H := HC3.out
 clear HC3
 by_cases c7 : t268 = 0
 ·rw [if_pos c7] at H
  have c7b0 : (t268 == 0) = true := beq_iff_eq.mpr c7
  have c7b1 : (t268 != 0) = false := bne_eq_false_iff_eq.mpr c7
  clear c7
  (first | rw [c7b0] | (simp only [i64_w, i32_w]; rw [c7b0]) | skip)
  (try rw [c7b1])
  replace H := Option.bind_eq_some_iff.mp H
  obtain ⟨t269, A80, H⟩ := H
  replace H : ((solve_search.f k l0 t269 0 0).bind fun s => some (solve_First.of s)) = some (r1, r2) := H
  have A8 := Aside0.mk A80
  clear A80
  replace H := Option.bind_eq_some_iff.mp H
  obtain ⟨s_, AS0, H⟩ := H
  have AS := Aside0.mk AS0
  clear AS0
  have HFS := Aside0.mk (Option.some.inj H)
  clear H
  have HLT266 := Aside0.mk (blk_lt BK266.out)
  have HLT267 := Aside0.mk (blk_lt BK267.out)
  go_wp2_with (first
   | ((with_reducible refine gate_callee (f := 47) rfl ?_); refine goesL_ (some 13) rfl rfl Try.func47 zK rfl #[.slice A0 l0.length c0] rfl zM ?_; (with_reducible refine (solve_occurring.calls k _ _ l0 t269 _ ?side1 ?side2 A8.out).mono ?_); (case side1 => repeat (first | exact (Kd.C_below HR0.out HB.out) | (with_reducible refine Kd.C_alloc ?_ _) | (with_reducible refine Kd.C_drewN ?_ _) | (with_reducible refine Kd.C_drew ?_))); (case side2 => exact HC0.out); rintro e w9 ⟨v270, rfl, ho0, hb⟩; refine ⟨_, rfl, ?_⟩; have hn6 := Aside0.mk hb.size; have n1_ := Aside0.mk (blk_below (g := gb266) (o := .cells #[.int .i64 0] 3 (0, 0)) (zk BK266) hb); have n2_ := Aside0.mk (blk_below (g := gb267) (o := .cells #[.int .i64 0] 28 (0, 0)) (zk BK267) hb); have n3_ := Aside0.mk (below_step zB hb); have n4_ := Aside0.mk ho0; have n5_ := Aside0.mk (below_size HB.out); clear BK266 BK267 HB hb ho0; have HO271 := n4_; have BK266 := n1_; have BK267 := n2_; have HB := n3_; have HS6 := n5_; clear n1_ n2_ n3_ n4_ n5_; obtain ⟨A270, c270, e270⟩ := Kd.R_slice HO271.out; subst e270))
  refine (solve_solutions.in_ A0 l0.length c0 A270 t269.length c270 0 0 _).mono ?_
  rintro e w10 ⟨g0, g1, g2, rfl, hg0, hg1, hs0, hs1, hs2, hb⟩
  have n0_ := Aside0.mk (Kd.R_below HO271.out hb)
  have n1_ := Aside0.mk (blk_below (g := gb266) (o := .cells #[.int .i64 0] 3 (0, 0)) (zk BK266) hb)
  have n2_ := Aside0.mk (blk_below (g := gb267) (o := .cells #[.int .i64 0] 28 (0, 0)) (zk BK267) hb)
  have n3_ := Aside0.mk (below_step zB hb)
  have hn9 := Aside0.mk hb.size
  have hc270 := Aside0.mk (Kd.R_reads' HO271.out).2.1
  clear BK266 BK267 HB HO271 hb hg0 hg1
  have HO271 := n0_
  have BK266 := n1_
  have BK267 := n2_
  have HB := n3_
  clear n0_ n1_ n2_ n3_
  go_wp2
  have h67 : w6.heap.size ≤ w10.heap.size := Nat.le_trans hn6.out hn9.out
  have hL : ∀ W', KpS w.heap.size w6.heap.size w10.heap.size w10 W' → Kd.C k61 W' A0 l0.length l0 := fun W' hk => Kd.C_kept_came k61_heap HR0.out HB.out (fun k hk => hk.1) W' hk.kept
  have hV : ∀ W', KpS w.heap.size w6.heap.size w10.heap.size w10 W' → Kd.C (Kd.int .i64) W' A270 t269.length t269 := fun W' hk => Kd.C_kept_own (Kd.R_bound HO271.out) (fun k hk hs => by have h_ := HS6.out; obtain ⟨_, h1, h2, _⟩ := hk; omega) W' hk.kept
  refine (wpIn_wide (n := 5)).1 ?_
  refine wpIn_rangeFunc_ownF (n := 5) rfl (by omega) (gf := 85) (lb := #[.pointer (some ⟨g0, 0, none⟩), .pointer (some ⟨g1, 0, none⟩), .pointer (some ⟨g2, 0, none⟩)]) rfl trivial (enters_of Try.func85 zK rfl)
   (solve_solutions_stops w.heap.size w6.heap.size w10.heap.size A0 c0 l0 HC0.out A270 c270 t269 hc270.out 0 0 g0 g1 g2 k s_ w10 (Nat.le_refl _) hL hV AS.out hs0 hs1 hs2)
   KpS.trans (fun W l o o' hl h ho _ => KpS.put (Nat.le_trans HS6.out h67) W l o o' hl h ho) (Below.refl _ _) (fun _ => rfl)
   (fun (pre : List Int) (W : World) => pre = [] ∧ W.heap[gb266]? = some (.cells #[.int .i64 0] 3 (0, 0)) ∧ W.heap[gb267]? = some (.cells #[.int .i64 0] 28 (0, 0)) ∧ Below w.heap.size w W)
   (fun c pre W => c = Code.ret ∧ ∃ x : Int, pre = [x] ∧ W.heap[gb266]? = some (.cells #[.int .i64 x] 3 (0, 0)) ∧ W.heap[gb267]? = some (.cells #[.int .i64 0] 28 (0, 0)) ∧ Below w.heap.size w W)
   (fun s A B row hs hg hr => ⟨hs.1, blk_grown hs.2.1 hg (ne_row_ hr hs.2.1), blk_grown hs.2.2.1 hg (ne_row_ hr hs.2.2.1), hs.2.2.2.grown hg hs.2.2.2.size (fun k e => Nat.le_trans HB.out.size (hr k e).1)⟩)
   (fun c s A B row hs hg hr => by
    obtain ⟨e1, x, e2, h1, h2, h3⟩ := hs
    exact ⟨e1, x, e2, blk_grown h1 hg (ne_row_ hr h1), blk_grown h2 hg (ne_row_ hr h2), h3.grown hg h3.size (fun k e => Nat.le_trans HB.out.size (hr k e).1)⟩)
   ⟨rfl, BK266.out, BK267.out, HB.out⟩
   (fun x => { tmps := #[.slice A0 l0.length c0, undef, .pointer (some ⟨gb266, 0, none⟩), .pointer (some ⟨gb267, 0, none⟩), .int .i64 t268, .int .i64 x, .slice A0 l0.length c0, .int .i64 t268, .int .i64 t268, .bool false, undef, .slice A0 l0.length c0, .slice A0 l0.length c0, .slice A270 t269.length c270, .agg #[.int .i64 0, .int .i64 0], .func (.func 85) #[] #[.pointer (some ⟨g0, 0, none⟩), .pointer (some ⟨g1, 0, none⟩), .pointer (some ⟨g2, 0, none⟩)], .int .i64 x, undef], defers := [] }) ?assign ?body ?done ?stop
  case assign =>
   intro l x W K hK
   gi_wp2
   exact hK
  case body =>
   rintro l pre x W ⟨rfl, hb1, hb2, hbl⟩ _
   have hcz0 : W.cell? ⟨gb266, 0, none⟩ = some (.int .i64 0) := (blk_cell hb1 0).trans rfl
   have hfz0 := blk_frozen hb1 0
   have hcz1 : W.cell? ⟨gb267, 0, none⟩ = some (.int .i64 0) := (blk_cell hb2 0).trans rfl
   have hfz1 := blk_frozen hb2 0
   have hnb := NB266_267.out
   have hnc := NB267_266.out
   gi_wp2
   have h2_ := two_set hb1 hb2 NB266_267.out (.int .i64 x) (.int .i64 0)
   exact ⟨two_keep _ _ _ _ _, rfl, x, rfl, h2_.1, h2_.2, below_set (below_set hbl GE266.out) GE267.out⟩
  case done =>
   rintro D ys W hD hys ⟨rfl, hb1, hb2, hbl⟩ hK
   have hcz0 : W.cell? ⟨gb266, 0, none⟩ = some (.int .i64 0) := (blk_cell hb1 0).trans rfl
   have hfz0 := blk_frozen hb1 0
   have hcz1 : W.cell? ⟨gb267, 0, none⟩ = some (.int .i64 0) := (blk_cell hb2 0).trans rfl
   have hfz1 := blk_frozen hb2 0
   have hnb := NB266_267.out
   have hnc := NB267_266.out
   have HKD := Aside0.mk hK
   clear hK
   go_wp2
   have h2_ := two_set hb1 hb2 NB266_267.out (.int .i64 0) (.int .i64 10)
   have hKD := (two_keep W gb266 gb267 (.int .i64 0) (.int .i64 10)).same D _ HKD.out rfl
   have hbl2 : Below w.heap.size w ((W.setCell ⟨gb266, 0, none⟩ (.int .i64 0)).setCell ⟨gb267, 0, none⟩ (.int .i64 10)) := below_set (below_set hbl GE266.out) GE267.out
   have e_ := HFS.out
   rw [← hys] at e_
   simp only [solve_First.of, Prod.mk.injEq] at e_
   obtain ⟨rfl, rfl⟩ := e_
   refine ⟨by simp, .inl ⟨_, _, rfl, run_takeDeferred hKD, ?_⟩⟩
   exact ⟨_, results_two rfl _ _ gb266 gb267 _ _ rfl rfl (run_loadVar_one _ _ 3 3 _ (0, 0) _ (blk_deferred h2_.1 hKD _) Try.underlying3 rfl) (run_loadVar_one _ _ 28 28 _ (0, 0) _ (blk_deferred h2_.2 hKD _) Try.underlying28 rfl), rfl, hbl2.grown (grownBy_putObj' _ D _) hbl2.size (fun k e => by cases e; exact Nat.le_trans HB.out.size hD)⟩
  case stop =>
   rintro D c pre W hD hSp ⟨rfl, x, rfl, hb1, hb2, hbl⟩ hK
   refine wpIn_wide.2 ?_
   go_wp2
   obtain ⟨z_, rfl⟩ := hSp
   have e_ := HFS.out
   simp only [solve_First.of, List.cons_append, List.nil_append, Prod.mk.injEq] at e_
   obtain ⟨rfl, rfl⟩ := e_
   refine ⟨by simp, .inl ⟨_, _, rfl, run_takeDeferred hK, ?_⟩⟩
   exact ⟨_, results_two rfl _ _ gb266 gb267 _ _ rfl rfl (run_loadVar_one _ _ 3 3 _ (0, 0) _ (blk_deferred hb1 hK _) Try.underlying3 rfl) (run_loadVar_one _ _ 28 28 _ (0, 0) _ (blk_deferred hb2 hK _) Try.underlying28 rfl), rfl, hbl.grown (grownBy_putObj' _ D _) hbl.size (fun k e => by cases e; exact Nat.le_trans HB.out.size hD)⟩
 ·rw [if_neg c7] at H
  have c7b0 : (t268 == 0) = false := beq_eq_false_iff_ne.mpr c7
  have c7b1 : (t268 != 0) = true := bne_iff_ne.mpr c7
  (first | rw [c7b0] | (simp only [i64_w, i32_w]; rw [c7b0]) | skip)
  (try rw [c7b1])
  simp only [Option.some.injEq, Prod.mk.injEq] at H
  obtain ⟨rfl, rfl⟩ := H
  have hnb13 := NB266_267.out
  have hnc13 := NB267_266.out
  have hcz14_0 : w6.cell? ⟨gb266, 0, none⟩ = some (.int .i64 0) := (blk_cell BK266.out 0).trans rfl
  have hfz14_0 := blk_frozen BK266.out 0
  have hcz15_0 : w6.cell? ⟨gb267, 0, none⟩ = some (.int .i64 0) := (blk_cell BK267.out 0).trans rfl
  have hfz15_0 := blk_frozen BK267.out 0
  go_wp2
  have h2_ := two_set BK266.out BK267.out NB266_267.out (.int .i64 0) (.int .i64 t268)
  exact ⟨_, results_two rfl _ _ gb266 gb267 _ _ rfl rfl (run_loadVar_one _ _ 3 3 _ (0, 0) _ h2_.1 Try.underlying3 rfl) (run_loadVar_one _ _ 28 28 _ (0, 0) _ h2_.2 Try.underlying28 rfl), rfl, below_set (below_set HB.out GE266.out) GE267.out⟩
end
end Go.Proofs.Ytbagnalcabdlhaa.S
