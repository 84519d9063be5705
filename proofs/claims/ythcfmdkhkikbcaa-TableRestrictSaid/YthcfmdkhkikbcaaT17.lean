-- Written by wip/tools/myprint.py, a program of this session's.
import Derived.Test.YthcfmdkhkikbcaaT0
import Derived.Test.YthcfmdkhkikbcaaT2
import Derived.Test.YthcfmdkhkikbcaaT5
import Derived.Test.YthcfmdkhkikbcaaT6
import Derived.Test.YthcfmdkhkikbcaaT7
import Derived.Test.YthcfmdkhkikbcaaT9
import Derived.Test.YthcfmdkhkikbcaaT16
namespace Go.Proofs.Ythcfmdkhkikbcaa.T
open Go.RowKit Go.Proofs.YthcfmdkhkikbcaaW.PrintWords Go.Proofs.YthcfmdkhkikbcaaW.PrintLast Go.Proofs.YthcfmdkhkikbcaaW.PrintMore
attribute [local go_sem] max2_int min2_int max_two min_two max_three min_three max_four min_four   -- for this text's walks alone
set_option linter.unusedVariables false
set_option linter.unusedSimpArgs false
/-! ### ancepsref38_Restrict: function 36 -/
mutual
def ancepsref38_Restrict.j0 : Nat → Int → Int → Bool → List Int → List Int → Option (List Int × List Int × Int)
 | 0, _, _, _, _, _ => none
 | k + 1, x1, x2, x22, x578000, x578001 => if x22 = true then (some (([] : List Int), ([] : List Int), 6)) else ((ancepsref38_in.f k x578000 x1).bind fun t580 => (if t580 = true then (ancepsref38_Restrict.l0 k x1 x2 0 x578000 x578001 x578000 ([] : List Int)) else (some (([] : List Int), ([] : List Int), 4))))
def ancepsref38_Restrict.l0 : Nat → Int → Int → Int → List Int → List Int → List Int → List Int → Option (List Int × List Int × Int)
 | 0, _, _, _, _, _, _, _ => none
 | k + 1, x1, x2, x10, x578000, x578001, x582000, x582001 => if x10 < (x578001.length : Int) then (if 0 ≤ x10 then ((ancepsref38_Assignment.f k x578000 (rd x578001 x10)).bind fun t583 => (if 0 ≤ x1 then (if (Int.tmod (shr .i64 t583 x1) 2) = x2 then (if x582001.length < 17592186044416 then (ancepsref38_Restrict.l0 k x1 x2 (wrap64 (x10 + 1)) x578000 x578001 x582000 (x582001 ++ [rd x578001 x10])) else (none)) else (ancepsref38_Restrict.l0 k x1 x2 (wrap64 (x10 + 1)) x578000 x578001 x582000 x582001)) else (none))) else (none)) else ((ancepsref38_without.f k x578000 x1).bind fun t588 => ((ancepsref38_projected.f k x582000 x582001 t588).bind fun bt591 => (some (bt591.1, bt591.2, 0))))
end
def ancepsref38_Restrict.f (k : Nat) (l0_0 : List Int) (l0_1 : List Int) (a1 : Int) (a2 : Int) : Option (List Int × List Int × Int) := (ancepsref38_Valid.f k l0_0 l0_1).bind fun t579 => (if t579 = 0 then (if a2 = 0 then (ancepsref38_Restrict.j0 k a1 a2 false l0_0 l0_1) else (ancepsref38_Restrict.j0 k a1 a2 (a2 != 1) l0_0 l0_1)) else (some (([] : List Int), ([] : List Int), t579)))
theorem ancepsref38_Restrict.mono_l : ∀ k, (∀ y0 y1 y2 y3 y4, LeO (ancepsref38_Restrict.j0 k y0 y1 y2 y3 y4) (ancepsref38_Restrict.j0 (k + 1) y0 y1 y2 y3 y4)) ∧ (∀ y0 y1 y2 y3 y4 y5 y6, LeO (ancepsref38_Restrict.l0 k y0 y1 y2 y3 y4 y5 y6) (ancepsref38_Restrict.l0 (k + 1) y0 y1 y2 y3 y4 y5 y6))
 | 0 => ⟨fun _ _ _ _ _ r h => by simp [ancepsref38_Restrict.j0] at h, fun _ _ _ _ _ _ _ r h => by simp [ancepsref38_Restrict.l0] at h⟩
 | k + 1 => by
  obtain ⟨ih0, ih1⟩ := ancepsref38_Restrict.mono_l k
  refine ⟨?_, ?_⟩
  ·intro y0 y1 y2 y3 y4
   unfold ancepsref38_Restrict.j0
   repeat' first
   | (with_reducible exact ih0 _ _ _ _ _)
   | (with_reducible exact ih1 _ _ _ _ _ _ _)
   | (with_reducible exact ancepsref38_Assignment.mono _ _ _)
   | (with_reducible exact ancepsref38_Valid.mono _ _ _)
   | (with_reducible exact ancepsref38_in.mono _ _ _)
   | (with_reducible exact ancepsref38_projected.mono _ _ _ _)
   | (with_reducible exact ancepsref38_without.mono _ _ _)
   | (with_reducible exact LeO.refl _)
   | (with_reducible exact LeO.none _)
   | (with_reducible refine LeO.ite ?_ ?_)
   | (with_reducible refine LeO.bind ?_ (fun _ => ?_))
   | exact ih0 _ _ _ _ _
   | exact ih1 _ _ _ _ _ _ _
   | exact ancepsref38_Assignment.mono _ _ _
   | exact ancepsref38_Valid.mono _ _ _
   | exact ancepsref38_in.mono _ _ _
   | exact ancepsref38_projected.mono _ _ _ _
   | exact ancepsref38_without.mono _ _ _
   | exact LeO.none _
   | refine LeO.ite ?_ ?_
   | refine LeO.bind ?_ (fun _ => ?_)
  ·intro y0 y1 y2 y3 y4 y5 y6
   unfold ancepsref38_Restrict.l0
   repeat' first
   | (with_reducible exact ih0 _ _ _ _ _)
   | (with_reducible exact ih1 _ _ _ _ _ _ _)
   | (with_reducible exact ancepsref38_Assignment.mono _ _ _)
   | (with_reducible exact ancepsref38_Valid.mono _ _ _)
   | (with_reducible exact ancepsref38_in.mono _ _ _)
   | (with_reducible exact ancepsref38_projected.mono _ _ _ _)
   | (with_reducible exact ancepsref38_without.mono _ _ _)
   | (with_reducible exact LeO.refl _)
   | (with_reducible exact LeO.none _)
   | (with_reducible refine LeO.ite ?_ ?_)
   | (with_reducible refine LeO.bind ?_ (fun _ => ?_))
   | exact ih0 _ _ _ _ _
   | exact ih1 _ _ _ _ _ _ _
   | exact ancepsref38_Assignment.mono _ _ _
   | exact ancepsref38_Valid.mono _ _ _
   | exact ancepsref38_in.mono _ _ _
   | exact ancepsref38_projected.mono _ _ _ _
   | exact ancepsref38_without.mono _ _ _
   | exact LeO.none _
   | refine LeO.ite ?_ ?_
   | refine LeO.bind ?_ (fun _ => ?_)
theorem ancepsref38_Restrict.mono : ∀ a0 a1 a2 a3 k, LeO (ancepsref38_Restrict.f k a0 a1 a2 a3) (ancepsref38_Restrict.f (k + 1) a0 a1 a2 a3) := by
 intro a0 a1 a2 a3 k
 obtain ⟨ih0, ih1⟩ := ancepsref38_Restrict.mono_l k
 unfold ancepsref38_Restrict.f
 repeat' first
   | (with_reducible exact ih0 _ _ _ _ _)
   | (with_reducible exact ih1 _ _ _ _ _ _ _)
   | (with_reducible exact ancepsref38_Assignment.mono _ _ _)
   | (with_reducible exact ancepsref38_Valid.mono _ _ _)
   | (with_reducible exact ancepsref38_in.mono _ _ _)
   | (with_reducible exact ancepsref38_projected.mono _ _ _ _)
   | (with_reducible exact ancepsref38_without.mono _ _ _)
   | (with_reducible exact LeO.refl _)
   | (with_reducible exact LeO.none _)
   | (with_reducible refine LeO.ite ?_ ?_)
   | (with_reducible refine LeO.bind ?_ (fun _ => ?_))
   | exact ih0 _ _ _ _ _
   | exact ih1 _ _ _ _ _ _ _
   | exact ancepsref38_Assignment.mono _ _ _
   | exact ancepsref38_Valid.mono _ _ _
   | exact ancepsref38_in.mono _ _ _
   | exact ancepsref38_projected.mono _ _ _ _
   | exact ancepsref38_without.mono _ _ _
   | exact LeO.none _
   | refine LeO.ite ?_ ?_
   | refine LeO.bind ?_ (fun _ => ?_)
def ancepsref38_Restrict.T12 : Bool × List (List Nat × List Nat) := (true, [([], []), ([0], [0]), ([], []), ([2], [2]), ([], []), ([3, 4], [3, 4]), ([5], [5]), ([1, 6], [1, 6]), ([], []), ([7, 8], [7, 8]), ([9], [9]), ([], []), ([10, 11], [10, 11])])
def ancepsref38_Restrict.B12 : List Nat := [0, 1, 0, 4, 0, 28, 60, 127, 0, 511, 1023, 0, 4095]
theorem ancepsref38_Restrict.tab12 : rtab .any (opsOf Try.f36 12) = ancepsref38_Restrict.T12 := by kernel_rfl
theorem ancepsref38_Restrict.bits12 : waitsOk ancepsref38_Restrict.T12.2 ancepsref38_Restrict.B12 = true := by kernel_rfl
def ancepsref38_Restrict.T13 : Bool × List (List Nat × List Nat) := (true, [([], []), ([0], [0]), ([], []), ([2], [2]), ([], []), ([3, 4], [3, 4]), ([5], [5]), ([6], [6]), ([1, 7], [1, 7]), ([0, 1, 2, 3, 4, 5, 6, 7, 8], []), ([9, 8, 8, 0, 1, 2, 3, 4, 5, 6, 7, 8], [8, 9])])
def ancepsref38_Restrict.B13 : List Nat := [0, 1, 0, 4, 0, 28, 60, 124, 255, 511, 1023]
theorem ancepsref38_Restrict.tab13 : rtab .any (opsOf Try.f36 13) = ancepsref38_Restrict.T13 := by kernel_rfl
theorem ancepsref38_Restrict.bits13 : waitsOk ancepsref38_Restrict.T13.2 ancepsref38_Restrict.B13 = true := by kernel_rfl
def ancepsref38_Restrict.T14 : Bool × List (List Nat × List Nat) := (true, [([], []), ([], []), ([1], [1]), ([], []), ([2, 3], [2, 3]), ([0, 4, 4], [0, 4]), ([5, 5, 0, 1, 2, 3, 4, 5], [5]), ([6, 0, 1, 2, 3, 4, 5, 6], [])])
def ancepsref38_Restrict.B14 : List Nat := [0, 0, 2, 0, 14, 31, 63, 127]
theorem ancepsref38_Restrict.tab14 : rtab .any (opsOf Try.f36 14) = ancepsref38_Restrict.T14 := by kernel_rfl
theorem ancepsref38_Restrict.bits14 : waitsOk ancepsref38_Restrict.T14.2 ancepsref38_Restrict.B14 = true := by kernel_rfl
set_option maxHeartbeats 8000000 in
set_option maxRecDepth 100000 in
theorem ancepsref38_Restrict.calls (k : Nat) (A0_0 : Option Addr) (c0_0 : Nat) (l0_0 : List Int) (A0_1 : Option Addr) (c0_1 : Nat) (l0_1 : List Int) (a1 : Int) (a2 : Int) (r1 : List Int) (r2 : List Int) (r3 : Int) (w : World) (hr0_0 : Kd.C (Kd.int .i64) w A0_0 l0_0.length l0_0) (hc0_0 : l0_0.length ≤ c0_0) (hr0_1 : Kd.C (Kd.int .i64) w A0_1 l0_1.length l0_1) (hc0_1 : l0_1.length ≤ c0_1) (h : ancepsref38_Restrict.f k l0_0 l0_1 a1 a2 = some (r1, r2, r3)) :
  Calls Try.prog 36 #[.agg #[.slice A0_0 l0_0.length c0_0, .slice A0_1 l0_1.length c0_1], .int .i64 a1, .int .i64 a2] w fun e w' => ∃ v0_ v1_ : Value, e = .returned (.tuple #[.agg #[v0_, v1_], .int .i64 r3]) ∧ Kd.R (Kd.int .i64) 3 w' w.heap.size (fun k_ => some k_ ≠ (v1_ : Value).ownBlock) v0_ r1 ∧ Kd.R (Kd.int .i64) 3 w' w.heap.size (fun k_ => some k_ ≠ (v0_ : Value).ownBlock) v1_ r2 ∧ Below w.heap.size w w' := by
 have hu29 := Try.underlying29
 have hu27 := Try.underlying27
 have hu3 := Try.underlying3
 have HR0_0 := Aside0.mk hr0_0
 have HC0_0 := Aside0.mk hc0_0
 clear hr0_0 hc0_0
 have HR0_1 := Aside0.mk hr0_1
 have HC0_1 := Aside0.mk hc0_1
 clear hr0_1 hc0_1
 have HB := Aside0.mk (Below.refl w.heap.size w)
 have H : ((ancepsref38_Valid.f k l0_0 l0_1).bind fun t579 => (if t579 = 0 then (if a2 = 0 then (ancepsref38_Restrict.j0 k a1 a2 false l0_0 l0_1) else (ancepsref38_Restrict.j0 k a1 a2 (a2 != 1) l0_0 l0_1)) else (some (([] : List Int), ([] : List Int), t579)))) = some (r1, r2, r3) := h
 clear h
 replace H := Option.bind_eq_some_iff.mp H
 obtain ⟨t579, A40, H⟩ := H
 replace H : (if t579 = 0 then (if a2 = 0 then (ancepsref38_Restrict.j0 k a1 a2 false l0_0 l0_1) else (ancepsref38_Restrict.j0 k a1 a2 (a2 != 1) l0_0 l0_1)) else (some (([] : List Int), ([] : List Int), t579))) = some (r1, r2, r3) := H
 have A4 := Aside0.mk A40
 clear A40
 have HC5 := Aside0.mk H
 clear H
 go_enter Try.func36, Try.ntmps36
 go_upto_if 14 with (first | ((with_reducible refine gate_dst (N := 3) rfl ?_); refine box_event ?hg (N := 3) ?hd (cs := #[.slice A0_0 l0_0.length c0_0, .slice A0_1 l0_1.length c0_1]) (t := 29) ?hr ?_; (case hd => rfl); (case hg => rfl); (case hr => first | (go_simp; done) | (go_simp; rfl)); intro gb577 hg w6 hbox hb; have n0_ := Aside0.mk (below_step zB hb); have n1_ := Aside0.mk (hbox); have n2_ := Aside0.mk ((by rw [hg]; exact (below_size zB) : w.heap.size ≤ gb577)); have n3_ := Aside0.mk ((by rw [hg]; exact (below_size zB) : w.heap.size ≤ gb577)); clear HB; have HB := n0_; have BK577 := n1_; have GW577 := n2_; have GE577 := n3_; clear n0_ n1_ n2_ n3_; clear hb hbox hg) | ((with_reducible refine gate_dst (N := 6) rfl ?_); refine box_event ?hg (N := 6) ?hd (cs := #[.slice none 0 0, .slice none 0 0]) (t := 29) ?hr ?_; (case hd => rfl); (case hg => rfl); (case hr => first | (go_simp; done) | (go_simp; rfl)); intro gb578 hg w7 hbox hb; have n0_ := Aside0.mk (blk_below (g := gb577) (o := .cells #[.slice A0_0 l0_0.length c0_0, .slice A0_1 l0_1.length c0_1] 29 (0, 0)) (zk BK577) hb); have n1_ := Aside0.mk (below_step zB hb); have n2_ := Aside0.mk (hbox); have n3_ := Aside0.mk ((by rw [hg]; exact (below_size zB) : w.heap.size ≤ gb578)); have n4_ := Aside0.mk ((by rw [hg]; exact (below_size zB) : w.heap.size ≤ gb578)); have n5_ := Aside0.mk ((by rw [hg]; exact Nat.ne_of_lt (blk_lt (g := gb577) (o := .cells #[.slice A0_0 l0_0.length c0_0, .slice A0_1 l0_1.length c0_1] 29 (0, 0)) (zk BK577)) : gb577 ≠ gb578)); have n6_ := Aside0.mk ((by rw [hg]; exact Nat.ne_of_gt (blk_lt (g := gb577) (o := .cells #[.slice A0_0 l0_0.length c0_0, .slice A0_1 l0_1.length c0_1] 29 (0, 0)) (zk BK577)) : gb578 ≠ gb577)); clear BK577; clear HB; have BK577 := n0_; have HB := n1_; have BK578 := n2_; have GW578 := n3_; have GE578 := n4_; have NB577_578 := n5_; have NB578_577 := n6_; clear n0_ n1_ n2_ n3_ n4_ n5_ n6_; clear hb hbox hg; have hnb8 := NB577_578.out; have hnc8 := NB578_577.out; have hcz9_0 : w7.cell? ⟨gb577, 0, none⟩ = some (.slice A0_0 l0_0.length c0_0) := (blk_cell BK577.out 0).trans rfl; have hcz9_1 : w7.cell? ⟨gb577, 1, none⟩ = some (.slice A0_1 l0_1.length c0_1) := (blk_cell BK577.out 1).trans rfl; have hfz9_0 := blk_frozen BK577.out 0; have hfz9_1 := blk_frozen BK577.out 1) | ((with_reducible refine gate_callee (f := 26) rfl ?_); refine goesL_ (some 12) rfl rfl Try.func26 zK rfl #[.agg #[.slice A0_0 l0_0.length c0_0, .slice A0_1 l0_1.length c0_1]] rfl zM ?_; (with_reducible refine (ancepsref38_Valid.calls k _ _ l0_0 _ _ l0_1 t579 _ ?side1 ?side2 ?side3 ?side4 A4.out).mono ?_); (case side1 => repeat (first | exact (Kd.C_below HR0_0.out HB.out) | (with_reducible refine Kd.C_alloc ?_ _) | (with_reducible refine Kd.C_drewN ?_ _) | (with_reducible refine Kd.C_drew ?_))); (case side2 => exact HC0_0.out); (case side3 => repeat (first | exact (Kd.C_below HR0_1.out HB.out) | (with_reducible refine Kd.C_alloc ?_ _) | (with_reducible refine Kd.C_drewN ?_ _) | (with_reducible refine Kd.C_drew ?_))); (case side4 => exact HC0_1.out); rintro e w10 ⟨rfl, hb⟩; refine ⟨_, rfl, ?_⟩; have n0_ := Aside0.mk (blk_below (g := gb577) (o := .cells #[.slice A0_0 l0_0.length c0_0, .slice A0_1 l0_1.length c0_1] 29 (0, 0)) (zk BK577) hb); have n1_ := Aside0.mk (blk_below (g := gb578) (o := .cells #[.slice none 0 0, .slice none 0 0] 29 (0, 0)) (zk BK578) hb); have n2_ := Aside0.mk (below_step zB hb); clear BK577; clear BK578; clear HB; have BK577 := n0_; have BK578 := n1_; have HB := n2_; clear n0_ n1_ n2_; (try clear hb); (try clear hb2); (try clear hk); (try clear hi)))
 (try simp only [Act.put, List.setIfInBounds_toArray, List.set_cons_zero, List.set_cons_succ])
 have H := HC5.out
 clear HC5
 by_cases c11 : t579 = 0
 ·rw [if_pos c11] at H
  have c11b0 : (t579 == 0) = true := beq_iff_eq.mpr c11
  have c11b1 : (t579 != 0) = false := bne_eq_false_iff_eq.mpr c11
  clear c11
  (first | rw [c11b0] | (simp only [i64_w, i32_w]; rw [c11b0]) | skip)
  (try rw [c11b1])
  have HC12 := Aside0.mk H
  clear H
  go_upto_region 4 with (fail)
  go_cut [22] (fun v22 wc => ∃ (kq : Nat) (x22_11 : Bool), v22 = .bool x22_11 ∧ Aside0 (ancepsref38_Restrict.j0 kq a1 a2 x22_11 l0_0 l0_1 = some (r1, r2, r3)) ∧ Aside0 (kq ≤ k) ∧ Aside0 (wc.heap[gb577]? = some (.cells #[(.slice A0_0 l0_0.length c0_0), (.slice A0_1 l0_1.length c0_1)] 29 (0, 0))) ∧ Aside0 (wc.heap[gb578]? = some (.cells #[(.slice none 0 0), (.slice none 0 0)] 29 (0, 0))) ∧ Aside0 (Below w.heap.size w wc))
  case first =>
   have H := HC12.out
   clear HC12
   by_cases c13 : a2 = 0
   ·rw [if_pos c13] at H
    have c13b0 : (a2 == 0) = true := beq_iff_eq.mpr c13
    have c13b1 : (a2 != 0) = false := bne_eq_false_iff_eq.mpr c13
    clear c13
    (first | rw [c13b0] | (simp only [i64_w, i32_w]; rw [c13b0]) | skip)
    (try rw [c13b1])
    have H' := Aside0.mk H
    clear H
    go_wp2
    go_meet
    case rel => exact ⟨_, (false), zT, H', ⟨by first | omega | exact Nat.le_refl _⟩, ⟨by (with_reducible repeat (first | refine blk_drewN ?_ _ | refine blk_drew ?_ | refine blk_alloc ?_ _)); exact BK577.out⟩, ⟨by (with_reducible repeat (first | refine blk_drewN ?_ _ | refine blk_drew ?_ | refine blk_alloc ?_ _)); exact BK578.out⟩, ⟨by repeat (first | (with_reducible first | exact HB.out | apply below_alloc | apply pw_below_drewN | apply below_drew1 | refine below_set ?_ GE577.out | refine below_set ?_ GE578.out) | exact HB.out)⟩⟩
   ·rw [if_neg c13] at H
    have c13b0 : (a2 == 0) = false := beq_eq_false_iff_ne.mpr c13
    have c13b1 : (a2 != 0) = true := bne_iff_ne.mpr c13
    (first | rw [c13b0] | (simp only [i64_w, i32_w]; rw [c13b0]) | skip)
    (try rw [c13b1])
    have H' := Aside0.mk H
    clear H
    go_wp2
    go_meet
    case rel => exact ⟨_, ((a2 != 1)), zT, H', ⟨by first | omega | exact Nat.le_refl _⟩, ⟨by (with_reducible repeat (first | refine blk_drewN ?_ _ | refine blk_drew ?_ | refine blk_alloc ?_ _)); exact BK577.out⟩, ⟨by (with_reducible repeat (first | refine blk_drewN ?_ _ | refine blk_drew ?_ | refine blk_alloc ?_ _)); exact BK578.out⟩, ⟨by repeat (first | (with_reducible first | exact HB.out | apply below_alloc | apply pw_below_drewN | apply below_drew1 | refine below_set ?_ GE577.out | refine below_set ?_ GE578.out) | exact HB.out)⟩⟩
  case rest =>
   clear HC12
   try clear c11
   try clear c11b0
   try clear c11b1
   try clear hcz9_0
   try clear hcz9_1
   try clear hfz9_0
   try clear hfz9_1
   obtain ⟨kq, x22_11, rfl, HA, HJ11, BK577, BK578, HB⟩ := hcut
   cases kq with
   | zero => exact absurd HA.out (by simp [ancepsref38_Restrict.j0])
   | succ kj11 =>
    have H := HA.out
    clear HA
    simp only [ancepsref38_Restrict.j0] at H
    by_cases c14 : x22_11 = true
    ·subst c14
     have H1 : (some (([] : List Int), ([] : List Int), 6)) = some (r1, r2, r3) := by rw [if_pos rfl] at H; exact H
     clear H
     have H := H1
     clear H1
     simp only [Option.some.injEq, Prod.mk.injEq] at H
     obtain ⟨rfl, rfl, rfl⟩ := H
     have hnb15 := NB578_577.out
     have hnc15 := NB577_578.out
     have hcz16_0 : wc.cell? ⟨gb578, 0, none⟩ = some (.slice none 0 0) := (blk_cell BK578.out 0).trans rfl
     have hcz16_1 : wc.cell? ⟨gb578, 1, none⟩ = some (.slice none 0 0) := (blk_cell BK578.out 1).trans rfl
     have hfz16_0 := blk_frozen BK578.out 0
     have hfz16_1 := blk_frozen BK578.out 1
     go_wp2
     refine bodyPost_ret (results_ct rfl _ _ gb578 29 #[.slice none 0 0, .slice none 0 0] (0, 0) _ rfl (by (with_reducible repeat (first | refine blk_drewN ?_ _ | refine blk_drew ?_ | refine blk_alloc ?_ _)); refine blk_put (cs := #[.slice none 0 0, .slice none 0 0]) ?_ 1 _ rfl; (with_reducible repeat (first | refine blk_drewN ?_ _ | refine blk_drew ?_ | refine blk_alloc ?_ _)); refine blk_put (cs := #[.slice none 0 0, .slice none 0 0]) ?_ 0 _ rfl; (with_reducible repeat (first | refine blk_drewN ?_ _ | refine blk_drew ?_ | refine blk_alloc ?_ _)); exact BK578.out) Try.underlying29 rfl zK) rfl ?_
     exact ⟨_, _, by first | rfl | (simp [errW_none, errW_some] <;> rfl) | (simp [*, errW_none, errW_some] <;> rfl), by first | exact Kd.R_nil _ _ _ _ _ | exact Kd.N_nil _ _ _ _ _ | exact Kd.V_nil _ _ _ _ _ | exact Kd.Q_nil _ _ _ _ _ | exact Kd.S_nil _ _ _ _ _, by first | exact Kd.R_nil _ _ _ _ _ | exact Kd.N_nil _ _ _ _ _ | exact Kd.V_nil _ _ _ _ _ | exact Kd.Q_nil _ _ _ _ _ | exact Kd.S_nil _ _ _ _ _, by repeat (first | (with_reducible first | exact HB.out | apply below_alloc | apply pw_below_drewN | apply below_drew1 | refine below_set ?_ GE577.out | refine below_set ?_ GE578.out) | exact HB.out)⟩
    ·replace c14 := Bool.eq_false_iff.mpr c14
     subst c14
     have H1 : ((ancepsref38_in.f kj11 l0_0 a1).bind fun t580 => (if t580 = true then (ancepsref38_Restrict.l0 kj11 a1 a2 0 l0_0 l0_1 l0_0 ([] : List Int)) else (some (([] : List Int), ([] : List Int), 4)))) = some (r1, r2, r3) := by rw [if_neg (show ¬ (false = true) by decide)] at H; exact H
     clear H
     have H := H1
     clear H1
     replace H := Option.bind_eq_some_iff.mp H
     obtain ⟨t580, A170, H⟩ := H
     replace H : (if t580 = true then (ancepsref38_Restrict.l0 kj11 a1 a2 0 l0_0 l0_1 l0_0 ([] : List Int)) else (some (([] : List Int), ([] : List Int), 4))) = some (r1, r2, r3) := H
     have A17 := Aside0.mk A170
     clear A170
     have HC18 := Aside0.mk H
     clear H
     have hnb19 := NB577_578.out
     have hnc19 := NB578_577.out
     have hcz20_0 : wc.cell? ⟨gb577, 0, none⟩ = some (.slice A0_0 l0_0.length c0_0) := (blk_cell BK577.out 0).trans rfl
     have hcz20_1 : wc.cell? ⟨gb577, 1, none⟩ = some (.slice A0_1 l0_1.length c0_1) := (blk_cell BK577.out 1).trans rfl
     have hfz20_0 := blk_frozen BK577.out 0
     have hfz20_1 := blk_frozen BK577.out 1
     go_upto_if 28 with (first | ((with_reducible refine gate_callee (f := 45) rfl ?_); refine goesL_ (some 27) rfl rfl Try.func45 zK rfl #[.slice A0_0 l0_0.length c0_0, .int .i64 a1] rfl zM ?_; (with_reducible refine (ancepsref38_in.calls kj11 _ _ l0_0 a1 t580 _ ?side1 ?side2 A17.out).mono ?_); (case side1 => repeat (first | exact (Kd.C_below HR0_0.out HB.out) | (with_reducible refine Kd.C_alloc ?_ _) | (with_reducible refine Kd.C_drewN ?_ _) | (with_reducible refine Kd.C_drew ?_))); (case side2 => exact HC0_0.out); rintro e w' ⟨rfl, ⟨nd, rfl⟩⟩; refine ⟨_, rfl, ?_⟩))
     (try simp only [Act.put, List.setIfInBounds_toArray, List.set_cons_zero, List.set_cons_succ])
     have H := HC18.out
     clear HC18
     by_cases c21 : t580 = true
     ·subst c21
      have H1 : (ancepsref38_Restrict.l0 kj11 a1 a2 0 l0_0 l0_1 l0_0 ([] : List Int)) = some (r1, r2, r3) := by rw [if_pos rfl] at H; exact H
      clear H
      have H := H1
      clear H1
      have H' := Aside0.mk H
      clear H
      have hnb22 := NB577_578.out
      have hnc22 := NB578_577.out
      have hcz23_0 : wc.cell? ⟨gb577, 0, none⟩ = some (.slice A0_0 l0_0.length c0_0) := (blk_cell BK577.out 0).trans rfl
      have hcz23_1 : wc.cell? ⟨gb577, 1, none⟩ = some (.slice A0_1 l0_1.length c0_1) := (blk_cell BK577.out 1).trans rfl
      have hfz23_0 := blk_frozen BK577.out 0
      have hfz23_1 := blk_frozen BK577.out 1
      go_wp2_with (first | ((with_reducible refine gate_dst (N := 9) rfl ?_); refine box_event ?hg (N := 9) ?hd (cs := #[.slice none 0 0, .slice none 0 0]) (t := 29) ?hr ?_; (case hd => rfl); (case hg => rfl); (case hr => first | (go_simp; done) | (go_simp; rfl)); intro gb581 hg w24 hbox hb; have n0_ := Aside0.mk (blk_below (g := gb577) (o := .cells #[.slice A0_0 l0_0.length c0_0, .slice A0_1 l0_1.length c0_1] 29 (0, 0)) (zk BK577) hb); have n1_ := Aside0.mk (blk_below (g := gb578) (o := .cells #[.slice none 0 0, .slice none 0 0] 29 (0, 0)) (zk BK578) hb); have n2_ := Aside0.mk (below_step zB hb); have n3_ := Aside0.mk (hbox); have n4_ := Aside0.mk ((by rw [hg]; exact (below_size zB) : w.heap.size ≤ gb581)); have n5_ := Aside0.mk ((by rw [hg]; exact (below_size zB) : w.heap.size ≤ gb581)); have n6_ := Aside0.mk ((by rw [hg]; exact Nat.ne_of_lt (blk_lt (g := gb577) (o := .cells #[.slice A0_0 l0_0.length c0_0, .slice A0_1 l0_1.length c0_1] 29 (0, 0)) (zk BK577)) : gb577 ≠ gb581)); have n7_ := Aside0.mk ((by rw [hg]; exact Nat.ne_of_gt (blk_lt (g := gb577) (o := .cells #[.slice A0_0 l0_0.length c0_0, .slice A0_1 l0_1.length c0_1] 29 (0, 0)) (zk BK577)) : gb581 ≠ gb577)); have n8_ := Aside0.mk ((by rw [hg]; exact Nat.ne_of_lt (blk_lt (g := gb578) (o := .cells #[.slice none 0 0, .slice none 0 0] 29 (0, 0)) (zk BK578)) : gb578 ≠ gb581)); have n9_ := Aside0.mk ((by rw [hg]; exact Nat.ne_of_gt (blk_lt (g := gb578) (o := .cells #[.slice none 0 0, .slice none 0 0] 29 (0, 0)) (zk BK578)) : gb581 ≠ gb578)); clear BK577; clear BK578; clear HB; have BK577 := n0_; have BK578 := n1_; have HB := n2_; have BK581 := n3_; have GW581 := n4_; have GE581 := n5_; have NB577_581 := n6_; have NB581_577 := n7_; have NB578_581 := n8_; have NB581_578 := n9_; clear n0_ n1_ n2_ n3_ n4_ n5_ n6_ n7_ n8_ n9_; clear hb hbox hg; have hnb25 := NB581_577.out; have hnc25 := NB577_581.out; have hnb26 := NB581_578.out; have hnc26 := NB578_581.out; have hcz27_0 : w24.cell? ⟨gb581, 0, none⟩ = some (.slice none 0 0) := (blk_cell BK581.out 0).trans rfl; have hcz27_1 : w24.cell? ⟨gb581, 1, none⟩ = some (.slice none 0 0) := (blk_cell BK581.out 1).trans rfl; have hfz27_0 := blk_frozen BK581.out 0; have hfz27_1 := blk_frozen BK581.out 1))
      go_loopg [10] kj11 (fun kq v10 w' => ∃ (x10_2 : Int) (x582001_2 : List Int) (u582001 : Value), v10 = .int .i64 x10_2 ∧ Aside0 (ancepsref38_Restrict.l0 kq a1 a2 x10_2 l0_0 l0_1 l0_0 x582001_2 = some (r1, r2, r3)) ∧ Aside0 (kq ≤ kj11) ∧ Aside0 (Kd.R (Kd.int .i64) 3 w' w.heap.size (fun _ => True) u582001 x582001_2) ∧ Aside0 (w'.heap[gb577]? = some (.cells #[(.slice A0_0 l0_0.length c0_0), (.slice A0_1 l0_1.length c0_1)] 29 (0, 0))) ∧ Aside0 (w'.heap[gb578]? = some (.cells #[(.slice none 0 0), (.slice none 0 0)] 29 (0, 0))) ∧ Aside0 (w'.heap[gb581]? = some (.cells #[(.slice A0_0 l0_0.length c0_0), u582001] 29 (0, 0))) ∧ Aside0 (Below w.heap.size w w'))
      case atStart => exact ⟨(0), (([] : List Int)), (.slice none 0 0), zT, H', ⟨Nat.le_refl _⟩, ⟨by first | exact Kd.R_nil _ _ _ _ _ | exact Kd.N_nil _ _ _ _ _ | exact Kd.V_nil _ _ _ _ _ | exact Kd.Q_nil _ _ _ _ _ | exact Kd.S_nil _ _ _ _ _⟩, ⟨by (with_reducible repeat (first | refine blk_drewN ?_ _ | refine blk_drew ?_ | refine blk_alloc ?_ _)); refine blk_far ?_ NB577_581.out _; (with_reducible repeat (first | refine blk_drewN ?_ _ | refine blk_drew ?_ | refine blk_alloc ?_ _)); refine blk_far ?_ NB577_581.out _; (with_reducible repeat (first | refine blk_drewN ?_ _ | refine blk_drew ?_ | refine blk_alloc ?_ _)); exact BK577.out⟩, ⟨by (with_reducible repeat (first | refine blk_drewN ?_ _ | refine blk_drew ?_ | refine blk_alloc ?_ _)); refine blk_far ?_ NB578_581.out _; (with_reducible repeat (first | refine blk_drewN ?_ _ | refine blk_drew ?_ | refine blk_alloc ?_ _)); refine blk_far ?_ NB578_581.out _; (with_reducible repeat (first | refine blk_drewN ?_ _ | refine blk_drew ?_ | refine blk_alloc ?_ _)); exact BK578.out⟩, ⟨by (with_reducible repeat (first | refine blk_drewN ?_ _ | refine blk_drew ?_ | refine blk_alloc ?_ _)); refine blk_put (cs := #[.slice A0_0 l0_0.length c0_0, .slice none 0 0]) ?_ 1 _ rfl; (with_reducible repeat (first | refine blk_drewN ?_ _ | refine blk_drew ?_ | refine blk_alloc ?_ _)); refine blk_put (cs := #[.slice none 0 0, .slice none 0 0]) ?_ 0 _ rfl; (with_reducible repeat (first | refine blk_drewN ?_ _ | refine blk_drew ?_ | refine blk_alloc ?_ _)); exact BK581.out⟩, ⟨by repeat (first | (with_reducible first | exact HB.out | apply below_alloc | apply pw_below_drewN | apply below_drew1 | refine below_set ?_ GE577.out | refine below_set ?_ GE578.out | refine below_set ?_ GE581.out) | exact HB.out)⟩⟩
      case round =>
       clear H'
       try clear c11
       try clear c11b0
       try clear c11b1
       try clear c14
       try clear c21
       try clear hcz20_0
       try clear hcz20_1
       try clear hcz23_0
       try clear hcz23_1
       try clear hcz27_0
       try clear hcz27_1
       try clear hcz9_0
       try clear hcz9_1
       try clear hfz20_0
       try clear hfz20_1
       try clear hfz23_0
       try clear hfz23_1
       try clear hfz27_0
       try clear hfz27_1
       try clear hfz9_0
       try clear hfz9_1
       obtain ⟨x10_2, x582001_2, u582001, rfl, HA, HK2, HO_582001, BK577, BK578, BK581, HB⟩ := hrel
       cases gk with
       | zero => exact absurd HA.out (by simp [ancepsref38_Restrict.l0])
       | succ k2 =>
        have H := HA.out
        clear HA
        simp only [ancepsref38_Restrict.l0] at H
        by_cases c28 : x10_2 < (l0_1.length : Int)
        ·rw [if_pos c28] at H
         have c28b0 : decide (x10_2 < (l0_1.length : Int)) = true := decide_eq_true c28
         clear c28
         (first | rw [c28b0] | (simp only [i64_w, i32_w]; rw [c28b0]) | skip)
         by_cases c29 : 0 ≤ x10_2
         ·rw [if_pos c29] at H
          have c29b0 : decide (0 ≤ x10_2) = true := decide_eq_true c29
          clear c29
          replace H := Option.bind_eq_some_iff.mp H
          obtain ⟨t583, A300, H⟩ := H
          replace H : (if 0 ≤ a1 then (if (Int.tmod (shr .i64 t583 a1) 2) = a2 then (if x582001_2.length < 17592186044416 then (ancepsref38_Restrict.l0 k2 a1 a2 (wrap64 (x10_2 + 1)) l0_0 l0_1 l0_0 (x582001_2 ++ [rd l0_1 x10_2])) else (none)) else (ancepsref38_Restrict.l0 k2 a1 a2 (wrap64 (x10_2 + 1)) l0_0 l0_1 l0_0 x582001_2)) else (none)) = some (r1, r2, r3) := H
          have A30 := Aside0.mk A300
          clear A300
          by_cases c31 : 0 ≤ a1
          ·rw [if_pos c31] at H
           have c31b0 := eq_true c31
           have c31b1 : decide (0 ≤ a1) = true := decide_eq_true c31
           clear c31
           obtain ⟨ji32, hji32⟩ : ∃ j_ : Int, (shr .i64 t583 a1) = j_ := ⟨_, rfl⟩
           replace H : (if (Int.tmod (ji32) 2) = a2 then (if x582001_2.length < 17592186044416 then (ancepsref38_Restrict.l0 k2 a1 a2 (wrap64 (x10_2 + 1)) l0_0 l0_1 l0_0 (x582001_2 ++ [rd l0_1 x10_2])) else (none)) else (ancepsref38_Restrict.l0 k2 a1 a2 (wrap64 (x10_2 + 1)) l0_0 l0_1 l0_0 x582001_2)) = some (r1, r2, r3) := by first | (rw [hji32] at H; exact H) | (simp only [hji32] at H ⊢; exact H)
           (try rw [hji32] at A30)
           have hji32_ : (t583 / 2 ^ min a1.toNat 64) = ji32 := hji32
           have hji32z : a1 ≤ 64 → (t583 / 2 ^ a1.toNat) = ji32 := shr_small hji32
           have HC33 := Aside0.mk H
           clear H
           have hnb34 := NB577_578.out
           have hnc34 := NB578_577.out
           have hnb35 := NB577_581.out
           have hnc35 := NB581_577.out
           have hcz36_0 : wr.cell? ⟨gb577, 0, none⟩ = some (.slice A0_0 l0_0.length c0_0) := (blk_cell BK577.out 0).trans rfl
           have hcz36_1 : wr.cell? ⟨gb577, 1, none⟩ = some (.slice A0_1 l0_1.length c0_1) := (blk_cell BK577.out 1).trans rfl
           have hfz36_0 := blk_frozen BK577.out 0
           have hfz36_1 := blk_frozen BK577.out 1
           try go_wp2
           have n0_ := Aside0.mk (Kd.R_drew HO_582001.out)
           have n1_ := Aside0.mk (blk_drew BK577.out)
           have n2_ := Aside0.mk (blk_drew BK578.out)
           have n3_ := Aside0.mk (blk_drew BK581.out)
           have n4_ := Aside0.mk (below_drew1 HB.out)
           clear HO_582001
           clear BK577
           clear BK578
           clear BK581
           clear HB
           have HO_582001 := n0_
           have BK577 := n1_
           have BK578 := n2_
           have BK581 := n3_
           have HB := n4_
           clear n0_ n1_ n2_ n3_ n4_
           have p582 : 0 ≤ (x10_2 : Int) := of_decide_eq_true zh
           have q582 : x10_2 < (l0_1.length : Int) := of_decide_eq_true zh
           obtain ⟨ad582, e582, hx582_0⟩ := Kd.at_int HR0_1.out x10_2 p582 q582
           have hw582_0 := hx582_0
           cases e582
           replace hx582_0 := (HB.out.cell (World.block_lt_of_cell? w _ hx582_0)).trans hx582_0
           replace p582 := eq_true p582
           replace q582 := eq_true q582
           refine start_ (n := 13) (S := fun w' => w'.cell? ⟨gb577, 0, none⟩ = some (.slice A0_0 l0_0.length c0_0) ∧ w'.cell? ⟨gb577, 1, none⟩ = some (.slice (some ad582) l0_1.length c0_1) ∧ w'.cell? (ad582.add (x10_2).toNat) = some (.int .i64 (rd l0_1 x10_2))) (ds := []) #[false, false, false, false, false, false, false, false, false, false, false, false, false] zK rfl rfl ⟨(blk_cell BK577.out 0).trans rfl, (blk_cell BK577.out 1).trans rfl, ((HB.out.cell (World.block_lt_of_cell? w _ hw582_0)).trans hw582_0)⟩ (fun hHeld => ?_); refine with_tabW ancepsref38_Restrict.tab12 ancepsref38_Restrict.bits12 (fun HT_ HW_ => ?_)
           generalize wr.drew = w37 at HO_582001 BK577 BK578 BK581 HB hx582_0 hHeld ⊢
           refine pure_ (i := 0) (N := some 40) (v := ?_) (a' := ?_) #[true, false, false, false, false, false, false, false, false, false, false, false, false] rfl rfl (any_of HT_.out zK) (fun _ _ _ h => h) (Or.inl ⟨by rfl, ?_⟩) ?_ ?_
           rotate_left
           ·intro w'
            go_simp
            with_reducible rfl
           rotate_left
           ·simp only [Act.put, List.setIfInBounds_toArray, List.set_cons_zero, List.set_cons_succ, i64_w, i32_w]
            rfl
           refine pure_ (i := 2) (N := some 42) (v := ?_) (a' := ?_) #[true, false, true, false, false, false, false, false, false, false, false, false, false] rfl rfl (any_of HT_.out zK) (fun _ _ _ h => h) (Or.inl ⟨by rfl, ?_⟩) ?_ ?_
           rotate_left
           ·intro w'
            go_simp
            with_reducible rfl
           rotate_left
           ·simp only [Act.put, List.setIfInBounds_toArray, List.set_cons_zero, List.set_cons_succ, i64_w, i32_w]
            rfl
           refine pure_ (i := 4) (N := some 44) (v := ?_) (a' := ?_) #[true, false, true, false, true, false, false, false, false, false, false, false, false] rfl rfl (any_of HT_.out zK) (fun _ _ _ h => h) (Or.inl ⟨by rfl, ?_⟩) ?_ ?_
           rotate_left
           ·intro w'
            go_simp
            with_reducible rfl
           rotate_left
           ·simp only [Act.put, List.setIfInBounds_toArray, List.set_cons_zero, List.set_cons_succ, i64_w, i32_w]
            rfl
           refine pure_ (i := 8) (N := some 48) (v := ?_) (a' := ?_) #[true, false, true, false, true, false, false, false, true, false, false, false, false] rfl rfl (any_of HT_.out zK) (fun _ _ _ h => h) (Or.inl ⟨by rfl, ?_⟩) ?_ ?_
           rotate_left
           ·intro w'
            go_simp
            with_reducible rfl
           rotate_left
           ·simp only [Act.put, List.setIfInBounds_toArray, List.set_cons_zero, List.set_cons_succ, i64_w, i32_w]
            rfl
           refine pure_ (i := 11) (N := some 51) (v := ?_) (a' := ?_) #[true, false, true, false, true, false, false, false, true, false, false, true, false] rfl rfl (any_of HT_.out zK) (fun _ _ _ h => h) (Or.inl ⟨by rfl, ?_⟩) ?_ ?_
           rotate_left
           ·intro w'
            go_simp
            with_reducible rfl
           rotate_left
           ·simp only [Act.put, List.setIfInBounds_toArray, List.set_cons_zero, List.set_cons_succ, i64_w, i32_w]
            rfl
           refine take_ (i := 1) (N := some 41) (v := ?_) (a' := ?_) #[true, true, true, false, true, false, false, false, true, false, false, true, false] rfl rfl (take_ofW HT_.out HW_.out zK) (fun _ _ _ h => h) (Or.inl ⟨by rfl, ?_⟩) hHeld ?_ ?_
           rotate_left
           ·rintro w' ⟨s0, s1, s2⟩
            go_simp
            with_reducible rfl
           rotate_left
           ·simp only [Act.put, List.setIfInBounds_toArray, List.set_cons_zero, List.set_cons_succ, i64_w, i32_w]
            rfl
           refine take_ (i := 3) (N := some 43) (v := ?_) (a' := ?_) #[true, true, true, true, true, false, false, false, true, false, false, true, false] rfl rfl (take_ofW HT_.out HW_.out zK) (fun _ _ _ h => h) (Or.inl ⟨by rfl, ?_⟩) hHeld ?_ ?_
           rotate_left
           ·rintro w' ⟨s0, s1, s2⟩
            go_simp
            with_reducible rfl
           rotate_left
           ·simp only [Act.put, List.setIfInBounds_toArray, List.set_cons_zero, List.set_cons_succ, i64_w, i32_w]
            rfl
           refine pure_ (i := 5) (N := some 45) (v := ?_) (a' := ?_) #[true, true, true, true, true, true, false, false, true, false, false, true, false] rfl rfl (any_of HT_.out zK) (fun _ _ _ h => h) (Or.inl ⟨by rfl, ?_⟩) ?_ ?_
           rotate_left
           ·intro w'
            go_simp
            with_reducible rfl
           rotate_left
           ·simp only [Act.put, List.setIfInBounds_toArray, List.set_cons_zero, List.set_cons_succ, i64_w, i32_w]
            rfl
           refine take_ (i := 6) (N := some 46) (v := ?_) (a' := ?_) #[true, true, true, true, true, true, true, false, true, false, false, true, false] rfl rfl (take_ofW HT_.out HW_.out zK) (fun _ _ _ h => h) (Or.inl ⟨by rfl, ?_⟩) hHeld ?_ ?_
           rotate_left
           ·rintro w' ⟨s0, s1, s2⟩
            go_simp
            with_reducible rfl
           rotate_left
           ·simp only [Act.put, List.setIfInBounds_toArray, List.set_cons_zero, List.set_cons_succ, i64_w, i32_w]
            rfl
           refine one_ (i := 7) (N := some 47) #[true, true, true, true, true, true, true, true, true, false, false, true, false] rfl rfl (one_of HT_.out zK) (by decide) (fun K hK => ?_)
           refine goes_ Try.func39 zK rfl #[.slice A0_0 l0_0.length c0_0, .int .i64 (rd l0_1 x10_2)] (by rfl) rfl rfl zM ?_
           with_reducible refine (ancepsref38_Assignment.calls k2 _ _ l0_0 (rd l0_1 x10_2) t583 _ ?side1 ?side2 A30.out).mono ?_
           (case side1 => repeat (first | exact (Kd.C_below HR0_0.out HB.out) | (with_reducible refine Kd.C_alloc ?_ _) | (with_reducible refine Kd.C_drewN ?_ _) | (with_reducible refine Kd.C_drew ?_)))
           (case side2 => exact HC0_0.out)
           rintro e w' ⟨rfl, ⟨nd, rfl⟩⟩
           refine ⟨_, rfl, ?_⟩
           refine hK.out _ _ ⟨(blk_cell BK577.out 0).trans rfl, (blk_cell BK577.out 1).trans rfl, ((HB.out.cell (World.block_lt_of_cell? w _ hw582_0)).trans hw582_0)⟩ (fun hHeld => ?_)
           clear hK K
           refine norm_ (a' := ?_) ?_ ?_
           rotate_left
           ·show Act.put _ (some 47) _ = _
            simp only [Act.put, List.setIfInBounds_toArray, List.set_cons_zero, List.set_cons_succ, i64_w, i32_w]
            rfl
           refine pure_ (i := 9) (N := some 49) (v := ?_) (a' := ?_) #[true, true, true, true, true, true, true, true, true, true, false, true, false] rfl rfl (any_of HT_.out zK) (fun _ _ _ h => h) (Or.inl ⟨by rfl, ?_⟩) ?_ ?_
           rotate_left
           ·intro w'
            go_simp
            with_reducible rfl
           rotate_left
           ·simp only [Act.put, List.setIfInBounds_toArray, List.set_cons_zero, List.set_cons_succ, i64_w, i32_w]
            rfl
           refine pure_ (i := 10) (N := some 50) (v := ?_) (a' := ?_) #[true, true, true, true, true, true, true, true, true, true, true, true, false] rfl rfl (any_of HT_.out zK) (fun _ _ _ h => h) (Or.inl ⟨by rfl, ?_⟩) ?_ ?_
           rotate_left
           ·intro w'
            go_simp
            with_reducible rfl
           rotate_left
           ·simp only [Act.put, List.setIfInBounds_toArray, List.set_cons_zero, List.set_cons_succ, i64_w, i32_w]
            rfl
           refine pure_ (i := 12) (N := some 52) (v := ?_) (a' := ?_) #[true, true, true, true, true, true, true, true, true, true, true, true, true] rfl rfl (any_of HT_.out zK) (fun _ _ _ h => h) (Or.inl ⟨by rfl, ?_⟩) ?_ ?_
           rotate_left
           ·intro w'
            go_simp
            with_reducible rfl
           rotate_left
           ·simp only [Act.put, List.setIfInBounds_toArray, List.set_cons_zero, List.set_cons_succ, i64_w, i32_w]
            rfl
           refine done_ (done_of HT_.out zK) ?_
           go_upto_if 52 with (fail)
           (try simp only [Act.put, List.setIfInBounds_toArray, List.set_cons_zero, List.set_cons_succ])
           have H := HC33.out
           clear HC33
           by_cases c38 : (Int.tmod (ji32) 2) = a2
           ·rw [if_pos c38] at H
            have c38b0 : ((Int.tmod (ji32) 2) == a2) = true := beq_iff_eq.mpr c38
            have c38b1 : ((Int.tmod (ji32) 2) != a2) = false := bne_eq_false_iff_eq.mpr c38
            clear c38
            (first | rw [c38b0] | (simp only [i64_w, i32_w]; rw [c38b0]) | skip)
            (try rw [c38b1])
            by_cases c39 : x582001_2.length < 17592186044416
            ·rw [if_pos c39] at H
             have LMc39 := Aside0.mk c39
             clear c39
             obtain ⟨y585, hy585⟩ : ∃ y_ : List Int, y_ = (x582001_2 ++ [rd l0_1 x10_2]) := ⟨_, rfl⟩
             replace H : (ancepsref38_Restrict.l0 k2 a1 a2 (wrap64 (x10_2 + 1)) l0_0 l0_1 l0_0 y585) = some (r1, r2, r3) := by first | (rw [hy585]; with_reducible exact H) | (have H2_ := (Option.bind_some _ _).symm.trans H; rw [hy585]; with_reducible exact H2_) | (have H2_ := (Option.bind_some _ _).symm.trans H; with_reducible exact H2_) | with_reducible exact H | (rw [hy585]; exact H) | exact H
             have Ny585 := Aside0.mk hy585
             clear hy585
             have H' := Aside0.mk H
             clear H
             try go_wp2
             (try (rw [drewN_self w37]; generalize hq_ : World.drewN w37 _ = w37; have n0_ : Aside0 (Kd.R (Kd.int .i64) 3 w37 w.heap.size (fun _ => True) u582001 x582001_2) := ⟨by rw [← hq_]; exact (zR HO_582001)⟩; have n1_ : Aside0 (w37.heap[gb577]? = some (.cells #[.slice A0_0 l0_0.length c0_0, .slice (some ad582) l0_1.length c0_1] 29 (0, 0))) := ⟨by rw [← hq_]; exact (zk BK577)⟩; have n2_ : Aside0 (w37.heap[gb578]? = some (.cells #[.slice none 0 0, .slice none 0 0] 29 (0, 0))) := ⟨by rw [← hq_]; exact (zk BK578)⟩; have n3_ : Aside0 (w37.heap[gb581]? = some (.cells #[.slice A0_0 l0_0.length c0_0, u582001] 29 (0, 0))) := ⟨by rw [← hq_]; exact (zk BK581)⟩; have n4_ : Aside0 (Below w.heap.size w w37) := ⟨by rw [← hq_]; exact zB⟩; clear HO_582001 BK577 BK578 BK581 HB hq_; have HO_582001 := n0_; have BK577 := n1_; have BK578 := n2_; have BK581 := n3_; have HB := n4_; clear n0_ n1_ n2_ n3_ n4_))
             have n0_ := Aside0.mk (Kd.R_drew HO_582001.out)
             have n1_ := Aside0.mk (blk_drew BK577.out)
             have n2_ := Aside0.mk (blk_drew BK578.out)
             have n3_ := Aside0.mk (blk_drew BK581.out)
             have n4_ := Aside0.mk (below_drew1 HB.out)
             clear HO_582001
             clear BK577
             clear BK578
             clear BK581
             clear HB
             have HO_582001 := n0_
             have BK577 := n1_
             have BK578 := n2_
             have BK581 := n3_
             have HB := n4_
             clear n0_ n1_ n2_ n3_ n4_
             have p584 : 0 ≤ (x10_2 : Int) := of_decide_eq_true zh
             have q584 : x10_2 < (l0_1.length : Int) := of_decide_eq_true zh
             obtain ⟨ad584, e584, hx584_0⟩ := Kd.at_int HR0_1.out x10_2 p584 q584
             have hw584_0 := hx584_0
             obtain rfl : ad582 = ad584 := (by injection e584)
             replace hx584_0 := (HB.out.cell (World.block_lt_of_cell? w _ hx584_0)).trans hx584_0
             replace p584 := eq_true p584
             replace q584 := eq_true q584
             refine start_ (n := 11) (S := fun w' => w'.cell? ⟨gb581, 0, none⟩ = some (.slice A0_0 l0_0.length c0_0) ∧ w'.cell? ⟨gb581, 1, none⟩ = some (u582001) ∧ w'.cell? ⟨gb577, 0, none⟩ = some (.slice A0_0 l0_0.length c0_0) ∧ w'.cell? ⟨gb577, 1, none⟩ = some (.slice (some ad582) l0_1.length c0_1) ∧ w'.cell? (ad582.add (x10_2).toNat) = some (.int .i64 (rd l0_1 x10_2))) (ds := [10]) #[false, false, false, false, false, false, false, false, false, false, false] zK rfl rfl ⟨(blk_cell BK581.out 0).trans rfl, (blk_cell BK581.out 1).trans rfl, (blk_cell BK577.out 0).trans rfl, (blk_cell BK577.out 1).trans rfl, ((HB.out.cell (World.block_lt_of_cell? w _ hw584_0)).trans hw584_0)⟩ (fun hHeld => ?_); refine with_tabW ancepsref38_Restrict.tab13 ancepsref38_Restrict.bits13 (fun HT_ HW_ => ?_)
             generalize w37.drew = w40 at HO_582001 BK577 BK578 BK581 HB hx584_0 hHeld ⊢
             refine pure_ (i := 0) (N := some 53) (v := ?_) (a' := ?_) #[true, false, false, false, false, false, false, false, false, false, false] rfl rfl (any_of HT_.out zK) (fun _ _ _ h => h) (Or.inl ⟨by rfl, ?_⟩) ?_ ?_
             rotate_left
             ·intro w'
              go_simp
              with_reducible rfl
             rotate_left
             ·simp only [Act.put, List.setIfInBounds_toArray, List.set_cons_zero, List.set_cons_succ, i64_w, i32_w]
              rfl
             refine pure_ (i := 2) (N := some 55) (v := ?_) (a' := ?_) #[true, false, true, false, false, false, false, false, false, false, false] rfl rfl (any_of HT_.out zK) (fun _ _ _ h => h) (Or.inl ⟨by rfl, ?_⟩) ?_ ?_
             rotate_left
             ·intro w'
              go_simp
              with_reducible rfl
             rotate_left
             ·simp only [Act.put, List.setIfInBounds_toArray, List.set_cons_zero, List.set_cons_succ, i64_w, i32_w]
              rfl
             refine pure_ (i := 4) (N := some 57) (v := ?_) (a' := ?_) #[true, false, true, false, true, false, false, false, false, false, false] rfl rfl (any_of HT_.out zK) (fun _ _ _ h => h) (Or.inl ⟨by rfl, ?_⟩) ?_ ?_
             rotate_left
             ·intro w'
              go_simp
              with_reducible rfl
             rotate_left
             ·simp only [Act.put, List.setIfInBounds_toArray, List.set_cons_zero, List.set_cons_succ, i64_w, i32_w]
              rfl
             refine take_ (i := 1) (N := some 54) (v := ?_) (a' := ?_) #[true, true, true, false, true, false, false, false, false, false, false] rfl rfl (take_ofW HT_.out HW_.out zK) (fun _ _ _ h => h) (Or.inl ⟨by rfl, ?_⟩) hHeld ?_ ?_
             rotate_left
             ·rintro w' ⟨s0, s1, s2, s3, s4⟩
              go_simp
              with_reducible rfl
             rotate_left
             ·simp only [Act.put, List.setIfInBounds_toArray, List.set_cons_zero, List.set_cons_succ, i64_w, i32_w]
              rfl
             refine take_ (i := 3) (N := some 56) (v := ?_) (a' := ?_) #[true, true, true, true, true, false, false, false, false, false, false] rfl rfl (take_ofW HT_.out HW_.out zK) (fun _ _ _ h => h) (Or.inl ⟨by rfl, ?_⟩) hHeld ?_ ?_
             rotate_left
             ·rintro w' ⟨s0, s1, s2, s3, s4⟩
              go_simp
              with_reducible rfl
             rotate_left
             ·simp only [Act.put, List.setIfInBounds_toArray, List.set_cons_zero, List.set_cons_succ, i64_w, i32_w]
              rfl
             refine pure_ (i := 5) (N := some 58) (v := ?_) (a' := ?_) #[true, true, true, true, true, true, false, false, false, false, false] rfl rfl (any_of HT_.out zK) (fun _ _ _ h => h) (Or.inl ⟨by rfl, ?_⟩) ?_ ?_
             rotate_left
             ·intro w'
              go_simp
              with_reducible rfl
             rotate_left
             ·simp only [Act.put, List.setIfInBounds_toArray, List.set_cons_zero, List.set_cons_succ, i64_w, i32_w]
              rfl
             refine take_ (i := 6) (N := some 59) (v := ?_) (a' := ?_) #[true, true, true, true, true, true, true, false, false, false, false] rfl rfl (take_ofW HT_.out HW_.out zK) (fun _ _ _ h => h) (Or.inl ⟨by rfl, ?_⟩) hHeld ?_ ?_
             rotate_left
             ·rintro w' ⟨s0, s1, s2, s3, s4⟩
              go_simp
              with_reducible rfl
             rotate_left
             ·simp only [Act.put, List.setIfInBounds_toArray, List.set_cons_zero, List.set_cons_succ, i64_w, i32_w]
              rfl
             refine one_ (i := 7) (N := some 60) #[true, true, true, true, true, true, true, true, false, false, false] rfl rfl (one_of HT_.out zK) (by decide) (fun K hK => ?_)
             refine value_ (w1 := ?_) (v := ?_) (by rfl) rfl ?_ ?_
             rotate_left 2
             ·go_simp
              constructor
              ·rfl
              ·rfl
             refine hK.out _ _ ⟨(blk_cell (blk_alloc BK581.out _) 0).trans rfl, (blk_cell (blk_alloc BK581.out _) 1).trans rfl, (blk_cell (blk_alloc BK577.out _) 0).trans rfl, (blk_cell (blk_alloc BK577.out _) 1).trans rfl, (World.cell?_alloc_lt _ _ _ (World.block_lt_of_cell? _ _ (((HB.out.cell (World.block_lt_of_cell? w _ hw584_0)).trans hw584_0)))).trans (((HB.out.cell (World.block_lt_of_cell? w _ hw584_0)).trans hw584_0))⟩ (fun hHeld => ?_)
             clear hK K
             refine norm_ (a' := ?_) ?_ ?_
             rotate_left
             ·show Act.put _ (some 60) _ = _
              simp only [Act.put, List.setIfInBounds_toArray, List.set_cons_zero, List.set_cons_succ, i64_w, i32_w]
              rfl
             refine one_ (i := 8) (N := some 61) #[true, true, true, true, true, true, true, true, true, false, false] rfl rfl (one_of HT_.out zK) (by decide) (fun K hK => ?_)
             refine Kd.R_append_step (Kd.int .i64) (w0 := w) w.heap.size (by rfl) (.tmp 54) (.tmp 60) 27 3 (.int .i64 0) 8 rfl Try.underlying27 info3 rfl (by decide) (by omega) u582001 x582001_2 (rd l0_1 x10_2) [.int .i64 (rd l0_1 x10_2)] (fun _ => True) (fun _ => False) rfl rfl ?aP (fun _ hk => hk.elim) ?aF ?aO ?aB ?aS ?aL ?_
             (case aP => exact rfl)
             (case aB => exact zB)
             (case aF => exact (fun _ _ => trivial))
             (case aO => exact (zR HO_582001))
             (case aS => exact (below_size zB))
             (case aL => have := LMc39.out; omega)
             intro v586 w41 ho hb hg hat
             rw [← Ny585.out] at ho
             have n0_ := Aside0.mk (blk_grown (g := gb577) (o := .cells #[.slice A0_0 l0_0.length c0_0, .slice (some ad582) l0_1.length c0_1] 29 (0, 0)) (zk BK577) hg (Kd.R_ne HO_582001.out BK577.out (by decide)))
             have n1_ := Aside0.mk (blk_grown (g := gb578) (o := .cells #[.slice none 0 0, .slice none 0 0] 29 (0, 0)) (zk BK578) hg (Kd.R_ne HO_582001.out BK578.out (by decide)))
             have n2_ := Aside0.mk (blk_grown (g := gb581) (o := .cells #[.slice A0_0 l0_0.length c0_0, u582001] 29 (0, 0)) (zk BK581) hg (Kd.R_ne HO_582001.out BK581.out (by decide)))
             have n3_ := Aside0.mk (hb)
             have n4_ := Aside0.mk (ho)
             clear BK577
             clear BK578
             clear BK581
             clear HB
             clear HO_582001
             have BK577 := n0_
             have BK578 := n1_
             have BK581 := n2_
             have HB := n3_
             have HO587 := n4_
             clear n0_ n1_ n2_ n3_ n4_
             clear ho hb hg hat
             obtain ⟨Ao42, co42, eo42⟩ := Kd.R_slice HO587.out
             (first | subst eo42 | (injection eo42 with f1_ f2_ f3_; have f4_ := f1_.symm; have f5_ := f3_.symm; clear f1_ f2_ f3_; subst f4_; subst f5_))
             refine hK.out _ _ ⟨(blk_cell BK581.out 0).trans rfl, (blk_cell BK581.out 1).trans rfl, (blk_cell BK577.out 0).trans rfl, (blk_cell BK577.out 1).trans rfl, ((HB.out.cell (World.block_lt_of_cell? w _ hw584_0)).trans hw584_0)⟩ (fun hHeld => ?_)
             clear hK K
             refine norm_ (a' := ?_) ?_ ?_
             rotate_left
             ·show Act.put _ (some 61) _ = _
              simp only [Act.put, List.setIfInBounds_toArray, List.set_cons_zero, List.set_cons_succ, i64_w, i32_w]
              rfl
             refine pure_ (i := 9) (N := some 62) (v := ?_) (a' := ?_) #[true, true, true, true, true, true, true, true, true, true, false] rfl rfl (any_of HT_.out zK) (fun _ _ _ h => h) (Or.inl ⟨by rfl, ?_⟩) ?_ ?_
             rotate_left
             ·intro w'
              go_simp
              with_reducible rfl
             rotate_left
             ·simp only [Act.put, List.setIfInBounds_toArray, List.set_cons_zero, List.set_cons_succ, i64_w, i32_w]
              rfl
             refine last_ (i := 10) (N := none) #[true, true, true, true, true, true, true, true, true, true, true] rfl rfl (one_of HT_.out zK) (by decide) (fun K hK => ?_)
             have hs43 : w41.cell? ⟨gb581, 1, none⟩ = some (u582001) := (blk_cell BK581.out 1).trans rfl
             have hfs43 := blk_frozen BK581.out 1
             have hns43_0 := NB577_581.out
             have hns43_1 := NB578_581.out
             have hms43_0 := NB581_577.out
             have hms43_1 := NB581_578.out
             refine skip_ (w1 := ?_) (by rfl) rfl ?_ ?_
             rotate_left
             ·go_simp
              rfl
             refine hK.out _ _ ?_
             clear hK K
             refine done_ (done_of HT_.out zK) ?_
             try go_wp2
             go_roundg k2
             case measure => have := HJ11.out; have := HK2.out; omega
             case rel => exact ⟨(wrap64 (x10_2 + 1)), (y585), (.slice Ao42 y585.length co42), zT, H', ⟨by have := HJ11.out; have := HK2.out; omega⟩, ⟨by (with_reducible repeat (first | apply Kd.R_alloc | apply Kd.R_drewN | apply Kd.R_drew)); exact Kd.R_mono (Kd.R_far (p := ⟨gb581, 1, none⟩) (Kd.R_types HO587.out BK581.out (by decide)) (fun _ hk => hk.2) (.slice Ao42 y585.length co42)) (fun _ hk => trivial)⟩, ⟨by (with_reducible repeat (first | refine blk_drewN ?_ _ | refine blk_drew ?_ | refine blk_alloc ?_ _)); refine blk_far ?_ NB577_581.out _; (with_reducible repeat (first | refine blk_drewN ?_ _ | refine blk_drew ?_ | refine blk_alloc ?_ _)); exact BK577.out⟩, ⟨by (with_reducible repeat (first | refine blk_drewN ?_ _ | refine blk_drew ?_ | refine blk_alloc ?_ _)); refine blk_far ?_ NB578_581.out _; (with_reducible repeat (first | refine blk_drewN ?_ _ | refine blk_drew ?_ | refine blk_alloc ?_ _)); exact BK578.out⟩, ⟨by (with_reducible repeat (first | refine blk_drewN ?_ _ | refine blk_drew ?_ | refine blk_alloc ?_ _)); refine blk_put (cs := #[.slice A0_0 l0_0.length c0_0, u582001]) ?_ 1 _ rfl; (with_reducible repeat (first | refine blk_drewN ?_ _ | refine blk_drew ?_ | refine blk_alloc ?_ _)); exact BK581.out⟩, ⟨by repeat (first | (with_reducible first | exact HB.out | apply below_alloc | apply pw_below_drewN | apply below_drew1 | refine below_set ?_ GE577.out | refine below_set ?_ GE578.out | refine below_set ?_ GE581.out) | exact HB.out)⟩⟩
            ·rw [if_neg c39] at H
             exact absurd H (by simp)
           ·rw [if_neg c38] at H
            have c38b0 : ((Int.tmod (ji32) 2) == a2) = false := beq_eq_false_iff_ne.mpr c38
            have c38b1 : ((Int.tmod (ji32) 2) != a2) = true := bne_iff_ne.mpr c38
            (first | rw [c38b0] | (simp only [i64_w, i32_w]; rw [c38b0]) | skip)
            (try rw [c38b1])
            have H' := Aside0.mk H
            clear H
            go_wp2
            go_roundg k2
            case measure => have := HJ11.out; have := HK2.out; omega
            case rel => exact ⟨(wrap64 (x10_2 + 1)), (x582001_2), (u582001), zT, H', ⟨by have := HJ11.out; have := HK2.out; omega⟩, ⟨by (with_reducible repeat (first | apply Kd.R_alloc | apply Kd.R_drewN | apply Kd.R_drew)); exact HO_582001.out⟩, ⟨by (with_reducible repeat (first | refine blk_drewN ?_ _ | refine blk_drew ?_ | refine blk_alloc ?_ _)); exact BK577.out⟩, ⟨by (with_reducible repeat (first | refine blk_drewN ?_ _ | refine blk_drew ?_ | refine blk_alloc ?_ _)); exact BK578.out⟩, ⟨by (with_reducible repeat (first | refine blk_drewN ?_ _ | refine blk_drew ?_ | refine blk_alloc ?_ _)); exact BK581.out⟩, ⟨by repeat (first | (with_reducible first | exact HB.out | apply below_alloc | apply pw_below_drewN | apply below_drew1 | refine below_set ?_ GE577.out | refine below_set ?_ GE578.out | refine below_set ?_ GE581.out) | exact HB.out)⟩⟩
          ·rw [if_neg c31] at H
           exact absurd H (by simp)
         ·rw [if_neg c29] at H
          exact absurd H (by simp)
        ·rw [if_neg c28] at H
         have c28b0 : decide (x10_2 < (l0_1.length : Int)) = false := decide_eq_false c28
         clear c28
         (first | rw [c28b0] | (simp only [i64_w, i32_w]; rw [c28b0]) | skip)
         replace H := Option.bind_eq_some_iff.mp H
         obtain ⟨t588, A440, H⟩ := H
         replace H : ((ancepsref38_projected.f k2 l0_0 x582001_2 t588).bind fun bt591 => (some (bt591.1, bt591.2, 0))) = some (r1, r2, r3) := H
         have A44 := Aside0.mk A440
         clear A440
         replace H := Option.bind_eq_some_iff.mp H
         obtain ⟨⟨t591, t594⟩, A450, H⟩ := H
         replace H : (some (t591, t594, 0)) = some (r1, r2, r3) := H
         have A45 := Aside0.mk A450
         clear A450
         simp only [Option.some.injEq, Prod.mk.injEq] at H
         obtain ⟨rfl, rfl, rfl⟩ := H
         have hnb46 := NB577_578.out
         have hnc46 := NB578_577.out
         have hnb47 := NB577_581.out
         have hnc47 := NB581_577.out
         have hcz48_0 : wr.cell? ⟨gb577, 0, none⟩ = some (.slice A0_0 l0_0.length c0_0) := (blk_cell BK577.out 0).trans rfl
         have hcz48_1 : wr.cell? ⟨gb577, 1, none⟩ = some (.slice A0_1 l0_1.length c0_1) := (blk_cell BK577.out 1).trans rfl
         have hfz48_0 := blk_frozen BK577.out 0
         have hfz48_1 := blk_frozen BK577.out 1
         try go_wp2
         have n0_ := Aside0.mk (Kd.R_drew HO_582001.out)
         have n1_ := Aside0.mk (blk_drew BK577.out)
         have n2_ := Aside0.mk (blk_drew BK578.out)
         have n3_ := Aside0.mk (blk_drew BK581.out)
         have n4_ := Aside0.mk (below_drew1 HB.out)
         clear HO_582001
         clear BK577
         clear BK578
         clear BK581
         clear HB
         have HO_582001 := n0_
         have BK577 := n1_
         have BK578 := n2_
         have BK581 := n3_
         have HB := n4_
         clear n0_ n1_ n2_ n3_ n4_
         refine start_ (n := 8) (S := fun w' => w'.cell? ⟨gb581, 0, none⟩ = some (.slice A0_0 l0_0.length c0_0) ∧ w'.cell? ⟨gb581, 1, none⟩ = some (u582001) ∧ w'.cell? ⟨gb577, 0, none⟩ = some (.slice A0_0 l0_0.length c0_0) ∧ w'.cell? ⟨gb577, 1, none⟩ = some (.slice A0_1 l0_1.length c0_1)) (ds := []) #[false, false, false, false, false, false, false, false] zK rfl rfl ⟨(blk_cell BK581.out 0).trans rfl, (blk_cell BK581.out 1).trans rfl, (blk_cell BK577.out 0).trans rfl, (blk_cell BK577.out 1).trans rfl⟩ (fun hHeld => ?_); refine with_tabW ancepsref38_Restrict.tab14 ancepsref38_Restrict.bits14 (fun HT_ HW_ => ?_)
         generalize wr.drew = w49 at HO_582001 BK577 BK578 BK581 HB hHeld ⊢
         refine pure_ (i := 1) (N := some 64) (v := ?_) (a' := ?_) #[false, true, false, false, false, false, false, false] rfl rfl (any_of HT_.out zK) (fun _ _ _ h => h) (Or.inl ⟨by rfl, ?_⟩) ?_ ?_
         rotate_left
         ·intro w'
          go_simp
          with_reducible rfl
         rotate_left
         ·simp only [Act.put, List.setIfInBounds_toArray, List.set_cons_zero, List.set_cons_succ, i64_w, i32_w]
          rfl
         refine pure_ (i := 3) (N := some 66) (v := ?_) (a' := ?_) #[false, true, false, true, false, false, false, false] rfl rfl (any_of HT_.out zK) (fun _ _ _ h => h) (Or.inl ⟨by rfl, ?_⟩) ?_ ?_
         rotate_left
         ·intro w'
          go_simp
          with_reducible rfl
         rotate_left
         ·simp only [Act.put, List.setIfInBounds_toArray, List.set_cons_zero, List.set_cons_succ, i64_w, i32_w]
          rfl
         refine take_ (i := 0) (N := some 63) (v := ?_) (a' := ?_) #[true, true, false, true, false, false, false, false] rfl rfl (take_ofW HT_.out HW_.out zK) (fun _ _ _ h => h) (Or.inl ⟨by rfl, ?_⟩) hHeld ?_ ?_
         rotate_left
         ·rintro w' ⟨s0, s1, s2, s3⟩
          go_simp
          with_reducible rfl
         rotate_left
         ·simp only [Act.put, List.setIfInBounds_toArray, List.set_cons_zero, List.set_cons_succ, i64_w, i32_w]
          rfl
         refine take_ (i := 2) (N := some 65) (v := ?_) (a' := ?_) #[true, true, true, true, false, false, false, false] rfl rfl (take_ofW HT_.out HW_.out zK) (fun _ _ _ h => h) (Or.inl ⟨by rfl, ?_⟩) hHeld ?_ ?_
         rotate_left
         ·rintro w' ⟨s0, s1, s2, s3⟩
          go_simp
          with_reducible rfl
         rotate_left
         ·simp only [Act.put, List.setIfInBounds_toArray, List.set_cons_zero, List.set_cons_succ, i64_w, i32_w]
          rfl
         refine one_ (i := 4) (N := some 67) #[true, true, true, true, true, false, false, false] rfl rfl (one_of HT_.out zK) (by decide) (fun K hK => ?_)
         refine goes_ Try.func62 zK rfl #[.slice A0_0 l0_0.length c0_0, .int .i64 a1] (by rfl) rfl rfl zM ?_
         with_reducible refine (ancepsref38_without.calls k2 _ _ l0_0 a1 t588 _ ?side1 ?side2 A44.out).mono ?_
         (case side1 => repeat (first | exact (Kd.C_below HR0_0.out HB.out) | (with_reducible refine Kd.C_alloc ?_ _) | (with_reducible refine Kd.C_drewN ?_ _) | (with_reducible refine Kd.C_drew ?_)))
         (case side2 => exact HC0_0.out)
         rintro e w50 ⟨v589, rfl, ho0, hb⟩
         refine ⟨_, rfl, ?_⟩
         have n0_ := Aside0.mk (Kd.R_elder' (zR HO_582001) (Kd.R_base ho0) hb)
         have n1_ := Aside0.mk (Kd.R_lower (Kd.R_new' ho0 (Kd.R_lt (zR HO_582001))) (below_size zB))
         have n2_ := Aside0.mk (blk_below (g := gb577) (o := .cells #[.slice A0_0 l0_0.length c0_0, .slice A0_1 l0_1.length c0_1] 29 (0, 0)) (zk BK577) hb)
         have n3_ := Aside0.mk (blk_below (g := gb578) (o := .cells #[.slice none 0 0, .slice none 0 0] 29 (0, 0)) (zk BK578) hb)
         have n4_ := Aside0.mk (blk_below (g := gb581) (o := .cells #[.slice A0_0 l0_0.length c0_0, u582001] 29 (0, 0)) (zk BK581) hb)
         have n5_ := Aside0.mk (below_step zB hb)
         clear HO_582001
         clear BK577
         clear BK578
         clear BK581
         clear HB
         have HO_582001 := n0_
         have HO590 := n1_
         have BK577 := n2_
         have BK578 := n3_
         have BK581 := n4_
         have HB := n5_
         clear n0_ n1_ n2_ n3_ n4_ n5_
         (try clear hb)
         (try clear hb2)
         (try clear hk)
         (try clear hi)
         (try clear ho0)
         obtain ⟨Ao51, co51, eo51⟩ := Kd.R_slice HO_582001.out
         (first | subst eo51 | (injection eo51 with f1_ f2_ f3_; have f4_ := f1_.symm; have f5_ := f3_.symm; clear f1_ f2_ f3_; subst f4_; subst f5_))
         obtain ⟨Ao52, co52, eo52⟩ := Kd.R_slice HO590.out
         (first | subst eo52 | (injection eo52 with f1_ f2_ f3_; have f4_ := f1_.symm; have f5_ := f3_.symm; clear f1_ f2_ f3_; subst f4_; subst f5_))
         refine hK.out _ _ ⟨(blk_cell BK581.out 0).trans rfl, (blk_cell BK581.out 1).trans rfl, (blk_cell BK577.out 0).trans rfl, (blk_cell BK577.out 1).trans rfl⟩ (fun hHeld => ?_)
         clear hK K
         refine norm_ (a' := ?_) ?_ ?_
         rotate_left
         ·show Act.put _ (some 67) _ = _
          simp only [Act.put, List.setIfInBounds_toArray, List.set_cons_zero, List.set_cons_succ, i64_w, i32_w]
          rfl
         refine one_ (i := 5) (N := some 68) #[true, true, true, true, true, true, false, false] rfl rfl (one_of HT_.out zK) (by decide) (fun K hK => ?_)
         refine goes_ Try.func52 zK rfl #[.agg #[.slice A0_0 l0_0.length c0_0, .slice Ao51 x582001_2.length co51], .slice Ao52 t588.length co52] (by rfl) rfl rfl zM ?_
         with_reducible refine (ancepsref38_projected.calls k2 _ _ l0_0 _ _ x582001_2 _ _ t588 t591 t594 _ ?side1 ?side2 ?side3 ?side4 ?side5 ?side6 A45.out).mono ?_
         (case side1 => repeat (first | exact (Kd.C_below HR0_0.out HB.out) | (with_reducible refine Kd.C_alloc ?_ _) | (with_reducible refine Kd.C_drewN ?_ _) | (with_reducible refine Kd.C_drew ?_)))
         (case side2 => exact HC0_0.out)
         (case side3 => repeat (first | exact (Kd.R_reads' HO_582001.out).2.2 | (with_reducible refine Kd.C_alloc ?_ _) | (with_reducible refine Kd.C_drewN ?_ _) | (with_reducible refine Kd.C_drew ?_)))
         (case side4 => exact (Kd.R_reads' HO_582001.out).2.1)
         (case side5 => repeat (first | exact (Kd.R_reads' HO590.out).2.2 | (with_reducible refine Kd.C_alloc ?_ _) | (with_reducible refine Kd.C_drewN ?_ _) | (with_reducible refine Kd.C_drew ?_)))
         (case side6 => exact (Kd.R_reads' HO590.out).2.1)
         rintro e w53 ⟨v592, v595, rfl, ho0, ho1, hb⟩
         refine ⟨_, rfl, ?_⟩
         have n0_ := Aside0.mk (Kd.R_mono (Kd.R_told (Kd.R_told (Kd.R_old (zR HO_582001) hb) (Kd.R_base ho0)) (Kd.R_base ho1)) (fun _ h_ => h_.1))
         have n1_ := Aside0.mk (Kd.R_mono (Kd.R_told (Kd.R_told (Kd.R_old (zR HO590) hb) (Kd.R_base ho0)) (Kd.R_base ho1)) (fun _ h_ => h_.1))
         have n2_ := Aside0.mk (Kd.R_lower (Kd.R_new' (Kd.R_new' ho0 (Kd.R_lt (zR HO_582001))) (Kd.R_lt (zR HO590))) (below_size zB))
         have n3_ := Aside0.mk (Kd.R_lower (Kd.R_new' (Kd.R_new' ho1 (Kd.R_lt (zR HO_582001))) (Kd.R_lt (zR HO590))) (below_size zB))
         have n4_ := Aside0.mk (blk_below (g := gb577) (o := .cells #[.slice A0_0 l0_0.length c0_0, .slice A0_1 l0_1.length c0_1] 29 (0, 0)) (zk BK577) hb)
         have n5_ := Aside0.mk (blk_below (g := gb578) (o := .cells #[.slice none 0 0, .slice none 0 0] 29 (0, 0)) (zk BK578) hb)
         have n6_ := Aside0.mk (blk_below (g := gb581) (o := .cells #[.slice A0_0 l0_0.length c0_0, .slice Ao51 x582001_2.length co51] 29 (0, 0)) (zk BK581) hb)
         have n7_ := Aside0.mk (below_step zB hb)
         clear HO_582001
         clear HO590
         clear BK577
         clear BK578
         clear BK581
         clear HB
         have HO_582001 := n0_
         have HO590 := n1_
         have HO593 := n2_
         have HO596 := n3_
         have BK577 := n4_
         have BK578 := n5_
         have BK581 := n6_
         have HB := n7_
         clear n0_ n1_ n2_ n3_ n4_ n5_ n6_ n7_
         (try clear hb)
         (try clear hb2)
         (try clear hk)
         (try clear hi)
         (try clear ho0)
         (try clear ho1)
         obtain ⟨Ao54, co54, eo54⟩ := Kd.R_slice HO593.out
         (first | subst eo54 | (injection eo54 with f1_ f2_ f3_; have f4_ := f1_.symm; have f5_ := f3_.symm; clear f1_ f2_ f3_; subst f4_; subst f5_))
         obtain ⟨Ao56, co56, eo56⟩ := Kd.R_slice HO596.out
         (first | subst eo56 | (injection eo56 with f1_ f2_ f3_; have f4_ := f1_.symm; have f5_ := f3_.symm; clear f1_ f2_ f3_; subst f4_; subst f5_))
         refine hK.out _ _ ⟨(blk_cell BK581.out 0).trans rfl, (blk_cell BK581.out 1).trans rfl, (blk_cell BK577.out 0).trans rfl, (blk_cell BK577.out 1).trans rfl⟩ (fun hHeld => ?_)
         clear hK K
         refine norm_ (a' := ?_) ?_ ?_
         rotate_left
         ·show Act.put _ (some 68) _ = _
          simp only [Act.put, List.setIfInBounds_toArray, List.set_cons_zero, List.set_cons_succ, i64_w, i32_w]
          rfl
         refine one_ (i := 6) (N := none) #[true, true, true, true, true, true, true, false] rfl rfl (one_of HT_.out zK) (by decide) (fun K hK => ?_)
         have hs55 : w53.cell? ⟨gb578, 0, none⟩ = some (.slice none 0 0) := (blk_cell BK578.out 0).trans rfl
         have hfs55 := blk_frozen BK578.out 0
         have hns55_0 := NB577_578.out
         have hns55_2 := NB581_578.out
         have hms55_0 := NB578_577.out
         have hms55_2 := NB578_581.out
         have hs57 : w53.cell? ⟨gb578, 1, none⟩ = some (.slice none 0 0) := (blk_cell BK578.out 1).trans rfl
         have hfs57 := blk_frozen BK578.out 1
         have hns57_0 := NB577_578.out
         have hns57_2 := NB581_578.out
         have hms57_0 := NB578_577.out
         have hms57_2 := NB578_581.out
         refine skip_ (w1 := ?_) (by rfl) rfl ?_ ?_
         rotate_left
         ·go_simp
          rfl
         refine hK.out _ _ ⟨((cell_far (p := ⟨gb578, _, none⟩) NB581_578.out _).trans (((cell_far (p := ⟨gb578, _, none⟩) NB581_578.out _).trans (hHeld.1)))), ((cell_far (p := ⟨gb578, _, none⟩) NB581_578.out _).trans (((cell_far (p := ⟨gb578, _, none⟩) NB581_578.out _).trans (hHeld.2.1)))), ((cell_far (p := ⟨gb578, _, none⟩) NB577_578.out _).trans (((cell_far (p := ⟨gb578, _, none⟩) NB577_578.out _).trans (hHeld.2.2.1)))), ((cell_far (p := ⟨gb578, _, none⟩) NB577_578.out _).trans (((cell_far (p := ⟨gb578, _, none⟩) NB577_578.out _).trans (hHeld.2.2.2))))⟩ (fun hHeld => ?_)
         clear hK K
         refine pure_ (i := 7) (N := some 7) (v := ?_) (a' := ?_) #[true, true, true, true, true, true, true, true] rfl rfl (any_of HT_.out zK) (fun _ _ _ h => h) (Or.inl ⟨by rfl, ?_⟩) ?_ ?_
         rotate_left
         ·intro w'
          go_simp
          with_reducible rfl
         rotate_left
         ·simp only [Act.put, List.setIfInBounds_toArray, List.set_cons_zero, List.set_cons_succ, i64_w, i32_w]
          rfl
         refine done_ (done_of HT_.out zK) ?_
         try go_wp2
         refine bodyPost_ret (results_ct rfl _ _ gb578 29 #[.slice Ao54 t591.length co54, .slice Ao56 t594.length co56] (0, 0) _ rfl (by (with_reducible repeat (first | refine blk_drewN ?_ _ | refine blk_drew ?_ | refine blk_alloc ?_ _)); refine blk_put (cs := #[.slice Ao54 t591.length co54, .slice none 0 0]) ?_ 1 _ rfl; (with_reducible repeat (first | refine blk_drewN ?_ _ | refine blk_drew ?_ | refine blk_alloc ?_ _)); refine blk_put (cs := #[.slice none 0 0, .slice none 0 0]) ?_ 0 _ rfl; (with_reducible repeat (first | refine blk_drewN ?_ _ | refine blk_drew ?_ | refine blk_alloc ?_ _)); exact BK578.out) Try.underlying29 rfl zK) rfl ?_
         exact ⟨_, _, by first | rfl | (simp [errW_none, errW_some] <;> rfl) | (simp [*, errW_none, errW_some] <;> rfl), by (with_reducible repeat (first | apply Kd.R_alloc | apply Kd.R_drewN | apply Kd.R_drew)); exact Kd.R_mono (Kd.R_far (p := ⟨gb578, 1, none⟩) (Kd.R_far (p := ⟨gb578, 0, none⟩) (Kd.R_types HO593.out BK578.out (by decide)) (fun _ hk => hk.2) (.slice Ao54 t591.length co54)) (fun _ hk => hk.2) (.slice Ao56 t594.length co56)) (fun _ hk => hk.1.1.1), by (with_reducible repeat (first | apply Kd.R_alloc | apply Kd.R_drewN | apply Kd.R_drew)); exact Kd.R_mono (Kd.R_far (p := ⟨gb578, 1, none⟩) (Kd.R_far (p := ⟨gb578, 0, none⟩) (Kd.R_types HO596.out BK578.out (by decide)) (fun _ hk => hk.2) (.slice Ao54 t591.length co54)) (fun _ hk => hk.2) (.slice Ao56 t594.length co56)) (fun _ hk => hk.1.1.1), by repeat (first | (with_reducible first | exact HB.out | apply below_alloc | apply pw_below_drewN | apply below_drew1 | refine below_set ?_ GE577.out | refine below_set ?_ GE578.out | refine below_set ?_ GE581.out) | exact HB.out)⟩
     ·replace c21 := Bool.eq_false_iff.mpr c21
      subst c21
      have H1 : (some (([] : List Int), ([] : List Int), 4)) = some (r1, r2, r3) := by rw [if_neg (show ¬ (false = true) by decide)] at H; exact H
      clear H
      have H := H1
      clear H1
      simp only [Option.some.injEq, Prod.mk.injEq] at H
      obtain ⟨rfl, rfl, rfl⟩ := H
      have hnb58 := NB578_577.out
      have hnc58 := NB577_578.out
      have hcz59_0 : wc.cell? ⟨gb578, 0, none⟩ = some (.slice none 0 0) := (blk_cell BK578.out 0).trans rfl
      have hcz59_1 : wc.cell? ⟨gb578, 1, none⟩ = some (.slice none 0 0) := (blk_cell BK578.out 1).trans rfl
      have hfz59_0 := blk_frozen BK578.out 0
      have hfz59_1 := blk_frozen BK578.out 1
      go_wp2
      refine bodyPost_ret (results_ct rfl _ _ gb578 29 #[.slice none 0 0, .slice none 0 0] (0, 0) _ rfl (by (with_reducible repeat (first | refine blk_drewN ?_ _ | refine blk_drew ?_ | refine blk_alloc ?_ _)); refine blk_put (cs := #[.slice none 0 0, .slice none 0 0]) ?_ 1 _ rfl; (with_reducible repeat (first | refine blk_drewN ?_ _ | refine blk_drew ?_ | refine blk_alloc ?_ _)); refine blk_put (cs := #[.slice none 0 0, .slice none 0 0]) ?_ 0 _ rfl; (with_reducible repeat (first | refine blk_drewN ?_ _ | refine blk_drew ?_ | refine blk_alloc ?_ _)); exact BK578.out) Try.underlying29 rfl zK) rfl ?_
      exact ⟨_, _, by first | rfl | (simp [errW_none, errW_some] <;> rfl) | (simp [*, errW_none, errW_some] <;> rfl), by first | exact Kd.R_nil _ _ _ _ _ | exact Kd.N_nil _ _ _ _ _ | exact Kd.V_nil _ _ _ _ _ | exact Kd.Q_nil _ _ _ _ _ | exact Kd.S_nil _ _ _ _ _, by first | exact Kd.R_nil _ _ _ _ _ | exact Kd.N_nil _ _ _ _ _ | exact Kd.V_nil _ _ _ _ _ | exact Kd.Q_nil _ _ _ _ _ | exact Kd.S_nil _ _ _ _ _, by repeat (first | (with_reducible first | exact HB.out | apply below_alloc | apply pw_below_drewN | apply below_drew1 | refine below_set ?_ GE577.out | refine below_set ?_ GE578.out) | exact HB.out)⟩
 ·rw [if_neg c11] at H
  have c11b0 : (t579 == 0) = false := beq_eq_false_iff_ne.mpr c11
  have c11b1 : (t579 != 0) = true := bne_iff_ne.mpr c11
  (first | rw [c11b0] | (simp only [i64_w, i32_w]; rw [c11b0]) | skip)
  (try rw [c11b1])
  simp only [Option.some.injEq, Prod.mk.injEq] at H
  obtain ⟨rfl, rfl, rfl⟩ := H
  have hnb60 := NB578_577.out
  have hnc60 := NB577_578.out
  have hcz61_0 : w10.cell? ⟨gb578, 0, none⟩ = some (.slice none 0 0) := (blk_cell BK578.out 0).trans rfl
  have hcz61_1 : w10.cell? ⟨gb578, 1, none⟩ = some (.slice none 0 0) := (blk_cell BK578.out 1).trans rfl
  have hfz61_0 := blk_frozen BK578.out 0
  have hfz61_1 := blk_frozen BK578.out 1
  go_wp2
  refine bodyPost_ret (results_ct rfl _ _ gb578 29 #[.slice none 0 0, .slice none 0 0] (0, 0) _ rfl (by (with_reducible repeat (first | refine blk_drewN ?_ _ | refine blk_drew ?_ | refine blk_alloc ?_ _)); refine blk_put (cs := #[.slice none 0 0, .slice none 0 0]) ?_ 1 _ rfl; (with_reducible repeat (first | refine blk_drewN ?_ _ | refine blk_drew ?_ | refine blk_alloc ?_ _)); refine blk_put (cs := #[.slice none 0 0, .slice none 0 0]) ?_ 0 _ rfl; (with_reducible repeat (first | refine blk_drewN ?_ _ | refine blk_drew ?_ | refine blk_alloc ?_ _)); exact BK578.out) Try.underlying29 rfl zK) rfl ?_
  exact ⟨_, _, by first | rfl | (simp [errW_none, errW_some] <;> rfl) | (simp [*, errW_none, errW_some] <;> rfl), by first | exact Kd.R_nil _ _ _ _ _ | exact Kd.N_nil _ _ _ _ _ | exact Kd.V_nil _ _ _ _ _ | exact Kd.Q_nil _ _ _ _ _ | exact Kd.S_nil _ _ _ _ _, by first | exact Kd.R_nil _ _ _ _ _ | exact Kd.N_nil _ _ _ _ _ | exact Kd.V_nil _ _ _ _ _ | exact Kd.Q_nil _ _ _ _ _ | exact Kd.S_nil _ _ _ _ _, by repeat (first | (with_reducible first | exact HB.out | apply below_alloc | apply pw_below_drewN | apply below_drew1 | refine below_set ?_ GE577.out | refine below_set ?_ GE578.out) | exact HB.out)⟩
/-! ### ancepslaw38_TableRestrict: function 7 -/
def ancepslaw38_TableRestrict.j0 : Nat → Int → Int → Bool → List Int → List Int → Option (Bool)
 | 0, _, _, _, _, _ => none
 | k + 1, x1, x2, x17, x598000, x598001 => if x17 = true then ((ancepslaw38_awake.f k).bind fun t600 => (some t600)) else ((ancepslaw38_own.f x598000 x598001).bind fun bt601 => ((table_Restrict.f k bt601.1 bt601.2 x1 x2).bind fun bt607 => ((ancepsref38_Restrict.f k x598000 x598001 x1 x2).bind fun bt615 => (if bt607.2.2 = bt615.2.2 then ((ancepsref38_Equal.f k bt607.1 bt607.2.1 bt615.1 bt615.2.1).bind fun t623 => (some t623)) else (some false)))))
def ancepslaw38_TableRestrict.f (k : Nat) (l0_0 : List Int) (l0_1 : List Int) (a1 : Int) (a2 : Int) : Option (Bool) := (ancepslaw38_awake.f k).bind fun t598 => (if t598 = true then ((ancepsref38_Few.f l0_0 l0_1).bind fun t599 => (ancepslaw38_TableRestrict.j0 k a1 a2 (!t599) l0_0 l0_1)) else (ancepslaw38_TableRestrict.j0 k a1 a2 true l0_0 l0_1))
theorem ancepslaw38_TableRestrict.mono_l : ∀ k, (∀ y0 y1 y2 y3 y4, LeO (ancepslaw38_TableRestrict.j0 k y0 y1 y2 y3 y4) (ancepslaw38_TableRestrict.j0 (k + 1) y0 y1 y2 y3 y4))
 | 0 => fun _ _ _ _ _ r h => by simp [ancepslaw38_TableRestrict.j0] at h
 | k + 1 => by
  have ih0 := ancepslaw38_TableRestrict.mono_l k
  ·intro y0 y1 y2 y3 y4
   unfold ancepslaw38_TableRestrict.j0
   repeat' first
   | (with_reducible exact ih0 _ _ _ _ _)
   | (with_reducible exact ancepslaw38_awake.mono _)
   | (with_reducible exact ancepsref38_Equal.mono _ _ _ _ _)
   | (with_reducible exact ancepsref38_Restrict.mono _ _ _ _ _)
   | (with_reducible exact table_Restrict.mono _ _ _ _ _)
   | (with_reducible exact LeO.refl _)
   | (with_reducible exact LeO.none _)
   | (with_reducible refine LeO.ite ?_ ?_)
   | (with_reducible refine LeO.bind ?_ (fun _ => ?_))
   | exact ih0 _ _ _ _ _
   | exact ancepslaw38_awake.mono _
   | exact ancepsref38_Equal.mono _ _ _ _ _
   | exact ancepsref38_Restrict.mono _ _ _ _ _
   | exact table_Restrict.mono _ _ _ _ _
   | exact LeO.none _
   | refine LeO.ite ?_ ?_
   | refine LeO.bind ?_ (fun _ => ?_)
theorem ancepslaw38_TableRestrict.mono : ∀ a0 a1 a2 a3 k, LeO (ancepslaw38_TableRestrict.f k a0 a1 a2 a3) (ancepslaw38_TableRestrict.f (k + 1) a0 a1 a2 a3) := by
 intro a0 a1 a2 a3 k
 have ih0 := ancepslaw38_TableRestrict.mono_l k
 unfold ancepslaw38_TableRestrict.f
 repeat' first
   | (with_reducible exact ih0 _ _ _ _ _)
   | (with_reducible exact ancepslaw38_awake.mono _)
   | (with_reducible exact ancepsref38_Equal.mono _ _ _ _ _)
   | (with_reducible exact ancepsref38_Restrict.mono _ _ _ _ _)
   | (with_reducible exact table_Restrict.mono _ _ _ _ _)
   | (with_reducible exact LeO.refl _)
   | (with_reducible exact LeO.none _)
   | (with_reducible refine LeO.ite ?_ ?_)
   | (with_reducible refine LeO.bind ?_ (fun _ => ?_))
   | exact ih0 _ _ _ _ _
   | exact ancepslaw38_awake.mono _
   | exact ancepsref38_Equal.mono _ _ _ _ _
   | exact ancepsref38_Restrict.mono _ _ _ _ _
   | exact table_Restrict.mono _ _ _ _ _
   | exact LeO.none _
   | refine LeO.ite ?_ ?_
   | refine LeO.bind ?_ (fun _ => ?_)
set_option maxHeartbeats 8000000 in
set_option maxRecDepth 100000 in
theorem ancepslaw38_TableRestrict.calls (k : Nat) (A0_0 : Option Addr) (c0_0 : Nat) (l0_0 : List Int) (A0_1 : Option Addr) (c0_1 : Nat) (l0_1 : List Int) (a1 : Int) (a2 : Int) (r : Bool) (w : World) (hr0_0 : Kd.C (Kd.int .i64) w A0_0 l0_0.length l0_0) (hc0_0 : l0_0.length ≤ c0_0) (hr0_1 : Kd.C (Kd.int .i64) w A0_1 l0_1.length l0_1) (hc0_1 : l0_1.length ≤ c0_1) (h : ancepslaw38_TableRestrict.f k l0_0 l0_1 a1 a2 = some r) :
  Calls Try.prog 7 #[.agg #[.slice A0_0 l0_0.length c0_0, .slice A0_1 l0_1.length c0_1], .int .i64 a1, .int .i64 a2] w fun e w' => e = .returned (.bool r) ∧ Below w.heap.size w w' := by
 have hu29 := Try.underlying29
 have HR0_0 := Aside0.mk hr0_0
 have HC0_0 := Aside0.mk hc0_0
 clear hr0_0 hc0_0
 have HR0_1 := Aside0.mk hr0_1
 have HC0_1 := Aside0.mk hc0_1
 clear hr0_1 hc0_1
 have HB := Aside0.mk (Below.refl w.heap.size w)
 have H : ((ancepslaw38_awake.f k).bind fun t598 => (if t598 = true then ((ancepsref38_Few.f l0_0 l0_1).bind fun t599 => (ancepslaw38_TableRestrict.j0 k a1 a2 (!t599) l0_0 l0_1)) else (ancepslaw38_TableRestrict.j0 k a1 a2 true l0_0 l0_1))) = some r := h
 clear h
 have HC4 := Aside0.mk H
 clear H
 go_enter Try.func7, Try.ntmps7
 go_upto_region 1 with (first | ((with_reducible refine gate_dst (N := 3) rfl ?_); refine box_event ?hg (N := 3) ?hd (cs := #[.slice A0_0 l0_0.length c0_0, .slice A0_1 l0_1.length c0_1]) (t := 29) ?hr ?_; (case hd => rfl); (case hg => rfl); (case hr => first | (go_simp; done) | (go_simp; rfl)); intro gb597 hg w5 hbox hb; have n0_ := Aside0.mk (below_step zB hb); have n1_ := Aside0.mk (hbox); have n2_ := Aside0.mk ((by rw [hg]; exact (below_size zB) : w.heap.size ≤ gb597)); have n3_ := Aside0.mk ((by rw [hg]; exact (below_size zB) : w.heap.size ≤ gb597)); clear HB; have HB := n0_; have BK597 := n1_; have GW597 := n2_; have GE597 := n3_; clear n0_ n1_ n2_ n3_; clear hb hbox hg))
 (try simp only [Act.put, List.setIfInBounds_toArray, List.set_cons_zero, List.set_cons_succ])
 go_cut [17] (fun v17 wc => ∃ (kq : Nat) (x17_3 : Bool), v17 = .bool x17_3 ∧ Aside0 (ancepslaw38_TableRestrict.j0 kq a1 a2 x17_3 l0_0 l0_1 = some r) ∧ Aside0 (kq ≤ k) ∧ Aside0 (wc.heap[gb597]? = some (.cells #[(.slice A0_0 l0_0.length c0_0), (.slice A0_1 l0_1.length c0_1)] 29 (0, 0))) ∧ Aside0 (Below w.heap.size w wc))
 case first =>
  have H := HC4.out
  clear HC4
  replace H := Option.bind_eq_some_iff.mp H
  obtain ⟨t598, A60, H⟩ := H
  replace H : (if t598 = true then ((ancepsref38_Few.f l0_0 l0_1).bind fun t599 => (ancepslaw38_TableRestrict.j0 k a1 a2 (!t599) l0_0 l0_1)) else (ancepslaw38_TableRestrict.j0 k a1 a2 true l0_0 l0_1)) = some r := H
  have A6 := Aside0.mk A60
  clear A60
  by_cases c7 : t598 = true
  ·subst c7
   have H1 : ((ancepsref38_Few.f l0_0 l0_1).bind fun t599 => (ancepslaw38_TableRestrict.j0 k a1 a2 (!t599) l0_0 l0_1)) = some r := by rw [if_pos rfl] at H; exact H
   clear H
   have H := H1
   clear H1
   replace H := Option.bind_eq_some_iff.mp H
   obtain ⟨t599, A80, H⟩ := H
   replace H : (ancepslaw38_TableRestrict.j0 k a1 a2 (!t599) l0_0 l0_1) = some r := H
   have A8 := Aside0.mk A80
   clear A80
   have H' := Aside0.mk H
   clear H
   go_wp2_with (first | ((with_reducible refine gate_callee (f := 12) rfl ?_); refine goesL_ (some 11) rfl rfl Try.func12 zK rfl #[] rfl zM ?_; (with_reducible refine (ancepslaw38_awake.calls k  true _ A6.out).mono ?_); rintro e w9 ⟨rfl, hb⟩; refine ⟨_, rfl, ?_⟩; have n0_ := Aside0.mk (blk_below (g := gb597) (o := .cells #[.slice A0_0 l0_0.length c0_0, .slice A0_1 l0_1.length c0_1] 29 (0, 0)) (zk BK597) hb); have n1_ := Aside0.mk (below_step zB hb); clear BK597; clear HB; have BK597 := n0_; have HB := n1_; clear n0_ n1_; (try clear hb); (try clear hb2); (try clear hk); (try clear hi); have hcz10_0 : w9.cell? ⟨gb597, 0, none⟩ = some (.slice A0_0 l0_0.length c0_0) := (blk_cell BK597.out 0).trans rfl; have hcz10_1 : w9.cell? ⟨gb597, 1, none⟩ = some (.slice A0_1 l0_1.length c0_1) := (blk_cell BK597.out 1).trans rfl; have hfz10_0 := blk_frozen BK597.out 0; have hfz10_1 := blk_frozen BK597.out 1) | (go_at_call 19; (with_reducible refine (ancepsref38_Few.calls _ _ l0_0 _ _ l0_1 t599 _ ?side1 ?side2 ?side3 ?side4 A8.out).mono ?_); (case side1 => repeat (first | exact (Kd.C_below HR0_0.out HB.out) | (with_reducible refine Kd.C_alloc ?_ _) | (with_reducible refine Kd.C_drewN ?_ _) | (with_reducible refine Kd.C_drew ?_))); (case side2 => exact HC0_0.out); (case side3 => repeat (first | exact (Kd.C_below HR0_1.out HB.out) | (with_reducible refine Kd.C_alloc ?_ _) | (with_reducible refine Kd.C_drewN ?_ _) | (with_reducible refine Kd.C_drew ?_))); (case side4 => exact HC0_1.out); rintro e w11 ⟨rfl, hb⟩; have n0_ := Aside0.mk (blk_below (g := gb597) (o := .cells #[.slice A0_0 l0_0.length c0_0, .slice A0_1 l0_1.length c0_1] 29 (0, 0)) (zk BK597) hb); have n1_ := Aside0.mk (below_step zB hb); clear BK597; clear HB; have BK597 := n0_; have HB := n1_; clear n0_ n1_; (try clear hb); (try clear hb2); (try clear hk); (try clear hi)))
   go_meet
   case rel => exact ⟨_, (!t599), zT, H', ⟨by first | omega | exact Nat.le_refl _⟩, ⟨by (with_reducible repeat (first | refine blk_drewN ?_ _ | refine blk_drew ?_ | refine blk_alloc ?_ _)); exact BK597.out⟩, ⟨by repeat (first | (with_reducible first | exact HB.out | apply below_alloc | apply pw_below_drewN | apply below_drew1 | refine below_set ?_ GE597.out) | exact HB.out)⟩⟩
  ·replace c7 := Bool.eq_false_iff.mpr c7
   subst c7
   have H1 : (ancepslaw38_TableRestrict.j0 k a1 a2 true l0_0 l0_1) = some r := by rw [if_neg (show ¬ (false = true) by decide)] at H; exact H
   clear H
   have H := H1
   clear H1
   have H' := Aside0.mk H
   clear H
   go_wp2_with (first | ((with_reducible refine gate_callee (f := 12) rfl ?_); refine goesL_ (some 11) rfl rfl Try.func12 zK rfl #[] rfl zM ?_; (with_reducible refine (ancepslaw38_awake.calls k  false _ A6.out).mono ?_); rintro e w12 ⟨rfl, hb⟩; refine ⟨_, rfl, ?_⟩; have n0_ := Aside0.mk (blk_below (g := gb597) (o := .cells #[.slice A0_0 l0_0.length c0_0, .slice A0_1 l0_1.length c0_1] 29 (0, 0)) (zk BK597) hb); have n1_ := Aside0.mk (below_step zB hb); clear BK597; clear HB; have BK597 := n0_; have HB := n1_; clear n0_ n1_; (try clear hb); (try clear hb2); (try clear hk); (try clear hi)))
   go_meet
   case rel => exact ⟨_, (true), zT, H', ⟨by first | omega | exact Nat.le_refl _⟩, ⟨by (with_reducible repeat (first | refine blk_drewN ?_ _ | refine blk_drew ?_ | refine blk_alloc ?_ _)); exact BK597.out⟩, ⟨by repeat (first | (with_reducible first | exact HB.out | apply below_alloc | apply pw_below_drewN | apply below_drew1 | refine below_set ?_ GE597.out) | exact HB.out)⟩⟩
 case rest =>
  clear HC4
  obtain ⟨kq, x17_3, rfl, HA, HJ3, BK597, HB⟩ := hcut
  cases kq with
  | zero => exact absurd HA.out (by simp [ancepslaw38_TableRestrict.j0])
  | succ kj3 =>
   have H := HA.out
   clear HA
   simp only [ancepslaw38_TableRestrict.j0] at H
   by_cases c13 : x17_3 = true
   ·subst c13
    have H1 : ((ancepslaw38_awake.f kj3).bind fun t600 => (some t600)) = some r := by rw [if_pos rfl] at H; exact H
    clear H
    have H := H1
    clear H1
    replace H := Option.bind_eq_some_iff.mp H
    obtain ⟨t600, A140, H⟩ := H
    replace H : (some t600) = some r := H
    have A14 := Aside0.mk A140
    clear A140
    obtain rfl := Option.some.inj H
    go_wp2_with (first | ((with_reducible refine gate_callee (f := 12) rfl ?_); refine goesL_ (some 18) rfl rfl Try.func12 zK rfl #[] rfl zM ?_; (with_reducible refine (ancepslaw38_awake.calls kj3  t600 _ A14.out).mono ?_); rintro e w15 ⟨rfl, hb⟩; refine ⟨_, rfl, ?_⟩; have n0_ := Aside0.mk (blk_below (g := gb597) (o := .cells #[.slice A0_0 l0_0.length c0_0, .slice A0_1 l0_1.length c0_1] 29 (0, 0)) (zk BK597) hb); have n1_ := Aside0.mk (below_step zB hb); clear BK597; clear HB; have BK597 := n0_; have HB := n1_; clear n0_ n1_; (try clear hb); (try clear hb2); (try clear hk); (try clear hi)))
    go_ret
    exact ⟨by first | rfl | (simp [errW_none, errW_some] <;> rfl) | (simp [*, errW_none, errW_some] <;> rfl), by repeat (first | (with_reducible first | exact HB.out | apply below_alloc | apply pw_below_drewN | apply below_drew1 | refine below_set ?_ GE597.out) | exact HB.out)⟩
   ·replace c13 := Bool.eq_false_iff.mpr c13
    subst c13
    have H1 : ((ancepslaw38_own.f l0_0 l0_1).bind fun bt601 => ((table_Restrict.f kj3 bt601.1 bt601.2 a1 a2).bind fun bt607 => ((ancepsref38_Restrict.f kj3 l0_0 l0_1 a1 a2).bind fun bt615 => (if bt607.2.2 = bt615.2.2 then ((ancepsref38_Equal.f kj3 bt607.1 bt607.2.1 bt615.1 bt615.2.1).bind fun t623 => (some t623)) else (some false))))) = some r := by rw [if_neg (show ¬ (false = true) by decide)] at H; exact H
    clear H
    have H := H1
    clear H1
    replace H := Option.bind_eq_some_iff.mp H
    obtain ⟨⟨t601, t604⟩, A160, H⟩ := H
    replace H : ((table_Restrict.f kj3 t601 t604 a1 a2).bind fun bt607 => ((ancepsref38_Restrict.f kj3 l0_0 l0_1 a1 a2).bind fun bt615 => (if bt607.2.2 = bt615.2.2 then ((ancepsref38_Equal.f kj3 bt607.1 bt607.2.1 bt615.1 bt615.2.1).bind fun t623 => (some t623)) else (some false)))) = some r := H
    have A16 := Aside0.mk A160
    clear A160
    replace H := Option.bind_eq_some_iff.mp H
    obtain ⟨⟨t607, t610, t613⟩, A170, H⟩ := H
    replace H : ((ancepsref38_Restrict.f kj3 l0_0 l0_1 a1 a2).bind fun bt615 => (if t613 = bt615.2.2 then ((ancepsref38_Equal.f kj3 t607 t610 bt615.1 bt615.2.1).bind fun t623 => (some t623)) else (some false))) = some r := H
    have A17 := Aside0.mk A170
    clear A170
    replace H := Option.bind_eq_some_iff.mp H
    obtain ⟨⟨t615, t618, t621⟩, A180, H⟩ := H
    replace H : (if t613 = t621 then ((ancepsref38_Equal.f kj3 t607 t610 t615 t618).bind fun t623 => (some t623)) else (some false)) = some r := H
    have A18 := Aside0.mk A180
    clear A180
    have HC19 := Aside0.mk H
    clear H
    have hcz20_0 : wc.cell? ⟨gb597, 0, none⟩ = some (.slice A0_0 l0_0.length c0_0) := (blk_cell BK597.out 0).trans rfl
    have hcz20_1 : wc.cell? ⟨gb597, 1, none⟩ = some (.slice A0_1 l0_1.length c0_1) := (blk_cell BK597.out 1).trans rfl
    have hfz20_0 := blk_frozen BK597.out 0
    have hfz20_1 := blk_frozen BK597.out 1
    go_upto_region 5 with (first | ((with_reducible refine gate_callee (f := 21) rfl ?_); refine goesL_ (some 21) rfl rfl Try.func21 zK rfl #[.agg #[.slice A0_0 l0_0.length c0_0, .slice A0_1 l0_1.length c0_1]] rfl zM ?_; (with_reducible refine (ancepslaw38_own.calls _ _ l0_0 _ _ l0_1 t601 t604 _ ?side1 ?side2 ?side3 ?side4 A16.out).mono ?_); (case side1 => repeat (first | exact (Kd.C_below HR0_0.out HB.out) | (with_reducible refine Kd.C_alloc ?_ _) | (with_reducible refine Kd.C_drewN ?_ _) | (with_reducible refine Kd.C_drew ?_))); (case side2 => exact HC0_0.out); (case side3 => repeat (first | exact (Kd.C_below HR0_1.out HB.out) | (with_reducible refine Kd.C_alloc ?_ _) | (with_reducible refine Kd.C_drewN ?_ _) | (with_reducible refine Kd.C_drew ?_))); (case side4 => exact HC0_1.out); rintro e w21 ⟨v602, v605, rfl, ho0, ho1, hb⟩; refine ⟨_, rfl, ?_⟩; have n0_ := Aside0.mk (Kd.R_lower ho0 (below_size zB)); have n1_ := Aside0.mk (Kd.R_lower ho1 (below_size zB)); have n2_ := Aside0.mk (blk_below (g := gb597) (o := .cells #[.slice A0_0 l0_0.length c0_0, .slice A0_1 l0_1.length c0_1] 29 (0, 0)) (zk BK597) hb); have n3_ := Aside0.mk (below_step zB hb); clear BK597; clear HB; have HO603 := n0_; have HO606 := n1_; have BK597 := n2_; have HB := n3_; clear n0_ n1_ n2_ n3_; (try clear hb); (try clear hb2); (try clear hk); (try clear hi); (try clear ho0); (try clear ho1); obtain ⟨Ao22, co22, eo22⟩ := Kd.R_slice HO603.out; subst eo22; obtain ⟨Ao23, co23, eo23⟩ := Kd.R_slice HO606.out; subst eo23) | ((with_reducible refine gate_callee (f := 35) rfl ?_); refine goesL_ (some 24) rfl rfl Try.func35 zK rfl #[.agg #[.slice Ao22 t601.length co22, .slice Ao23 t604.length co23], .int .i64 a1, .int .i64 a2] rfl zM ?_; (with_reducible refine (table_Restrict.calls kj3 _ _ t601 _ _ t604 a1 a2 t607 t610 t613 _ ?side1 ?side2 ?side3 ?side4 A17.out).mono ?_); (case side1 => repeat (first | exact (Kd.R_reads' HO603.out).2.2 | (with_reducible refine Kd.C_alloc ?_ _) | (with_reducible refine Kd.C_drewN ?_ _) | (with_reducible refine Kd.C_drew ?_))); (case side2 => exact (Kd.R_reads' HO603.out).2.1); (case side3 => repeat (first | exact (Kd.R_reads' HO606.out).2.2 | (with_reducible refine Kd.C_alloc ?_ _) | (with_reducible refine Kd.C_drewN ?_ _) | (with_reducible refine Kd.C_drew ?_))); (case side4 => exact (Kd.R_reads' HO606.out).2.1); rintro e w24 ⟨v608, v611, rfl, ho0, ho1, hb⟩; refine ⟨_, rfl, ?_⟩; have n0_ := Aside0.mk (Kd.R_mono (Kd.R_told (Kd.R_told (Kd.R_old (zR HO603) hb) (Kd.R_base ho0)) (Kd.R_base ho1)) (fun _ h_ => h_.1)); have n1_ := Aside0.mk (Kd.R_mono (Kd.R_told (Kd.R_told (Kd.R_old (zR HO606) hb) (Kd.R_base ho0)) (Kd.R_base ho1)) (fun _ h_ => h_.1)); have n2_ := Aside0.mk (Kd.R_lower (Kd.R_new' (Kd.R_new' ho0 (Kd.R_lt (zR HO603))) (Kd.R_lt (zR HO606))) (below_size zB)); have n3_ := Aside0.mk (Kd.R_lower (Kd.R_new' (Kd.R_new' ho1 (Kd.R_lt (zR HO603))) (Kd.R_lt (zR HO606))) (below_size zB)); have n4_ := Aside0.mk (blk_below (g := gb597) (o := .cells #[.slice A0_0 l0_0.length c0_0, .slice A0_1 l0_1.length c0_1] 29 (0, 0)) (zk BK597) hb); have n5_ := Aside0.mk (below_step zB hb); clear HO603; clear HO606; clear BK597; clear HB; have HO603 := n0_; have HO606 := n1_; have HO609 := n2_; have HO612 := n3_; have BK597 := n4_; have HB := n5_; clear n0_ n1_ n2_ n3_ n4_ n5_; (try clear hb); (try clear hb2); (try clear hk); (try clear hi); (try clear ho0); (try clear ho1)) | ((with_reducible refine gate_dst (N := 7) rfl ?_); refine box_event ?hg (N := 7) ?hd (cs := #[.slice none 0 0, .slice none 0 0]) (t := 29) ?hr ?_; (case hd => rfl); (case hg => rfl); (case hr => first | (go_simp; done) | (go_simp; rfl)); intro gb614 hg w25 hbox hb; have n0_ := Aside0.mk (Kd.R_below (zR HO603) hb); have n1_ := Aside0.mk (Kd.R_below (zR HO606) hb); have n2_ := Aside0.mk (Kd.R_below (zR HO609) hb); have n3_ := Aside0.mk (Kd.R_below (zR HO612) hb); have n4_ := Aside0.mk (blk_below (g := gb597) (o := .cells #[.slice A0_0 l0_0.length c0_0, .slice A0_1 l0_1.length c0_1] 29 (0, 0)) (zk BK597) hb); have n5_ := Aside0.mk (below_step zB hb); have n6_ := Aside0.mk (hbox); have n7_ := Aside0.mk ((by rw [hg]; exact (below_size zB) : w.heap.size ≤ gb614)); have n8_ := Aside0.mk ((by rw [hg]; exact (below_size zB) : w.heap.size ≤ gb614)); have n9_ := Aside0.mk ((by rw [hg]; exact Nat.ne_of_lt (blk_lt (g := gb597) (o := .cells #[.slice A0_0 l0_0.length c0_0, .slice A0_1 l0_1.length c0_1] 29 (0, 0)) (zk BK597)) : gb597 ≠ gb614)); have n10_ := Aside0.mk ((by rw [hg]; exact Nat.ne_of_gt (blk_lt (g := gb597) (o := .cells #[.slice A0_0 l0_0.length c0_0, .slice A0_1 l0_1.length c0_1] 29 (0, 0)) (zk BK597)) : gb614 ≠ gb597)); clear HO603; clear HO606; clear HO609; clear HO612; clear BK597; clear HB; have HO603 := n0_; have HO606 := n1_; have HO609 := n2_; have HO612 := n3_; have BK597 := n4_; have HB := n5_; have BK614 := n6_; have GW614 := n7_; have GE614 := n8_; have NB597_614 := n9_; have NB614_597 := n10_; clear n0_ n1_ n2_ n3_ n4_ n5_ n6_ n7_ n8_ n9_ n10_; clear hb hbox hg; obtain ⟨Ao26, co26, eo26⟩ := Kd.R_slice HO609.out; subst eo26; have hnb27 := NB614_597.out; have hnc27 := NB597_614.out; have hcz28_0 : w25.cell? ⟨gb614, 0, none⟩ = some (.slice none 0 0) := (blk_cell BK614.out 0).trans rfl; have hcz28_1 : w25.cell? ⟨gb614, 1, none⟩ = some (.slice none 0 0) := (blk_cell BK614.out 1).trans rfl; have hfz28_0 := blk_frozen BK614.out 0; have hfz28_1 := blk_frozen BK614.out 1; obtain ⟨Ao29, co29, eo29⟩ := Kd.R_slice HO612.out; subst eo29; have hcz30_0 : w25.cell? ⟨gb597, 0, none⟩ = some (.slice A0_0 l0_0.length c0_0) := (blk_cell BK597.out 0).trans rfl; have hcz30_1 : w25.cell? ⟨gb597, 1, none⟩ = some (.slice A0_1 l0_1.length c0_1) := (blk_cell BK597.out 1).trans rfl; have hfz30_0 := blk_frozen BK597.out 0; have hfz30_1 := blk_frozen BK597.out 1) | ((with_reducible refine gate_callee (f := 36) rfl ?_); refine goesL_ (some 31) rfl rfl Try.func36 zK rfl #[.agg #[.slice A0_0 l0_0.length c0_0, .slice A0_1 l0_1.length c0_1], .int .i64 a1, .int .i64 a2] rfl zM ?_; (with_reducible refine (ancepsref38_Restrict.calls kj3 _ _ l0_0 _ _ l0_1 a1 a2 t615 t618 t621 _ ?side1 ?side2 ?side3 ?side4 A18.out).mono ?_); (case side1 => exact Kd.C_below HR0_0.out zB); (case side2 => exact HC0_0.out); (case side3 => exact Kd.C_below HR0_1.out zB); (case side4 => exact HC0_1.out); rintro e w31 ⟨v616, v619, rfl, ho0, ho1, hb⟩; refine ⟨_, rfl, ?_⟩; have n0_ := Aside0.mk (Kd.R_mono (Kd.R_told (Kd.R_told (Kd.R_old (by (with_reducible repeat (first | apply Kd.R_alloc | apply Kd.R_drewN | apply Kd.R_drew)); exact (Kd.R_mono (Kd.R_far (p := ⟨gb614, 1, none⟩) (Kd.R_far (p := ⟨gb614, 0, none⟩) (Kd.R_types HO603.out BK614.out (by decide)) (fun _ hk => hk.2) (.slice Ao26 t607.length co26)) (fun _ hk => hk.2) (.slice Ao29 t610.length co29)) (fun _ h_ => h_.1))) hb) (Kd.R_base ho0)) (Kd.R_base ho1)) (fun _ h_ => h_.1)); have n1_ := Aside0.mk (Kd.R_mono (Kd.R_told (Kd.R_told (Kd.R_old (by (with_reducible repeat (first | apply Kd.R_alloc | apply Kd.R_drewN | apply Kd.R_drew)); exact (Kd.R_mono (Kd.R_far (p := ⟨gb614, 1, none⟩) (Kd.R_far (p := ⟨gb614, 0, none⟩) (Kd.R_types HO606.out BK614.out (by decide)) (fun _ hk => hk.2) (.slice Ao26 t607.length co26)) (fun _ hk => hk.2) (.slice Ao29 t610.length co29)) (fun _ h_ => h_.1))) hb) (Kd.R_base ho0)) (Kd.R_base ho1)) (fun _ h_ => h_.1)); have n2_ := Aside0.mk (Kd.R_mono (Kd.R_told (Kd.R_told (Kd.R_old (by (with_reducible repeat (first | apply Kd.R_alloc | apply Kd.R_drewN | apply Kd.R_drew)); exact (Kd.R_mono (Kd.R_far (p := ⟨gb614, 1, none⟩) (Kd.R_far (p := ⟨gb614, 0, none⟩) (Kd.R_types HO609.out BK614.out (by decide)) (fun _ hk => hk.2) (.slice Ao26 t607.length co26)) (fun _ hk => hk.2) (.slice Ao29 t610.length co29)) (fun _ h_ => h_.1))) hb) (Kd.R_base ho0)) (Kd.R_base ho1)) (fun _ h_ => h_.1)); have n3_ := Aside0.mk (Kd.R_mono (Kd.R_told (Kd.R_told (Kd.R_old (by (with_reducible repeat (first | apply Kd.R_alloc | apply Kd.R_drewN | apply Kd.R_drew)); exact (Kd.R_mono (Kd.R_far (p := ⟨gb614, 1, none⟩) (Kd.R_far (p := ⟨gb614, 0, none⟩) (Kd.R_types HO612.out BK614.out (by decide)) (fun _ hk => hk.2) (.slice Ao26 t607.length co26)) (fun _ hk => hk.2) (.slice Ao29 t610.length co29)) (fun _ h_ => h_.1))) hb) (Kd.R_base ho0)) (Kd.R_base ho1)) (fun _ h_ => h_.1)); have n4_ := Aside0.mk (Kd.R_lower (Kd.R_new' (Kd.R_new' (Kd.R_new' (Kd.R_new' ho0 (Kd.R_lt (by (with_reducible repeat (first | apply Kd.R_alloc | apply Kd.R_drewN | apply Kd.R_drew)); exact (Kd.R_mono (Kd.R_far (p := ⟨gb614, 1, none⟩) (Kd.R_far (p := ⟨gb614, 0, none⟩) (Kd.R_types HO603.out BK614.out (by decide)) (fun _ hk => hk.2) (.slice Ao26 t607.length co26)) (fun _ hk => hk.2) (.slice Ao29 t610.length co29)) (fun _ h_ => h_.1))))) (Kd.R_lt (by (with_reducible repeat (first | apply Kd.R_alloc | apply Kd.R_drewN | apply Kd.R_drew)); exact (Kd.R_mono (Kd.R_far (p := ⟨gb614, 1, none⟩) (Kd.R_far (p := ⟨gb614, 0, none⟩) (Kd.R_types HO606.out BK614.out (by decide)) (fun _ hk => hk.2) (.slice Ao26 t607.length co26)) (fun _ hk => hk.2) (.slice Ao29 t610.length co29)) (fun _ h_ => h_.1))))) (Kd.R_lt (by (with_reducible repeat (first | apply Kd.R_alloc | apply Kd.R_drewN | apply Kd.R_drew)); exact (Kd.R_mono (Kd.R_far (p := ⟨gb614, 1, none⟩) (Kd.R_far (p := ⟨gb614, 0, none⟩) (Kd.R_types HO609.out BK614.out (by decide)) (fun _ hk => hk.2) (.slice Ao26 t607.length co26)) (fun _ hk => hk.2) (.slice Ao29 t610.length co29)) (fun _ h_ => h_.1))))) (Kd.R_lt (by (with_reducible repeat (first | apply Kd.R_alloc | apply Kd.R_drewN | apply Kd.R_drew)); exact (Kd.R_mono (Kd.R_far (p := ⟨gb614, 1, none⟩) (Kd.R_far (p := ⟨gb614, 0, none⟩) (Kd.R_types HO612.out BK614.out (by decide)) (fun _ hk => hk.2) (.slice Ao26 t607.length co26)) (fun _ hk => hk.2) (.slice Ao29 t610.length co29)) (fun _ h_ => h_.1))))) (below_size zB)); have n5_ := Aside0.mk (Kd.R_lower (Kd.R_new' (Kd.R_new' (Kd.R_new' (Kd.R_new' ho1 (Kd.R_lt (by (with_reducible repeat (first | apply Kd.R_alloc | apply Kd.R_drewN | apply Kd.R_drew)); exact (Kd.R_mono (Kd.R_far (p := ⟨gb614, 1, none⟩) (Kd.R_far (p := ⟨gb614, 0, none⟩) (Kd.R_types HO603.out BK614.out (by decide)) (fun _ hk => hk.2) (.slice Ao26 t607.length co26)) (fun _ hk => hk.2) (.slice Ao29 t610.length co29)) (fun _ h_ => h_.1))))) (Kd.R_lt (by (with_reducible repeat (first | apply Kd.R_alloc | apply Kd.R_drewN | apply Kd.R_drew)); exact (Kd.R_mono (Kd.R_far (p := ⟨gb614, 1, none⟩) (Kd.R_far (p := ⟨gb614, 0, none⟩) (Kd.R_types HO606.out BK614.out (by decide)) (fun _ hk => hk.2) (.slice Ao26 t607.length co26)) (fun _ hk => hk.2) (.slice Ao29 t610.length co29)) (fun _ h_ => h_.1))))) (Kd.R_lt (by (with_reducible repeat (first | apply Kd.R_alloc | apply Kd.R_drewN | apply Kd.R_drew)); exact (Kd.R_mono (Kd.R_far (p := ⟨gb614, 1, none⟩) (Kd.R_far (p := ⟨gb614, 0, none⟩) (Kd.R_types HO609.out BK614.out (by decide)) (fun _ hk => hk.2) (.slice Ao26 t607.length co26)) (fun _ hk => hk.2) (.slice Ao29 t610.length co29)) (fun _ h_ => h_.1))))) (Kd.R_lt (by (with_reducible repeat (first | apply Kd.R_alloc | apply Kd.R_drewN | apply Kd.R_drew)); exact (Kd.R_mono (Kd.R_far (p := ⟨gb614, 1, none⟩) (Kd.R_far (p := ⟨gb614, 0, none⟩) (Kd.R_types HO612.out BK614.out (by decide)) (fun _ hk => hk.2) (.slice Ao26 t607.length co26)) (fun _ hk => hk.2) (.slice Ao29 t610.length co29)) (fun _ h_ => h_.1))))) (below_size zB)); have n6_ := Aside0.mk (blk_below (g := gb597) (o := .cells #[.slice A0_0 l0_0.length c0_0, .slice A0_1 l0_1.length c0_1] 29 (0, 0)) (by (with_reducible repeat (first | refine blk_drewN ?_ _ | refine blk_drew ?_ | refine blk_alloc ?_ _)); refine blk_far ?_ NB597_614.out _; (with_reducible repeat (first | refine blk_drewN ?_ _ | refine blk_drew ?_ | refine blk_alloc ?_ _)); refine blk_far ?_ NB597_614.out _; (with_reducible repeat (first | refine blk_drewN ?_ _ | refine blk_drew ?_ | refine blk_alloc ?_ _)); exact BK597.out) hb); have n7_ := Aside0.mk (blk_below (g := gb614) (o := .cells #[.slice Ao26 t607.length co26, .slice Ao29 t610.length co29] 29 (0, 0)) (by (with_reducible repeat (first | refine blk_drewN ?_ _ | refine blk_drew ?_ | refine blk_alloc ?_ _)); refine blk_put (cs := #[.slice Ao26 t607.length co26, .slice none 0 0]) ?_ 1 _ rfl; (with_reducible repeat (first | refine blk_drewN ?_ _ | refine blk_drew ?_ | refine blk_alloc ?_ _)); refine blk_put (cs := #[.slice none 0 0, .slice none 0 0]) ?_ 0 _ rfl; (with_reducible repeat (first | refine blk_drewN ?_ _ | refine blk_drew ?_ | refine blk_alloc ?_ _)); exact BK614.out) hb); have n8_ := Aside0.mk (below_step zB hb); clear HO603; clear HO606; clear HO609; clear HO612; clear BK597; clear BK614; clear HB; have HO603 := n0_; have HO606 := n1_; have HO609 := n2_; have HO612 := n3_; have HO617 := n4_; have HO620 := n5_; have BK597 := n6_; have BK614 := n7_; have HB := n8_; clear n0_ n1_ n2_ n3_ n4_ n5_ n6_ n7_ n8_; (try clear hb); (try clear hb2); (try clear hk); (try clear hi); (try clear ho0); (try clear ho1)) | ((with_reducible refine gate_dst (N := 9) rfl ?_); refine box_event ?hg (N := 9) ?hd (cs := #[.slice none 0 0, .slice none 0 0]) (t := 29) ?hr ?_; (case hd => rfl); (case hg => rfl); (case hr => first | (go_simp; done) | (go_simp; rfl)); intro gb622 hg w32 hbox hb; have n0_ := Aside0.mk (Kd.R_below (zR HO603) hb); have n1_ := Aside0.mk (Kd.R_below (zR HO606) hb); have n2_ := Aside0.mk (Kd.R_below (zR HO609) hb); have n3_ := Aside0.mk (Kd.R_below (zR HO612) hb); have n4_ := Aside0.mk (Kd.R_below (zR HO617) hb); have n5_ := Aside0.mk (Kd.R_below (zR HO620) hb); have n6_ := Aside0.mk (blk_below (g := gb597) (o := .cells #[.slice A0_0 l0_0.length c0_0, .slice A0_1 l0_1.length c0_1] 29 (0, 0)) (zk BK597) hb); have n7_ := Aside0.mk (blk_below (g := gb614) (o := .cells #[.slice Ao26 t607.length co26, .slice Ao29 t610.length co29] 29 (0, 0)) (zk BK614) hb); have n8_ := Aside0.mk (below_step zB hb); have n9_ := Aside0.mk (hbox); have n10_ := Aside0.mk ((by rw [hg]; exact (below_size zB) : w.heap.size ≤ gb622)); have n11_ := Aside0.mk ((by rw [hg]; exact (below_size zB) : w.heap.size ≤ gb622)); have n12_ := Aside0.mk ((by rw [hg]; exact Nat.ne_of_lt (blk_lt (g := gb597) (o := .cells #[.slice A0_0 l0_0.length c0_0, .slice A0_1 l0_1.length c0_1] 29 (0, 0)) (zk BK597)) : gb597 ≠ gb622)); have n13_ := Aside0.mk ((by rw [hg]; exact Nat.ne_of_gt (blk_lt (g := gb597) (o := .cells #[.slice A0_0 l0_0.length c0_0, .slice A0_1 l0_1.length c0_1] 29 (0, 0)) (zk BK597)) : gb622 ≠ gb597)); have n14_ := Aside0.mk ((by rw [hg]; exact Nat.ne_of_lt (blk_lt (g := gb614) (o := .cells #[.slice Ao26 t607.length co26, .slice Ao29 t610.length co29] 29 (0, 0)) (zk BK614)) : gb614 ≠ gb622)); have n15_ := Aside0.mk ((by rw [hg]; exact Nat.ne_of_gt (blk_lt (g := gb614) (o := .cells #[.slice Ao26 t607.length co26, .slice Ao29 t610.length co29] 29 (0, 0)) (zk BK614)) : gb622 ≠ gb614)); clear HO603; clear HO606; clear HO609; clear HO612; clear HO617; clear HO620; clear BK597; clear BK614; clear HB; have HO603 := n0_; have HO606 := n1_; have HO609 := n2_; have HO612 := n3_; have HO617 := n4_; have HO620 := n5_; have BK597 := n6_; have BK614 := n7_; have HB := n8_; have BK622 := n9_; have GW622 := n10_; have GE622 := n11_; have NB597_622 := n12_; have NB622_597 := n13_; have NB614_622 := n14_; have NB622_614 := n15_; clear n0_ n1_ n2_ n3_ n4_ n5_ n6_ n7_ n8_ n9_ n10_ n11_ n12_ n13_ n14_ n15_; clear hb hbox hg; obtain ⟨Ao33, co33, eo33⟩ := Kd.R_slice HO617.out; subst eo33; have hnb34 := NB622_597.out; have hnc34 := NB597_622.out; have hnb35 := NB622_614.out; have hnc35 := NB614_622.out; have hcz36_0 : w32.cell? ⟨gb622, 0, none⟩ = some (.slice none 0 0) := (blk_cell BK622.out 0).trans rfl; have hcz36_1 : w32.cell? ⟨gb622, 1, none⟩ = some (.slice none 0 0) := (blk_cell BK622.out 1).trans rfl; have hfz36_0 := blk_frozen BK622.out 0; have hfz36_1 := blk_frozen BK622.out 1; obtain ⟨Ao37, co37, eo37⟩ := Kd.R_slice HO620.out; subst eo37))
    (try simp only [Act.put, List.setIfInBounds_toArray, List.set_cons_zero, List.set_cons_succ])
    have H := HC19.out
    clear HC19
    by_cases c38 : t613 = t621
    ·rw [if_pos c38] at H
     have c38b0 : (t613 == t621) = true := beq_iff_eq.mpr c38
     have c38b1 : (t613 != t621) = false := bne_eq_false_iff_eq.mpr c38
     clear c38
     (first | rw [c38b0] | (simp only [i64_w, i32_w]; rw [c38b0]) | skip)
     (try rw [c38b1])
     replace H := Option.bind_eq_some_iff.mp H
     obtain ⟨t623, A390, H⟩ := H
     replace H : (some t623) = some r := H
     have A39 := Aside0.mk A390
     clear A390
     obtain rfl := Option.some.inj H
     have hnb40 := NB614_597.out
     have hnc40 := NB597_614.out
     have hnb41 := NB614_622.out
     have hnc41 := NB622_614.out
     have hcz42_0 : w32.cell? ⟨gb614, 0, none⟩ = some (.slice Ao26 t607.length co26) := (blk_cell BK614.out 0).trans rfl
     have hcz42_1 : w32.cell? ⟨gb614, 1, none⟩ = some (.slice Ao29 t610.length co29) := (blk_cell BK614.out 1).trans rfl
     have hfz42_0 := blk_frozen BK614.out 0
     have hfz42_1 := blk_frozen BK614.out 1
     have hnb43 := NB622_597.out
     have hnc43 := NB597_622.out
     have hcz44_0 : w32.cell? ⟨gb622, 0, none⟩ = some (.slice none 0 0) := (blk_cell BK622.out 0).trans rfl
     have hcz44_1 : w32.cell? ⟨gb622, 1, none⟩ = some (.slice none 0 0) := (blk_cell BK622.out 1).trans rfl
     have hfz44_0 := blk_frozen BK622.out 0
     have hfz44_1 := blk_frozen BK622.out 1
     go_wp2_with (first | (go_at_call 18; (with_reducible refine (ancepsref38_Equal.calls kj3 _ _ t607 _ _ t610 _ _ t615 _ _ t618 t623 _ ?side1 ?side2 ?side3 ?side4 ?side5 ?side6 ?side7 ?side8 A39.out).mono ?_); (case side1 => refine (Kd.R_reads' (e := 3) (base := w.heap.size) (ok := fun k_ => ((((some k_ ≠ (.slice Ao29 t610.length co29 : Value).ownBlock ∧ some k_ ≠ (.slice Ao22 t601.length co22 : Value).ownBlock) ∧ some k_ ≠ (.slice Ao23 t604.length co23 : Value).ownBlock) ∧ some k_ ≠ (.slice Ao33 t615.length co33 : Value).ownBlock) ∧ some k_ ≠ (.slice Ao37 t618.length co37 : Value).ownBlock)) (n := t607.length) (c := co26) ?_).2.2; exact (by (with_reducible repeat (first | apply Kd.R_alloc | apply Kd.R_drewN | apply Kd.R_drew)); exact (Kd.R_mono (Kd.R_far (p := ⟨gb622, 1, none⟩) (Kd.R_far (p := ⟨gb622, 0, none⟩) (Kd.R_types HO609.out BK622.out (by decide)) (fun _ hk => hk.2) (.slice Ao33 t615.length co33)) (fun _ hk => hk.2) (.slice Ao37 t618.length co37)) (fun _ h_ => h_.1)))); (case side2 => exact (Kd.R_reads' HO609.out).2.1); (case side3 => refine (Kd.R_reads' (e := 3) (base := w.heap.size) (ok := fun k_ => ((((some k_ ≠ (.slice Ao26 t607.length co26 : Value).ownBlock ∧ some k_ ≠ (.slice Ao22 t601.length co22 : Value).ownBlock) ∧ some k_ ≠ (.slice Ao23 t604.length co23 : Value).ownBlock) ∧ some k_ ≠ (.slice Ao33 t615.length co33 : Value).ownBlock) ∧ some k_ ≠ (.slice Ao37 t618.length co37 : Value).ownBlock)) (n := t610.length) (c := co29) ?_).2.2; exact (by (with_reducible repeat (first | apply Kd.R_alloc | apply Kd.R_drewN | apply Kd.R_drew)); exact (Kd.R_mono (Kd.R_far (p := ⟨gb622, 1, none⟩) (Kd.R_far (p := ⟨gb622, 0, none⟩) (Kd.R_types HO612.out BK622.out (by decide)) (fun _ hk => hk.2) (.slice Ao33 t615.length co33)) (fun _ hk => hk.2) (.slice Ao37 t618.length co37)) (fun _ h_ => h_.1)))); (case side4 => exact (Kd.R_reads' HO612.out).2.1); (case side5 => refine (Kd.R_reads' (e := 3) (base := w.heap.size) (ok := fun k_ => ((((some k_ ≠ (.slice Ao37 t618.length co37 : Value).ownBlock ∧ some k_ ≠ (.slice Ao22 t601.length co22 : Value).ownBlock) ∧ some k_ ≠ (.slice Ao23 t604.length co23 : Value).ownBlock) ∧ some k_ ≠ (.slice Ao26 t607.length co26 : Value).ownBlock) ∧ some k_ ≠ (.slice Ao29 t610.length co29 : Value).ownBlock)) (n := t615.length) (c := co33) ?_).2.2; exact (by (with_reducible repeat (first | apply Kd.R_alloc | apply Kd.R_drewN | apply Kd.R_drew)); exact (Kd.R_mono (Kd.R_far (p := ⟨gb622, 1, none⟩) (Kd.R_far (p := ⟨gb622, 0, none⟩) (Kd.R_types HO617.out BK622.out (by decide)) (fun _ hk => hk.2) (.slice Ao33 t615.length co33)) (fun _ hk => hk.2) (.slice Ao37 t618.length co37)) (fun _ h_ => h_.1)))); (case side6 => exact (Kd.R_reads' HO617.out).2.1); (case side7 => refine (Kd.R_reads' (e := 3) (base := w.heap.size) (ok := fun k_ => ((((some k_ ≠ (.slice Ao33 t615.length co33 : Value).ownBlock ∧ some k_ ≠ (.slice Ao22 t601.length co22 : Value).ownBlock) ∧ some k_ ≠ (.slice Ao23 t604.length co23 : Value).ownBlock) ∧ some k_ ≠ (.slice Ao26 t607.length co26 : Value).ownBlock) ∧ some k_ ≠ (.slice Ao29 t610.length co29 : Value).ownBlock)) (n := t618.length) (c := co37) ?_).2.2; exact (by (with_reducible repeat (first | apply Kd.R_alloc | apply Kd.R_drewN | apply Kd.R_drew)); exact (Kd.R_mono (Kd.R_far (p := ⟨gb622, 1, none⟩) (Kd.R_far (p := ⟨gb622, 0, none⟩) (Kd.R_types HO620.out BK622.out (by decide)) (fun _ hk => hk.2) (.slice Ao33 t615.length co33)) (fun _ hk => hk.2) (.slice Ao37 t618.length co37)) (fun _ h_ => h_.1)))); (case side8 => exact (Kd.R_reads' HO620.out).2.1); rintro e w45 ⟨rfl, hb⟩; have n0_ := Aside0.mk (Kd.R_below (by (with_reducible repeat (first | apply Kd.R_alloc | apply Kd.R_drewN | apply Kd.R_drew)); exact (Kd.R_mono (Kd.R_far (p := ⟨gb622, 1, none⟩) (Kd.R_far (p := ⟨gb622, 0, none⟩) (Kd.R_types HO603.out BK622.out (by decide)) (fun _ hk => hk.2) (.slice Ao33 t615.length co33)) (fun _ hk => hk.2) (.slice Ao37 t618.length co37)) (fun _ h_ => h_.1))) hb); have n1_ := Aside0.mk (Kd.R_below (by (with_reducible repeat (first | apply Kd.R_alloc | apply Kd.R_drewN | apply Kd.R_drew)); exact (Kd.R_mono (Kd.R_far (p := ⟨gb622, 1, none⟩) (Kd.R_far (p := ⟨gb622, 0, none⟩) (Kd.R_types HO606.out BK622.out (by decide)) (fun _ hk => hk.2) (.slice Ao33 t615.length co33)) (fun _ hk => hk.2) (.slice Ao37 t618.length co37)) (fun _ h_ => h_.1))) hb); have n2_ := Aside0.mk (Kd.R_below (by (with_reducible repeat (first | apply Kd.R_alloc | apply Kd.R_drewN | apply Kd.R_drew)); exact (Kd.R_mono (Kd.R_far (p := ⟨gb622, 1, none⟩) (Kd.R_far (p := ⟨gb622, 0, none⟩) (Kd.R_types HO609.out BK622.out (by decide)) (fun _ hk => hk.2) (.slice Ao33 t615.length co33)) (fun _ hk => hk.2) (.slice Ao37 t618.length co37)) (fun _ h_ => h_.1))) hb); have n3_ := Aside0.mk (Kd.R_below (by (with_reducible repeat (first | apply Kd.R_alloc | apply Kd.R_drewN | apply Kd.R_drew)); exact (Kd.R_mono (Kd.R_far (p := ⟨gb622, 1, none⟩) (Kd.R_far (p := ⟨gb622, 0, none⟩) (Kd.R_types HO612.out BK622.out (by decide)) (fun _ hk => hk.2) (.slice Ao33 t615.length co33)) (fun _ hk => hk.2) (.slice Ao37 t618.length co37)) (fun _ h_ => h_.1))) hb); have n4_ := Aside0.mk (Kd.R_below (by (with_reducible repeat (first | apply Kd.R_alloc | apply Kd.R_drewN | apply Kd.R_drew)); exact (Kd.R_mono (Kd.R_far (p := ⟨gb622, 1, none⟩) (Kd.R_far (p := ⟨gb622, 0, none⟩) (Kd.R_types HO617.out BK622.out (by decide)) (fun _ hk => hk.2) (.slice Ao33 t615.length co33)) (fun _ hk => hk.2) (.slice Ao37 t618.length co37)) (fun _ h_ => h_.1))) hb); have n5_ := Aside0.mk (Kd.R_below (by (with_reducible repeat (first | apply Kd.R_alloc | apply Kd.R_drewN | apply Kd.R_drew)); exact (Kd.R_mono (Kd.R_far (p := ⟨gb622, 1, none⟩) (Kd.R_far (p := ⟨gb622, 0, none⟩) (Kd.R_types HO620.out BK622.out (by decide)) (fun _ hk => hk.2) (.slice Ao33 t615.length co33)) (fun _ hk => hk.2) (.slice Ao37 t618.length co37)) (fun _ h_ => h_.1))) hb); have n6_ := Aside0.mk (blk_below (g := gb597) (o := .cells #[.slice A0_0 l0_0.length c0_0, .slice A0_1 l0_1.length c0_1] 29 (0, 0)) (by (with_reducible repeat (first | refine blk_drewN ?_ _ | refine blk_drew ?_ | refine blk_alloc ?_ _)); refine blk_far ?_ NB597_622.out _; (with_reducible repeat (first | refine blk_drewN ?_ _ | refine blk_drew ?_ | refine blk_alloc ?_ _)); refine blk_far ?_ NB597_622.out _; (with_reducible repeat (first | refine blk_drewN ?_ _ | refine blk_drew ?_ | refine blk_alloc ?_ _)); exact BK597.out) hb); have n7_ := Aside0.mk (blk_below (g := gb614) (o := .cells #[.slice Ao26 t607.length co26, .slice Ao29 t610.length co29] 29 (0, 0)) (by (with_reducible repeat (first | refine blk_drewN ?_ _ | refine blk_drew ?_ | refine blk_alloc ?_ _)); refine blk_far ?_ NB614_622.out _; (with_reducible repeat (first | refine blk_drewN ?_ _ | refine blk_drew ?_ | refine blk_alloc ?_ _)); refine blk_far ?_ NB614_622.out _; (with_reducible repeat (first | refine blk_drewN ?_ _ | refine blk_drew ?_ | refine blk_alloc ?_ _)); exact BK614.out) hb); have n8_ := Aside0.mk (blk_below (g := gb622) (o := .cells #[.slice Ao33 t615.length co33, .slice Ao37 t618.length co37] 29 (0, 0)) (by (with_reducible repeat (first | refine blk_drewN ?_ _ | refine blk_drew ?_ | refine blk_alloc ?_ _)); refine blk_put (cs := #[.slice Ao33 t615.length co33, .slice none 0 0]) ?_ 1 _ rfl; (with_reducible repeat (first | refine blk_drewN ?_ _ | refine blk_drew ?_ | refine blk_alloc ?_ _)); refine blk_put (cs := #[.slice none 0 0, .slice none 0 0]) ?_ 0 _ rfl; (with_reducible repeat (first | refine blk_drewN ?_ _ | refine blk_drew ?_ | refine blk_alloc ?_ _)); exact BK622.out) hb); have n9_ := Aside0.mk (below_step zB hb); clear HO603; clear HO606; clear HO609; clear HO612; clear HO617; clear HO620; clear BK597; clear BK614; clear BK622; clear HB; have HO603 := n0_; have HO606 := n1_; have HO609 := n2_; have HO612 := n3_; have HO617 := n4_; have HO620 := n5_; have BK597 := n6_; have BK614 := n7_; have BK622 := n8_; have HB := n9_; clear n0_ n1_ n2_ n3_ n4_ n5_ n6_ n7_ n8_ n9_; (try clear hb); (try clear hb2); (try clear hk); (try clear hi)))
     go_ret
     exact ⟨by first | rfl | (simp [errW_none, errW_some] <;> rfl) | (simp [*, errW_none, errW_some] <;> rfl), by repeat (first | (with_reducible first | exact HB.out | apply below_alloc | apply pw_below_drewN | apply below_drew1 | refine below_set ?_ GE597.out | refine below_set ?_ GE614.out | refine below_set ?_ GE622.out) | exact HB.out)⟩
    ·rw [if_neg c38] at H
     have c38b0 : (t613 == t621) = false := beq_eq_false_iff_ne.mpr c38
     have c38b1 : (t613 != t621) = true := bne_iff_ne.mpr c38
     (first | rw [c38b0] | (simp only [i64_w, i32_w]; rw [c38b0]) | skip)
     (try rw [c38b1])
     obtain rfl := Option.some.inj H
     go_wp2
     go_ret
     exact ⟨by first | rfl | (simp [errW_none, errW_some] <;> rfl) | (simp [*, errW_none, errW_some] <;> rfl), by repeat (first | (with_reducible first | exact HB.out | apply below_alloc | apply pw_below_drewN | apply below_drew1 | refine below_set ?_ GE597.out | refine below_set ?_ GE614.out | refine below_set ?_ GE622.out) | exact HB.out)⟩
end Go.Proofs.Ythcfmdkhkikbcaa.T
