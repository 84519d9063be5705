-- Written by wip/tools/myprint.py, a program of this session's.
import Derived.Test.YtanbffoilianhaaE0
import Derived.Test.YtanbffoilianhaaE7
import Derived.Test.YtanbffoilianhaaE11
import Derived.Test.YtanbffoilianhaaE18
namespace Go.Proofs.Ytanbffoilianhaa.E
open Go.RowKit Go.Proofs.YtanbffoilianhaaW.PrintWords Go.Proofs.YtanbffoilianhaaW.PrintLast Go.Proofs.YtanbffoilianhaaW.PrintMore
attribute [local go_sem] max2_int min2_int max_two min_two max_three min_three max_four min_four   -- for this text's walks alone
set_option linter.unusedVariables false
set_option linter.unusedSimpArgs false
/-! ### ancepsref09_Trim: function 36 -/
mutual
def ancepsref09_Trim.l0 : Nat → List Bool → List Int → List Int → List Int → Int → Int → List (S69) → Option (Int × (List (S69)) × List Int × Int)
 | 0, _, _, _, _, _, _, _ => none
 | k + 1, x6, x7, x8, x9, x10, x548000, x548001 => if x10 < x548000 then (if 0 ≤ x10 then (if x10 < (x9.length : Int) then ((some (x9.set (x10 : Int).toNat (-1) : List Int)).bind fun y560 => (if x10 < (x6.length : Int) then (if rdOf false x6 x10 = true then (if x10 < (x7.length : Int) then (if (rd x7 x10) > 0 then (if x8.length < 17592186044416 then (ancepsref09_Trim.l0 k x6 x7 (x8 ++ [x10]) (y560.set (x10 : Int).toNat (x8.length : Int)) (wrap64 (x10 + 1)) x548000 x548001) else (none)) else (ancepsref09_Trim.l0 k x6 x7 x8 y560 (wrap64 (x10 + 1)) x548000 x548001)) else (none)) else (ancepsref09_Trim.l0 k x6 x7 x8 y560 (wrap64 (x10 + 1)) x548000 x548001)) else (none))) else (none)) else (none)) else (ancepsref09_Trim.l1 k x8 x9 0 x548000 x548001 (x8.length : Int) ([] : List (S69)))
def ancepsref09_Trim.l1 : Nat → List Int → List Int → Int → Int → List (S69) → Int → List (S69) → Option (Int × (List (S69)) × List Int × Int)
 | 0, _, _, _, _, _, _, _ => none
 | k + 1, x8, x9, x12, x548000, x548001, x568000, x568001 => if x12 < (x548001.length : Int) then (if 0 ≤ x12 then (if 0 ≤ ((rd_T69 x548001 x12).f0) then (if ((rd_T69 x548001 x12).f0) < (x9.length : Int) then (if (rd x9 ((rd_T69 x548001 x12).f0)) ≥ 0 then (if 0 ≤ ((rd_T69 x548001 x12).f1) then (if ((rd_T69 x548001 x12).f1) < (x9.length : Int) then (if (rd x9 ((rd_T69 x548001 x12).f1)) ≥ 0 then (if x568001.length < 5864062014805 then (ancepsref09_Trim.l1 k x8 x9 (wrap64 (x12 + 1)) x548000 x548001 x568000 (x568001 ++ [(⟨rd x9 ((rd_T69 x548001 x12).f0), rd x9 ((rd_T69 x548001 x12).f1), (rd_T69 x548001 x12).f2⟩ : S69)])) else (none)) else (ancepsref09_Trim.l1 k x8 x9 (wrap64 (x12 + 1)) x548000 x548001 x568000 x568001)) else (none)) else (none)) else (ancepsref09_Trim.l1 k x8 x9 (wrap64 (x12 + 1)) x548000 x548001 x568000 x568001)) else (none)) else (none)) else (none)) else (some (x568000, x568001, x8, 0))
end
def ancepsref09_Trim.f (k : Nat) (a0_0 : Int) (l0_1 : List (S69)) : Option (Int × (List (S69)) × List Int × Int) := (ancepsref09_Valid.f k a0_0 l0_1).bind fun t549 => (if t549 = 0 then ((ancepsref09_reached.f k a0_0 l0_1).bind fun t550 => ((ancepsref09_ways.f k a0_0 l0_1).bind fun t553 => (if 0 < (t553.length : Int) then (if (rd t553 0) = 0 then (some (0, ([] : List (S69)), ([] : List Int), 10)) else (if 0 ≤ a0_0 then (if (a0_0 : Int).toNat ≤ 35184372088832 then (ancepsref09_Trim.l0 k t550 t553 ([] : List Int) (List.replicate (a0_0 : Int).toNat 0) 0 a0_0 l0_1) else (none)) else (none))) else (none)))) else (some (0, ([] : List (S69)), ([] : List Int), t549)))
theorem ancepsref09_Trim.mono_l : ∀ k, (∀ y0 y1 y2 y3 y4 y5 y6, LeO (ancepsref09_Trim.l0 k y0 y1 y2 y3 y4 y5 y6) (ancepsref09_Trim.l0 (k + 1) y0 y1 y2 y3 y4 y5 y6)) ∧ (∀ y0 y1 y2 y3 y4 y5 y6, LeO (ancepsref09_Trim.l1 k y0 y1 y2 y3 y4 y5 y6) (ancepsref09_Trim.l1 (k + 1) y0 y1 y2 y3 y4 y5 y6))
 | 0 => ⟨fun _ _ _ _ _ _ _ r h => by simp [ancepsref09_Trim.l0] at h, fun _ _ _ _ _ _ _ r h => by simp [ancepsref09_Trim.l1] at h⟩
 | k + 1 => by
  obtain ⟨ih0, ih1⟩ := ancepsref09_Trim.mono_l k
  refine ⟨?_, ?_⟩
  ·intro y0 y1 y2 y3 y4 y5 y6
   unfold ancepsref09_Trim.l0
   repeat' first
   | (with_reducible exact ih0 _ _ _ _ _ _ _)
   | (with_reducible exact ih1 _ _ _ _ _ _ _)
   | (with_reducible exact ancepsref09_Valid.mono _ _ _)
   | (with_reducible exact ancepsref09_reached.mono _ _ _)
   | (with_reducible exact ancepsref09_ways.mono _ _ _)
   | (with_reducible exact LeO.refl _)
   | (with_reducible exact LeO.none _)
   | (with_reducible refine LeO.ite ?_ ?_)
   | (with_reducible refine LeO.bind ?_ (fun _ => ?_))
   | exact ih0 _ _ _ _ _ _ _
   | exact ih1 _ _ _ _ _ _ _
   | exact ancepsref09_Valid.mono _ _ _
   | exact ancepsref09_reached.mono _ _ _
   | exact ancepsref09_ways.mono _ _ _
   | exact LeO.none _
   | refine LeO.ite ?_ ?_
   | refine LeO.bind ?_ (fun _ => ?_)
  ·intro y0 y1 y2 y3 y4 y5 y6
   unfold ancepsref09_Trim.l1
   repeat' first
   | (with_reducible exact ih0 _ _ _ _ _ _ _)
   | (with_reducible exact ih1 _ _ _ _ _ _ _)
   | (with_reducible exact ancepsref09_Valid.mono _ _ _)
   | (with_reducible exact ancepsref09_reached.mono _ _ _)
   | (with_reducible exact ancepsref09_ways.mono _ _ _)
   | (with_reducible exact LeO.refl _)
   | (with_reducible exact LeO.none _)
   | (with_reducible refine LeO.ite ?_ ?_)
   | (with_reducible refine LeO.bind ?_ (fun _ => ?_))
   | exact ih0 _ _ _ _ _ _ _
   | exact ih1 _ _ _ _ _ _ _
   | exact ancepsref09_Valid.mono _ _ _
   | exact ancepsref09_reached.mono _ _ _
   | exact ancepsref09_ways.mono _ _ _
   | exact LeO.none _
   | refine LeO.ite ?_ ?_
   | refine LeO.bind ?_ (fun _ => ?_)
theorem ancepsref09_Trim.mono : ∀ a0 a1 k, LeO (ancepsref09_Trim.f k a0 a1) (ancepsref09_Trim.f (k + 1) a0 a1) := by
 intro a0 a1 k
 obtain ⟨ih0, ih1⟩ := ancepsref09_Trim.mono_l k
 unfold ancepsref09_Trim.f
 repeat' first
   | (with_reducible exact ih0 _ _ _ _ _ _ _)
   | (with_reducible exact ih1 _ _ _ _ _ _ _)
   | (with_reducible exact ancepsref09_Valid.mono _ _ _)
   | (with_reducible exact ancepsref09_reached.mono _ _ _)
   | (with_reducible exact ancepsref09_ways.mono _ _ _)
   | (with_reducible exact LeO.refl _)
   | (with_reducible exact LeO.none _)
   | (with_reducible refine LeO.ite ?_ ?_)
   | (with_reducible refine LeO.bind ?_ (fun _ => ?_))
   | exact ih0 _ _ _ _ _ _ _
   | exact ih1 _ _ _ _ _ _ _
   | exact ancepsref09_Valid.mono _ _ _
   | exact ancepsref09_reached.mono _ _ _
   | exact ancepsref09_ways.mono _ _ _
   | exact LeO.none _
   | refine LeO.ite ?_ ?_
   | refine LeO.bind ?_ (fun _ => ?_)
def ancepsref09_Trim.T22 : Bool × List (List Nat × List Nat) := (true, [([], []), ([0], [0]), ([], []), ([], []), ([3], [3]), ([2, 4], [2, 4]), ([5], [5]), ([], []), ([], []), ([8], [8]), ([7, 9], [7, 9]), ([10], [10]), ([], []), ([12], [12]), ([6, 11, 13], [6, 11, 13]), ([14], [14]), ([1, 15], [1, 15]), ([0, 1, 2, 3, 4, 5, 6, 7, 8, 9, 10, 11, 12, 13, 14, 15, 16], []), ([17, 16, 16, 0, 1, 2, 3, 4, 5, 6, 7, 8, 9, 10, 11, 12, 13, 14, 15, 16], [16, 17])])
def ancepsref09_Trim.B22 : List Nat := [0, 1, 0, 0, 8, 28, 60, 0, 0, 256, 896, 1920, 0, 4096, 16380, 32764, 65535, 131071, 262143]
theorem ancepsref09_Trim.tab22 : rtab .any (opsOf Try.f36 22) = ancepsref09_Trim.T22 := by kernel_rfl
theorem ancepsref09_Trim.bits22 : waitsOk ancepsref09_Trim.T22.2 ancepsref09_Trim.B22 = true := by kernel_rfl
set_option maxHeartbeats 8000000 in
set_option maxRecDepth 100000 in
theorem ancepsref09_Trim.calls (k : Nat) (a0_0 : Int) (A0_1 : Option Addr) (c0_1 : Nat) (l0_1 : List (S69)) (r1 : Int) (r2 : List (S69)) (r3 : List Int) (r4 : Int) (w : World) (hr0_1 : Kd.C k69 w A0_1 l0_1.length l0_1) (hc0_1 : l0_1.length ≤ c0_1) (h : ancepsref09_Trim.f k a0_0 l0_1 = some (r1, r2, r3, r4)) :
  Calls Try.prog 36 #[.agg #[.int .i64 a0_0, .slice A0_1 l0_1.length c0_1]] w fun e w' => ∃ v1_ v2_ : Value, e = .returned (.tuple #[.agg #[.int .i64 r1, v1_], v2_, .int .i64 r4]) ∧ Kd.R k69 69 w' w.heap.size (fun _ => True) v1_ r2 ∧ Kd.R (Kd.int .i64) 3 w' w.heap.size (fun _ => True) v2_ r3 ∧ Below w.heap.size w w' := by
 have hu24 := Try.underlying24
 have hu2 := Try.underlying2
 have hu3 := Try.underlying3
 have hu4 := Try.underlying4
 have hu22 := Try.underlying22
 have hu69 := Try.underlying69
 have HR0_1 := Aside0.mk hr0_1
 have HC0_1 := Aside0.mk hc0_1
 clear hr0_1 hc0_1
 have HB := Aside0.mk (Below.refl w.heap.size w)
 have H : ((ancepsref09_Valid.f k a0_0 l0_1).bind fun t549 => (if t549 = 0 then ((ancepsref09_reached.f k a0_0 l0_1).bind fun t550 => ((ancepsref09_ways.f k a0_0 l0_1).bind fun t553 => (if 0 < (t553.length : Int) then (if (rd t553 0) = 0 then (some (0, ([] : List (S69)), ([] : List Int), 10)) else (if 0 ≤ a0_0 then (if (a0_0 : Int).toNat ≤ 35184372088832 then (ancepsref09_Trim.l0 k t550 t553 ([] : List Int) (List.replicate (a0_0 : Int).toNat 0) 0 a0_0 l0_1) else (none)) else (none))) else (none)))) else (some (0, ([] : List (S69)), ([] : List Int), t549)))) = some (r1, r2, r3, r4) := h
 clear h
 replace H := Option.bind_eq_some_iff.mp H
 obtain ⟨t549, A20, H⟩ := H
 replace H : (if t549 = 0 then ((ancepsref09_reached.f k a0_0 l0_1).bind fun t550 => ((ancepsref09_ways.f k a0_0 l0_1).bind fun t553 => (if 0 < (t553.length : Int) then (if (rd t553 0) = 0 then (some (0, ([] : List (S69)), ([] : List Int), 10)) else (if 0 ≤ a0_0 then (if (a0_0 : Int).toNat ≤ 35184372088832 then (ancepsref09_Trim.l0 k t550 t553 ([] : List Int) (List.replicate (a0_0 : Int).toNat 0) 0 a0_0 l0_1) else (none)) else (none))) else (none)))) else (some (0, ([] : List (S69)), ([] : List Int), t549))) = some (r1, r2, r3, r4) := H
 have A2 := Aside0.mk A20
 clear A20
 have HC3 := Aside0.mk H
 clear H
 go_enter Try.func36, Try.ntmps36
 go_upto_if 17 with (first | ((with_reducible refine gate_dst (N := 1) rfl ?_); refine box_event ?hg (N := 1) ?hd (cs := #[.int .i64 a0_0, .slice A0_1 l0_1.length c0_1]) (t := 24) ?hr ?_; (case hd => rfl); (case hg => rfl); (case hr => first | (go_simp; done) | (go_simp; rfl)); intro gb547 hg w4 hbox hb; have n0_ := Aside0.mk (below_step zB hb); have n1_ := Aside0.mk (hbox); have n2_ := Aside0.mk ((by rw [hg]; exact (below_size zB) : w.heap.size ≤ gb547)); have n3_ := Aside0.mk ((by rw [hg]; exact (below_size zB) : w.heap.size ≤ gb547)); clear HB; have HB := n0_; have BK547 := n1_; have GW547 := n2_; have GE547 := n3_; clear n0_ n1_ n2_ n3_; clear hb hbox hg) | ((with_reducible refine gate_dst (N := 2) rfl ?_); refine box_event ?hg (N := 2) ?hd (cs := #[.int .i64 0, .slice none 0 0]) (t := 24) ?hr ?_; (case hd => rfl); (case hg => rfl); (case hr => first | (go_simp; done) | (go_simp; rfl)); intro gb548 hg w5 hbox hb; have n0_ := Aside0.mk (blk_below (g := gb547) (o := .cells #[.int .i64 a0_0, .slice A0_1 l0_1.length c0_1] 24 (0, 0)) (zk BK547) hb); have n1_ := Aside0.mk (below_step zB hb); have n2_ := Aside0.mk (hbox); have n3_ := Aside0.mk ((by rw [hg]; exact (below_size zB) : w.heap.size ≤ gb548)); have n4_ := Aside0.mk ((by rw [hg]; exact (below_size zB) : w.heap.size ≤ gb548)); have n5_ := Aside0.mk ((by rw [hg]; exact Nat.ne_of_lt (blk_lt (g := gb547) (o := .cells #[.int .i64 a0_0, .slice A0_1 l0_1.length c0_1] 24 (0, 0)) (zk BK547)) : gb547 ≠ gb548)); have n6_ := Aside0.mk ((by rw [hg]; exact Nat.ne_of_gt (blk_lt (g := gb547) (o := .cells #[.int .i64 a0_0, .slice A0_1 l0_1.length c0_1] 24 (0, 0)) (zk BK547)) : gb548 ≠ gb547)); clear BK547; clear HB; have BK547 := n0_; have HB := n1_; have BK548 := n2_; have GW548 := n3_; have GE548 := n4_; have NB547_548 := n5_; have NB548_547 := n6_; clear n0_ n1_ n2_ n3_ n4_ n5_ n6_; clear hb hbox hg; have hnb6 := NB547_548.out; have hnc6 := NB548_547.out; have hcz7_0 : w5.cell? ⟨gb547, 0, none⟩ = some (.int .i64 a0_0) := (blk_cell BK547.out 0).trans rfl; have hcz7_1 : w5.cell? ⟨gb547, 1, none⟩ = some (.slice A0_1 l0_1.length c0_1) := (blk_cell BK547.out 1).trans rfl; have hfz7_0 := blk_frozen BK547.out 0; have hfz7_1 := blk_frozen BK547.out 1) | ((with_reducible refine gate_callee (f := 28) rfl ?_); refine goesL_ (some 15) rfl rfl Try.func28 zK rfl #[.agg #[.int .i64 a0_0, .slice A0_1 l0_1.length c0_1]] rfl zM ?_; (with_reducible refine (ancepsref09_Valid.calls k a0_0 _ _ l0_1 t549 _ ?side1 ?side2 A2.out).mono ?_); (case side1 => repeat (first | exact (Kd.C_below HR0_1.out HB.out) | (with_reducible refine Kd.C_alloc ?_ _) | (with_reducible refine Kd.C_drewN ?_ _) | (with_reducible refine Kd.C_drew ?_))); (case side2 => exact HC0_1.out); rintro e w8 ⟨rfl, hb⟩; refine ⟨_, rfl, ?_⟩; have n0_ := Aside0.mk (blk_below (g := gb547) (o := .cells #[.int .i64 a0_0, .slice A0_1 l0_1.length c0_1] 24 (0, 0)) (zk BK547) hb); have n1_ := Aside0.mk (blk_below (g := gb548) (o := .cells #[.int .i64 0, .slice none 0 0] 24 (0, 0)) (zk BK548) hb); have n2_ := Aside0.mk (below_step zB hb); clear BK547; clear BK548; clear HB; have BK547 := n0_; have BK548 := n1_; have HB := n2_; clear n0_ n1_ n2_; (try clear hb); (try clear hb2); (try clear hk); (try clear hi)))
 (try simp only [Act.put, List.setIfInBounds_toArray, List.set_cons_zero, List.set_cons_succ])
 have H := HC3.out
 clear HC3
 by_cases c9 : t549 = 0
 ·rw [if_pos c9] at H
  have c9b0 : (t549 == 0) = true := beq_iff_eq.mpr c9
  have c9b1 : (t549 != 0) = false := bne_eq_false_iff_eq.mpr c9
  clear c9
  (first | rw [c9b0] | (simp only [i64_w, i32_w]; rw [c9b0]) | skip)
  (try rw [c9b1])
  replace H := Option.bind_eq_some_iff.mp H
  obtain ⟨t550, A100, H⟩ := H
  replace H : ((ancepsref09_ways.f k a0_0 l0_1).bind fun t553 => (if 0 < (t553.length : Int) then (if (rd t553 0) = 0 then (some (0, ([] : List (S69)), ([] : List Int), 10)) else (if 0 ≤ a0_0 then (if (a0_0 : Int).toNat ≤ 35184372088832 then (ancepsref09_Trim.l0 k t550 t553 ([] : List Int) (List.replicate (a0_0 : Int).toNat 0) 0 a0_0 l0_1) else (none)) else (none))) else (none))) = some (r1, r2, r3, r4) := H
  have A10 := Aside0.mk A100
  clear A100
  replace H := Option.bind_eq_some_iff.mp H
  obtain ⟨t553, A110, H⟩ := H
  replace H : (if 0 < (t553.length : Int) then (if (rd t553 0) = 0 then (some (0, ([] : List (S69)), ([] : List Int), 10)) else (if 0 ≤ a0_0 then (if (a0_0 : Int).toNat ≤ 35184372088832 then (ancepsref09_Trim.l0 k t550 t553 ([] : List Int) (List.replicate (a0_0 : Int).toNat 0) 0 a0_0 l0_1) else (none)) else (none))) else (none)) = some (r1, r2, r3, r4) := H
  have A11 := Aside0.mk A110
  clear A110
  by_cases c12 : 0 < (t553.length : Int)
  ·rw [if_pos c12] at H
   have c12b0 : decide (0 < (t553.length : Int)) = true := decide_eq_true c12
   have c12b1 : decide (0 < t553.length) = true := decide_eq_true (by omega)
   clear c12
   have HC13 := Aside0.mk H
   clear H
   try go_wp2
   have n0_ := Aside0.mk (blk_drew BK547.out)
   have n1_ := Aside0.mk (blk_drew BK548.out)
   have n2_ := Aside0.mk (below_drew1 HB.out)
   clear BK547
   clear BK548
   clear HB
   have BK547 := n0_
   have BK548 := n1_
   have HB := n2_
   clear n0_ n1_ n2_
   refine start_ (n := 6) (S := fun w' => w'.cell? ⟨gb547, 0, none⟩ = some (.int .i64 a0_0) ∧ w'.cell? ⟨gb547, 1, none⟩ = some (.slice A0_1 l0_1.length c0_1)) (ds := []) #[false, false, false, false, false, false] zK rfl rfl ⟨(blk_cell BK547.out 0).trans rfl, (blk_cell BK547.out 1).trans rfl⟩ (fun hHeld => ?_)
   generalize w8.drew = w14 at BK547 BK548 HB hHeld ⊢
   refine take_ (i := 0) (N := some 20) (v := ?_) (a' := ?_) #[true, false, false, false, false, false] rfl rfl zK (fun _ _ _ h => h) (Or.inl ⟨by rfl, ?_⟩) hHeld ?_ ?_
   rotate_left
   ·rintro w' ⟨s0, s1⟩
    go_simp
    with_reducible rfl
   rotate_left
   ·simp only [Act.put, List.setIfInBounds_toArray, List.set_cons_zero, List.set_cons_succ, i64_w, i32_w]
    rfl
   refine take_ (i := 2) (N := some 22) (v := ?_) (a' := ?_) #[true, false, true, false, false, false] rfl rfl zK (fun _ _ _ h => h) (Or.inl ⟨by rfl, ?_⟩) hHeld ?_ ?_
   rotate_left
   ·rintro w' ⟨s0, s1⟩
    go_simp
    with_reducible rfl
   rotate_left
   ·simp only [Act.put, List.setIfInBounds_toArray, List.set_cons_zero, List.set_cons_succ, i64_w, i32_w]
    rfl
   refine one_ (i := 1) (N := some 21) #[true, true, true, false, false, false] rfl rfl zK (by decide) (fun K hK => ?_)
   refine goes_ Try.func66 zK rfl #[.agg #[.int .i64 a0_0, .slice A0_1 l0_1.length c0_1]] (by rfl) rfl rfl zM ?_
   with_reducible refine (ancepsref09_reached.calls k a0_0 _ _ l0_1 t550 _ ?side1 ?side2 A10.out).mono ?_
   (case side1 => repeat (first | exact (Kd.C_below HR0_1.out HB.out) | (with_reducible refine Kd.C_alloc ?_ _) | (with_reducible refine Kd.C_drewN ?_ _) | (with_reducible refine Kd.C_drew ?_)))
   (case side2 => exact HC0_1.out)
   rintro e w15 ⟨v551, rfl, ho0, hb⟩
   refine ⟨_, rfl, ?_⟩
   have n0_ := Aside0.mk (Kd.R_lower ho0 (below_size zB))
   have n1_ := Aside0.mk (blk_below (g := gb547) (o := .cells #[.int .i64 a0_0, .slice A0_1 l0_1.length c0_1] 24 (0, 0)) (zk BK547) hb)
   have n2_ := Aside0.mk (blk_below (g := gb548) (o := .cells #[.int .i64 0, .slice none 0 0] 24 (0, 0)) (zk BK548) hb)
   have n3_ := Aside0.mk (below_step zB hb)
   clear BK547
   clear BK548
   clear HB
   have HO552 := n0_
   have BK547 := n1_
   have BK548 := n2_
   have HB := n3_
   clear n0_ n1_ n2_ n3_
   (try clear hb)
   (try clear hb2)
   (try clear hk)
   (try clear hi)
   (try clear ho0)
   refine hK.out _ _ ⟨(blk_cell BK547.out 0).trans rfl, (blk_cell BK547.out 1).trans rfl⟩ (fun hHeld => ?_)
   clear hK K
   refine norm_ (a' := ?_) ?_ ?_
   rotate_left
   ·show Act.put _ (some 21) _ = _
    simp only [Act.put, List.setIfInBounds_toArray, List.set_cons_zero, List.set_cons_succ, i64_w, i32_w]
    rfl
   refine one_ (i := 3) (N := some 23) #[true, true, true, true, false, false] rfl rfl zK (by decide) (fun K hK => ?_)
   refine goes_ Try.func57 zK rfl #[.agg #[.int .i64 a0_0, .slice A0_1 l0_1.length c0_1]] (by rfl) rfl rfl zM ?_
   with_reducible refine (ancepsref09_ways.calls k a0_0 _ _ l0_1 t553 _ ?side1 ?side2 A11.out).mono ?_
   (case side1 => repeat (first | exact (Kd.C_below HR0_1.out HB.out) | (with_reducible refine Kd.C_alloc ?_ _) | (with_reducible refine Kd.C_drewN ?_ _) | (with_reducible refine Kd.C_drew ?_)))
   (case side2 => exact HC0_1.out)
   rintro e w16 ⟨v554, rfl, ho0, hb⟩
   refine ⟨_, rfl, ?_⟩
   have n0_ := Aside0.mk (Kd.R_below (zR HO552) hb)
   have n1_ := Aside0.mk (Kd.R_lower ho0 (below_size zB))
   have n2_ := Aside0.mk (blk_below (g := gb547) (o := .cells #[.int .i64 a0_0, .slice A0_1 l0_1.length c0_1] 24 (0, 0)) (zk BK547) hb)
   have n3_ := Aside0.mk (blk_below (g := gb548) (o := .cells #[.int .i64 0, .slice none 0 0] 24 (0, 0)) (zk BK548) hb)
   have n4_ := Aside0.mk (below_step zB hb)
   clear HO552
   clear BK547
   clear BK548
   clear HB
   have HO552 := n0_
   have HO555 := n1_
   have BK547 := n2_
   have BK548 := n3_
   have HB := n4_
   clear n0_ n1_ n2_ n3_ n4_
   (try clear hb)
   (try clear hb2)
   (try clear hk)
   (try clear hi)
   (try clear ho0)
   refine hK.out _ _ ⟨(blk_cell BK547.out 0).trans rfl, (blk_cell BK547.out 1).trans rfl⟩ (fun hHeld => ?_)
   clear hK K
   refine norm_ (a' := ?_) ?_ ?_
   rotate_left
   ·show Act.put _ (some 23) _ = _
    simp only [Act.put, List.setIfInBounds_toArray, List.set_cons_zero, List.set_cons_succ, i64_w, i32_w]
    rfl
   refine pure_ (i := 4) (N := some 6) (v := ?_) (a' := ?_) #[true, true, true, true, true, false] rfl rfl zK (fun _ _ _ h => h) (Or.inl ⟨by rfl, ?_⟩) ?_ ?_
   rotate_left
   ·intro w'
    go_simp
    with_reducible rfl
   rotate_left
   ·simp only [Act.put, List.setIfInBounds_toArray, List.set_cons_zero, List.set_cons_succ, i64_w, i32_w]
    rfl
   refine pure_ (i := 5) (N := some 7) (v := ?_) (a' := ?_) #[true, true, true, true, true, true] rfl rfl zK (fun _ _ _ h => h) (Or.inl ⟨by rfl, ?_⟩) ?_ ?_
   rotate_left
   ·intro w'
    go_simp
    with_reducible rfl
   rotate_left
   ·simp only [Act.put, List.setIfInBounds_toArray, List.set_cons_zero, List.set_cons_succ, i64_w, i32_w]
    rfl
   refine done_ zK ?_
   obtain ⟨Ao17, co17, eo17⟩ := Kd.R_slice HO555.out
   subst eo17
   have p556 : 0 ≤ (0 : Int) := (by omega)
   have q556 : 0 < (t553.length : Int) := of_decide_eq_true zh
   obtain ⟨ad556, e556, hx556_0⟩ := Kd.at_int (Kd.R_reads' HO555.out).2.2 0 p556 q556
   cases e556
   have qi556 : (0 < t553.length) = True := eq_true (by omega)
   (try rw [show ((0 : Int)).toNat = 0 from rfl] at hx556_0)
   (try rw [Addr.add_zero'] at hx556_0)
   replace p556 := eq_true p556
   replace q556 := eq_true q556
   go_upto_if 27 with (fail)
   (try simp only [Act.put, List.setIfInBounds_toArray, List.set_cons_zero, List.set_cons_succ])
   have H := HC13.out
   clear HC13
   by_cases c18 : (rd t553 0) = 0
   ·rw [if_pos c18] at H
    have c18b0 : ((rd t553 0) == 0) = true := beq_iff_eq.mpr c18
    have c18b1 : ((rd t553 0) != 0) = false := bne_eq_false_iff_eq.mpr c18
    clear c18
    (first | rw [c18b0] | (simp only [i64_w, i32_w]; rw [c18b0]) | skip)
    (try rw [c18b1])
    simp only [Option.some.injEq, Prod.mk.injEq] at H
    obtain ⟨rfl, rfl, rfl, rfl⟩ := H
    have hnb19 := NB548_547.out
    have hnc19 := NB547_548.out
    have hcz20_0 : w16.cell? ⟨gb548, 0, none⟩ = some (.int .i64 0) := (blk_cell BK548.out 0).trans rfl
    have hcz20_1 : w16.cell? ⟨gb548, 1, none⟩ = some (.slice none 0 0) := (blk_cell BK548.out 1).trans rfl
    have hfz20_0 := blk_frozen BK548.out 0
    have hfz20_1 := blk_frozen BK548.out 1
    go_wp2
    refine bodyPost_ret (results_ctt rfl _ _ gb548 24 #[.int .i64 0, .slice none 0 0] (0, 0) _ rfl (by (with_reducible repeat (first | refine blk_drewN ?_ _ | refine blk_drew ?_ | refine blk_alloc ?_ _)); refine blk_put (cs := #[.int .i64 0, .slice none 0 0]) ?_ 1 _ rfl; (with_reducible repeat (first | refine blk_drewN ?_ _ | refine blk_drew ?_ | refine blk_alloc ?_ _)); refine blk_put (cs := #[.int .i64 0, .slice none 0 0]) ?_ 0 _ rfl; (with_reducible repeat (first | refine blk_drewN ?_ _ | refine blk_drew ?_ | refine blk_alloc ?_ _)); exact BK548.out) Try.underlying24 rfl zK) rfl ?_
    exact ⟨_, _, by first | rfl | (simp [errW_none, errW_some] <;> rfl) | (simp [*, errW_none, errW_some] <;> rfl), by first | exact Kd.R_nil _ _ _ _ _ | exact Kd.N_nil _ _ _ _ _ | exact Kd.V_nil _ _ _ _ _ | exact Kd.Q_nil _ _ _ _ _ | exact Kd.S_nil _ _ _ _ _, by first | exact Kd.R_nil _ _ _ _ _ | exact Kd.N_nil _ _ _ _ _ | exact Kd.V_nil _ _ _ _ _ | exact Kd.Q_nil _ _ _ _ _ | exact Kd.S_nil _ _ _ _ _, by repeat (first | (with_reducible first | exact HB.out | apply below_alloc | apply pw_below_drewN | apply below_drew1 | refine below_set ?_ GE547.out | refine below_set ?_ GE548.out) | exact HB.out)⟩
   ·rw [if_neg c18] at H
    have c18b0 : ((rd t553 0) == 0) = false := beq_eq_false_iff_ne.mpr c18
    have c18b1 : ((rd t553 0) != 0) = true := bne_iff_ne.mpr c18
    (first | rw [c18b0] | (simp only [i64_w, i32_w]; rw [c18b0]) | skip)
    (try rw [c18b1])
    by_cases c21 : 0 ≤ a0_0
    ·rw [if_pos c21] at H
     have c21b0 := eq_true c21
     have c21b1 : decide (0 ≤ a0_0) = true := decide_eq_true c21
     clear c21
     by_cases c22 : (a0_0 : Int).toNat ≤ 35184372088832
     ·rw [if_pos c22] at H
      have c22b0 := eq_true c22
      have c22b1 : decide ((a0_0 : Int).toNat ≤ 35184372088832) = true := decide_eq_true c22
      clear c22
      obtain ⟨y557, hy557⟩ : ∃ y_ : List Int, y_ = (List.replicate (a0_0 : Int).toNat 0) := ⟨_, rfl⟩
      replace H : (ancepsref09_Trim.l0 k t550 t553 ([] : List Int) y557 0 a0_0 l0_1) = some (r1, r2, r3, r4) := by first | (rw [hy557]; with_reducible exact H) | (have H2_ := (Option.bind_some _ _).symm.trans H; rw [hy557]; with_reducible exact H2_) | (have H2_ := (Option.bind_some _ _).symm.trans H; with_reducible exact H2_) | with_reducible exact H | (rw [hy557]; exact H) | exact H
      have Ny557 := Aside0.mk hy557
      clear hy557
      have H' := Aside0.mk H
      clear H
      have hnb23 := NB547_548.out
      have hnc23 := NB548_547.out
      have hcz24_0 : w16.cell? ⟨gb547, 0, none⟩ = some (.int .i64 a0_0) := (blk_cell BK547.out 0).trans rfl
      have hcz24_1 : w16.cell? ⟨gb547, 1, none⟩ = some (.slice A0_1 l0_1.length c0_1) := (blk_cell BK547.out 1).trans rfl
      have hfz24_0 := blk_frozen BK547.out 0
      have hfz24_1 := blk_frozen BK547.out 1
      go_wp2_with (first | ((with_reducible refine gate_dst (N := 31) rfl ?_); refine Kd.R_make (Kd.int .i64) _ 3 rfl (N := 31) rfl 25 _ _ rfl a0_0 rfl rfl Try.underlying25 (.int .i64 0) 8 info3 rfl (by decide) (by omega) 0 (ok := fun _ => True) (okp := fun _ => True) rfl (fun _ hk => hk) trivial (of_decide_eq_true zh) (Nat.le_trans (Nat.mul_le_mul_right _ (of_decide_eq_true zh : a0_0.toNat ≤ 35184372088832)) (by omega)) (Below.refl _ _) (Nat.le_refl _) ?_; intro v558 w25 ho26 hb hg_ hnew_; clear hg_ hnew_; (first | rw [← Ny557.out] at ho26 | (simp only [Int.reduceToNat] at ho26; rw [← Ny557.out] at ho26)); have n0_ := Aside0.mk (Kd.R_below (zR HO552) hb); have n1_ := Aside0.mk (Kd.R_below (zR HO555) hb); have n2_ := Aside0.mk (Kd.R_lower ho26 (below_size zB)); have n3_ := Aside0.mk (blk_below (g := gb547) (o := .cells #[.int .i64 a0_0, .slice A0_1 l0_1.length c0_1] 24 (0, 0)) (zk BK547) hb); have n4_ := Aside0.mk (blk_below (g := gb548) (o := .cells #[.int .i64 0, .slice none 0 0] 24 (0, 0)) (zk BK548) hb); have n5_ := Aside0.mk (below_step zB hb); clear HO552; clear HO555; clear BK547; clear BK548; clear HB; have HO552 := n0_; have HO555 := n1_; have HO559 := n2_; have BK547 := n3_; have BK548 := n4_; have HB := n5_; clear n0_ n1_ n2_ n3_ n4_ n5_; clear hb ho26))
      go_loopg [8, 10] k (fun kq v8 v10 w' => ∃ (x8_1 : List Int) (x9_1 : List Int) (x10_1 : Int), v10 = .int .i64 x10_1 ∧ Aside0 (ancepsref09_Trim.l0 kq t550 t553 x8_1 x9_1 x10_1 a0_0 l0_1 = some (r1, r2, r3, r4)) ∧ Aside0 (kq ≤ k) ∧ Aside0 (Kd.R Kd.bool 4 w' w.heap.size (fun _ => True) v551 t550) ∧ Aside0 (Kd.R (Kd.int .i64) 2 w' w.heap.size (fun _ => True) (.slice (some ad556) t553.length co17) t553) ∧ Aside0 (Kd.R (Kd.int .i64) 3 w' w.heap.size (fun k_ => some k_ ≠ (v558 : Value).ownBlock) v8 x8_1) ∧ Aside0 (Kd.R (Kd.int .i64) 3 w' w.heap.size (fun k_ => some k_ ≠ (v8 : Value).ownBlock) v558 x9_1) ∧ Aside0 (w'.heap[gb547]? = some (.cells #[.int .i64 a0_0, (.slice A0_1 l0_1.length c0_1)] 24 (0, 0))) ∧ Aside0 (w'.heap[gb548]? = some (.cells #[.int .i64 0, (.slice none 0 0)] 24 (0, 0))) ∧ Aside0 (Below w.heap.size w w'))
      case atStart => exact ⟨(([] : List Int)), (y557), (0), zT, H', ⟨Nat.le_refl _⟩, ⟨by (with_reducible repeat (first | apply Kd.R_alloc | apply Kd.R_drewN | apply Kd.R_drew)); exact HO552.out⟩, ⟨by (with_reducible repeat (first | apply Kd.R_alloc | apply Kd.R_drewN | apply Kd.R_drew)); exact HO555.out⟩, ⟨by first | exact Kd.R_nil _ _ _ _ _ | exact Kd.N_nil _ _ _ _ _ | exact Kd.V_nil _ _ _ _ _ | exact Kd.Q_nil _ _ _ _ _ | exact Kd.S_nil _ _ _ _ _⟩, ⟨by (with_reducible repeat (first | apply Kd.R_alloc | apply Kd.R_drewN | apply Kd.R_drew)); exact Kd.R_mono HO559.out (fun _ hk => (by simp [Value.ownBlock]))⟩, ⟨by (with_reducible repeat (first | refine blk_drewN ?_ _ | refine blk_drew ?_ | refine blk_alloc ?_ _)); exact BK547.out⟩, ⟨by (with_reducible repeat (first | refine blk_drewN ?_ _ | refine blk_drew ?_ | refine blk_alloc ?_ _)); exact BK548.out⟩, ⟨by repeat (first | (with_reducible first | exact HB.out | apply below_alloc | apply pw_below_drewN | apply below_drew1 | refine below_set ?_ GE547.out | refine below_set ?_ GE548.out) | exact HB.out)⟩⟩
      case round =>
       clear H'
       try clear c1
       try clear c2
       try clear p2
       try clear c3
       try clear c5
       try clear p5
       try clear q5
       try clear hx5
       try clear qi5
       try clear c6
       try clear c9
       try clear c9b0
       try clear c9b1
       try clear c12
       try clear c12b0
       try clear c12b1
       try clear c18
       try clear c18b0
       try clear c18b1
       try clear c19
       try clear c21
       try clear c21b0
       try clear c21b1
       try clear c22
       try clear c22b0
       try clear c22b1
       try clear c23
       try clear hcz20_0
       try clear hcz20_1
       try clear hcz24_0
       try clear hcz24_1
       try clear hcz7_0
       try clear hcz7_1
       try clear hfz20_0
       try clear hfz20_1
       try clear hfz24_0
       try clear hfz24_1
       try clear hfz7_0
       try clear hfz7_1
       try clear hx556_0
       try clear p556
       try clear q556
       obtain ⟨x8_1, x9_1, x10_1, rfl, HA, HK1, HO_6, HO_7, HO_8, HO_9, BK547, BK548, HB⟩ := hrel
       cases gk with
       | zero => exact absurd HA.out (by simp [ancepsref09_Trim.l0])
       | succ k1 =>
        have H := HA.out
        clear HA
        simp only [ancepsref09_Trim.l0] at H
        by_cases c27 : x10_1 < a0_0
        ·rw [if_pos c27] at H
         have c27b0 : decide (x10_1 < a0_0) = true := decide_eq_true c27
         clear c27
         by_cases c28 : 0 ≤ x10_1
         ·rw [if_pos c28] at H
          have c28b0 : decide (0 ≤ x10_1) = true := decide_eq_true c28
          clear c28
          by_cases c29 : x10_1 < (x9_1.length : Int)
          ·rw [if_pos c29] at H
           have c29b0 : decide (x10_1 < (x9_1.length : Int)) = true := decide_eq_true c29
           clear c29
           obtain ⟨y560, hy560⟩ : ∃ y_ : List Int, y_ = (x9_1.set (x10_1 : Int).toNat (-1)) := ⟨_, rfl⟩
           replace H : (if x10_1 < (t550.length : Int) then (if rdOf false t550 x10_1 = true then (if x10_1 < (t553.length : Int) then (if (rd t553 x10_1) > 0 then (if x8_1.length < 17592186044416 then (ancepsref09_Trim.l0 k1 t550 t553 (x8_1 ++ [x10_1]) (y560.set (x10_1 : Int).toNat (x8_1.length : Int)) (wrap64 (x10_1 + 1)) a0_0 l0_1) else (none)) else (ancepsref09_Trim.l0 k1 t550 t553 x8_1 y560 (wrap64 (x10_1 + 1)) a0_0 l0_1)) else (none)) else (ancepsref09_Trim.l0 k1 t550 t553 x8_1 y560 (wrap64 (x10_1 + 1)) a0_0 l0_1)) else (none)) = some (r1, r2, r3, r4) := by first | (rw [hy560]; with_reducible exact H) | (have H2_ := (Option.bind_some _ _).symm.trans H; rw [hy560]; with_reducible exact H2_) | (have H2_ := (Option.bind_some _ _).symm.trans H; with_reducible exact H2_) | with_reducible exact H | (rw [hy560]; exact H) | exact H
           have Ny560 := Aside0.mk hy560
           clear hy560
           have HC31 := Aside0.mk H
           clear H
           have hnb32 := NB547_548.out
           have hnc32 := NB548_547.out
           have hcz33_0 : wr.cell? ⟨gb547, 0, none⟩ = some (.int .i64 a0_0) := (blk_cell BK547.out 0).trans rfl
           have hcz33_1 : wr.cell? ⟨gb547, 1, none⟩ = some (.slice A0_1 l0_1.length c0_1) := (blk_cell BK547.out 1).trans rfl
           have hfz33_0 := blk_frozen BK547.out 0
           have hfz33_1 := blk_frozen BK547.out 1
           have p30 : 0 ≤ (x10_1 : Int) := of_decide_eq_true zh
           have q30 : (x10_1 : Int) < ((x9_1.length : Int) : Int) := of_decide_eq_true zh
           obtain ⟨go30, co30, eo30, gb30, gl30, cl30, HG30⟩ := Kd.R_form HO_9.out (by omega)
           (first | cases eo30 | (injection eo30 with ea_ en_ ec_; (first | subst ea_ | (injection ea_ with ea_; subst ea_)); subst ec_; clear en_))
           have GB30 := Aside0.mk gb30
           have GG30 := Aside0.mk HG30
           clear gb30 gl30 HG30
           obtain ⟨hx30_0, hf30_0⟩ := Kd.R_celln 0 HO_9.out (x10_1 : Int) p30 q30
           replace p30 := eq_true p30
           replace q30 := eq_true q30
           have HP34 := Kd.R_putg HO_9.out (x10_1 : Int) (-1)
           go_upto_region 13 with (first | ((with_reducible refine gate_store (t := 3) (p := 40) rfl ?_); refine store_event (t := 3) (p := 40) (v := ?vo_w35) (w1 := (wr.setCell ⟨go30, (x10_1 : Int).toNat, none⟩ (.int .i64 (-1)))) ?hg ?ho ?hn ?hr ?_; (case ho => rfl); (case hg => rfl); (case hn => rfl); (case hr => first | (go_simp; done) | (go_simp; rfl)); intro w35 hw; have hg : wr.grownBy w35 (some go30) := (by rw [hw]; exact HP34.2); have hp_ : Kd.R (Kd.int .i64) 3 w35 w.heap.size (fun k_ => some k_ ≠ (u8 : Value).ownBlock) (.slice (some ⟨go30, 0, none⟩) x9_1.length co30) y560 := (by rw [hw, Ny560.out]; exact HP34.1); clear HP34; have n0_ := Aside0.mk (Kd.R_over' (v := (.slice (some ⟨go30, 0, none⟩) x9_1.length co30)) (zR HO_6) (Kd.R_typed HO_9.out) (by decide) hg); have n1_ := Aside0.mk (Kd.R_over' (v := (.slice (some ⟨go30, 0, none⟩) x9_1.length co30)) (zR HO_7) (Kd.R_typed HO_9.out) (by decide) hg); have n2_ := Aside0.mk (Kd.R_after (v := (.slice (some ⟨go30, 0, none⟩) x9_1.length co30)) (v1 := (.slice (some ⟨go30, 0, none⟩) x9_1.length co30)) (ok := (fun _ => True)) (by (with_reducible repeat (first | apply Kd.R_alloc | apply Kd.R_drewN | apply Kd.R_drew)); exact Kd.R_mono HO_8.out (fun _ hk => ⟨trivial, hk⟩)) hg (.inl rfl)); have n3_ := Aside0.mk (hp_); have n4_ := Aside0.mk (blk_grown (g := gb547) (o := .cells #[.int .i64 a0_0, .slice A0_1 l0_1.length c0_1] 24 (0, 0)) (zk BK547) hg (Kd.R_ne HO_9.out BK547.out (by decide))); have n5_ := Aside0.mk (blk_grown (g := gb548) (o := .cells #[.int .i64 0, .slice none 0 0] 24 (0, 0)) (zk BK548) hg (Kd.R_ne HO_9.out BK548.out (by decide))); have n6_ := Aside0.mk ((by rw [hw]; exact below_set (HB.out) GB30.out : Below w.heap.size w w35)); clear HO_6; clear HO_7; clear HO_8; clear HO_9; clear BK547; clear BK548; clear HB; have HO_6 := n0_; have HO_7 := n1_; have HO_8 := n2_; have HO_9 := n3_; have BK547 := n4_; have BK548 := n5_; have HB := n6_; clear n0_ n1_ n2_ n3_ n4_ n5_ n6_; clear hg hw hp_))
           (try simp only [Act.put, List.setIfInBounds_toArray, List.set_cons_zero, List.set_cons_succ])
           have H := HC31.out
           clear HC31
           by_cases c36 : x10_1 < (t550.length : Int)
           ·rw [if_pos c36] at H
            have c36b0 : decide (x10_1 < (t550.length : Int)) = true := decide_eq_true c36
            clear c36
            (first | rw [c36b0] | (simp only [i64_w, i32_w]; rw [c36b0]) | skip)
            obtain ⟨bq37, hbq37⟩ : ∃ b_ : Bool, b_ = (rdOf false t550 x10_1) := ⟨_, rfl⟩
            replace H : (if bq37 = true then (if x10_1 < (t553.length : Int) then (if (rd t553 x10_1) > 0 then (if x8_1.length < 17592186044416 then (ancepsref09_Trim.l0 k1 t550 t553 (x8_1 ++ [x10_1]) (y560.set (x10_1 : Int).toNat (x8_1.length : Int)) (wrap64 (x10_1 + 1)) a0_0 l0_1) else (none)) else (ancepsref09_Trim.l0 k1 t550 t553 x8_1 y560 (wrap64 (x10_1 + 1)) a0_0 l0_1)) else (none)) else (ancepsref09_Trim.l0 k1 t550 t553 x8_1 y560 (wrap64 (x10_1 + 1)) a0_0 l0_1)) = some (r1, r2, r3, r4) := by rw [← hbq37] at H; exact H
            have Nbq37 := Aside0.mk hbq37
            clear hbq37
            by_cases c38 : bq37 = true
            ·subst c38
             have H1 : (if x10_1 < (t553.length : Int) then (if (rd t553 x10_1) > 0 then (if x8_1.length < 17592186044416 then (ancepsref09_Trim.l0 k1 t550 t553 (x8_1 ++ [x10_1]) (y560.set (x10_1 : Int).toNat (x8_1.length : Int)) (wrap64 (x10_1 + 1)) a0_0 l0_1) else (none)) else (ancepsref09_Trim.l0 k1 t550 t553 x8_1 y560 (wrap64 (x10_1 + 1)) a0_0 l0_1)) else (none)) = some (r1, r2, r3, r4) := by rw [if_pos rfl] at H; exact H
             clear H
             have H := H1
             clear H1
             by_cases c39 : x10_1 < (t553.length : Int)
             ·rw [if_pos c39] at H
              have c39b0 : decide (x10_1 < (t553.length : Int)) = true := decide_eq_true c39
              clear c39
              by_cases c40 : (rd t553 x10_1) > 0
              ·rw [if_pos c40] at H
               have c40b0 : decide (0 < (rd t553 x10_1)) = true := decide_eq_true c40
               clear c40
               obtain ⟨y563, hy563⟩ : ∃ y_ : List Int, y_ = (y560.set (x10_1 : Int).toNat (x8_1.length : Int)) := ⟨_, rfl⟩
               replace H : (if x8_1.length < 17592186044416 then (ancepsref09_Trim.l0 k1 t550 t553 (x8_1 ++ [x10_1]) y563 (wrap64 (x10_1 + 1)) a0_0 l0_1) else (none)) = some (r1, r2, r3, r4) := by first | (rw [hy563]; with_reducible exact H) | (have H2_ := (Option.bind_some _ _).symm.trans H; rw [hy563]; with_reducible exact H2_) | (have H2_ := (Option.bind_some _ _).symm.trans H; with_reducible exact H2_) | with_reducible exact H | (rw [hy563]; exact H) | exact H
               have Ny563 := Aside0.mk hy563
               clear hy563
               by_cases c42 : x8_1.length < 17592186044416
               ·rw [if_pos c42] at H
                have LMc42 := Aside0.mk c42
                clear c42
                obtain ⟨y564, hy564⟩ : ∃ y_ : List Int, y_ = (x8_1 ++ [x10_1]) := ⟨_, rfl⟩
                replace H : (ancepsref09_Trim.l0 k1 t550 t553 y564 y563 (wrap64 (x10_1 + 1)) a0_0 l0_1) = some (r1, r2, r3, r4) := by first | (rw [hy564]; with_reducible exact H) | (have H2_ := (Option.bind_some _ _).symm.trans H; rw [hy564]; with_reducible exact H2_) | (have H2_ := (Option.bind_some _ _).symm.trans H; with_reducible exact H2_) | with_reducible exact H | (rw [hy564]; exact H) | exact H
                have Ny564 := Aside0.mk hy564
                clear hy564
                have H' := Aside0.mk H
                clear H
                obtain ⟨Ao43, co43, eo43⟩ := Kd.R_slice HO_6.out
                subst eo43
                have p561 : 0 ≤ (x10_1 : Int) := of_decide_eq_true zh
                have q561 : x10_1 < (t550.length : Int) := of_decide_eq_true zh
                obtain ⟨ad561, e561, hx561_0⟩ := Kd.at_bool (Kd.R_reads' HO_6.out).2.2 x10_1 p561 q561
                (try rw [← Nbq37.out] at hx561_0)
                cases e561
                replace p561 := eq_true p561
                replace q561 := eq_true q561
                have p562 : 0 ≤ (x10_1 : Int) := of_decide_eq_true zh
                have q562 : x10_1 < (t553.length : Int) := of_decide_eq_true zh
                obtain ⟨ad562, e562, hx562_0⟩ := Kd.at_int (Kd.R_reads' HO_7.out).2.2 x10_1 p562 q562
                obtain rfl : ad556 = ad562 := (by injection e562)
                replace p562 := eq_true p562
                replace q562 := eq_true q562
                obtain ⟨Ao44, co44, eo44⟩ := Kd.R_slice HO_8.out
                subst eo44
                have p41 : 0 ≤ (x10_1 : Int) := of_decide_eq_true zh
                have q41 : (x10_1 : Int) < ((x9_1.length : Int) : Int) := of_decide_eq_true zh
                obtain ⟨hx41_0, hf41_0⟩ := Kd.R_celln 0 HO_9.out (x10_1 : Int) p41 q41
                replace p41 := eq_true p41
                replace q41 := eq_true q41
                have HP45 := Kd.R_putg HO_9.out (x10_1 : Int) (x8_1.length : Int)
                go_wp2_with (first | ((with_reducible refine gate_store (t := 3) (p := 56) rfl ?_); refine store_event (t := 3) (p := 56) (v := ?vo_w46) (w1 := (w35.setCell ⟨go30, (x10_1 : Int).toNat, none⟩ (.int .i64 (x8_1.length : Int)))) ?hg ?ho ?hn ?hr ?_; (case ho => rfl); (case hg => rfl); (case hn => rfl); (case hr => first | (go_simp; done) | (go_simp; rfl)); intro w46 hw; have hg : w35.grownBy w46 (some go30) := (by rw [hw]; exact HP45.2); have hp_ : Kd.R (Kd.int .i64) 3 w46 w.heap.size (fun k_ => some k_ ≠ (.slice Ao44 x8_1.length co44 : Value).ownBlock) (.slice (some ⟨go30, 0, none⟩) x9_1.length co30) y563 := (by rw [hw, Ny563.out]; exact HP45.1); clear HP45; have n0_ := Aside0.mk (Kd.R_over' (v := (.slice (some ⟨go30, 0, none⟩) x9_1.length co30)) (zR HO_6) (Kd.R_typed HO_9.out) (by decide) hg); have n1_ := Aside0.mk (Kd.R_over' (v := (.slice (some ⟨go30, 0, none⟩) x9_1.length co30)) (zR HO_7) (Kd.R_typed HO_9.out) (by decide) hg); have n2_ := Aside0.mk (Kd.R_after (v := (.slice (some ⟨go30, 0, none⟩) x9_1.length co30)) (v1 := (.slice (some ⟨go30, 0, none⟩) x9_1.length co30)) (ok := (fun _ => True)) (zR HO_8) hg (.inl rfl)); have n3_ := Aside0.mk (hp_); have n4_ := Aside0.mk (blk_grown (g := gb547) (o := .cells #[.int .i64 a0_0, .slice A0_1 l0_1.length c0_1] 24 (0, 0)) (zk BK547) hg (Kd.R_ne HO_9.out BK547.out (by decide))); have n5_ := Aside0.mk (blk_grown (g := gb548) (o := .cells #[.int .i64 0, .slice none 0 0] 24 (0, 0)) (zk BK548) hg (Kd.R_ne HO_9.out BK548.out (by decide))); have n6_ := Aside0.mk ((by rw [hw]; exact below_set (HB.out) GB30.out : Below w.heap.size w w46)); clear HO_6; clear HO_7; clear HO_8; clear HO_9; clear BK547; clear BK548; clear HB; have HO_6 := n0_; have HO_7 := n1_; have HO_8 := n2_; have HO_9 := n3_; have BK547 := n4_; have BK548 := n5_; have HB := n6_; clear n0_ n1_ n2_ n3_ n4_ n5_ n6_; clear hg hw hp_) | ((with_reducible refine gate_builtin (b := .append) (xs := #[.tmp 57, .tmp 59]) rfl ?_); at_builtin; refine Kd.R_append (Kd.int .i64) (w0 := w) w.heap.size rfl (.tmp 57) (.tmp 59) 25 3 (.int .i64 0) 8 rfl Try.underlying25 info3 rfl (by decide) (by omega) (.slice Ao44 x8_1.length co44) x8_1 x10_1 [.int .i64 x10_1] (fun k_ => some k_ ≠ (.slice (some ⟨go30, 0, none⟩) x9_1.length co30 : Value).ownBlock) (fun _ => False) rfl rfl ?aP (fun _ hk => hk.elim) ?aF ?aO ?aB ?aS ?aL ?_; (case aP => exact rfl); (case aB => exact zB); (case aF => exact (fun k_ hk => Kd.fresh' (Kd.R_lt (zR HO_9)) k_ hk)); (case aO => exact (by (with_reducible repeat (first | apply Kd.R_alloc | apply Kd.R_drewN | apply Kd.R_drew)); exact Kd.R_mono HO_8.out (fun _ hk => hk.2))); (case aS => exact (below_size zB)); (case aL => have := LMc42.out; omega); intro v565 w47 ho hb hg hat; rw [← Ny564.out] at ho; have n0_ := Aside0.mk (Kd.R_over' (zR HO_6) (Kd.R_typed (zR HO_8)) (by decide) hg); have n1_ := Aside0.mk (Kd.R_over' (zR HO_7) (Kd.R_typed (zR HO_8)) (by decide) hg); have n2_ := Aside0.mk (Kd.R_after (ok := (fun _ => True)) (by (with_reducible repeat (first | apply Kd.R_alloc | apply Kd.R_drewN | apply Kd.R_drew)); exact Kd.R_mono HO_9.out (fun _ hk => ⟨trivial, hk⟩)) hg hat); have n3_ := Aside0.mk (blk_grown (g := gb547) (o := .cells #[.int .i64 a0_0, .slice A0_1 l0_1.length c0_1] 24 (0, 0)) (zk BK547) hg (Kd.R_ne HO_8.out BK547.out (by decide))); have n4_ := Aside0.mk (blk_grown (g := gb548) (o := .cells #[.int .i64 0, .slice none 0 0] 24 (0, 0)) (zk BK548) hg (Kd.R_ne HO_8.out BK548.out (by decide))); have n5_ := Aside0.mk (hb); have n6_ := Aside0.mk (ho); clear HO_6; clear HO_7; clear HO_9; clear BK547; clear BK548; clear HB; clear HO_8; have HO_6 := n0_; have HO_7 := n1_; have HO_9 := n2_; have BK547 := n3_; have BK548 := n4_; have HB := n5_; have HO566 := n6_; clear n0_ n1_ n2_ n3_ n4_ n5_ n6_; clear ho hb hg hat))
                go_roundg k1
                case measure => have := HK1.out; omega
                case rel => exact ⟨(y564), (y563), (wrap64 (x10_1 + 1)), zT, H', ⟨by have := HK1.out; omega⟩, ⟨by (with_reducible repeat (first | apply Kd.R_alloc | apply Kd.R_drewN | apply Kd.R_drew)); exact HO_6.out⟩, ⟨by (with_reducible repeat (first | apply Kd.R_alloc | apply Kd.R_drewN | apply Kd.R_drew)); exact HO_7.out⟩, ⟨by (with_reducible repeat (first | apply Kd.R_alloc | apply Kd.R_drewN | apply Kd.R_drew)); exact HO566.out⟩, ⟨by (with_reducible repeat (first | apply Kd.R_alloc | apply Kd.R_drewN | apply Kd.R_drew)); exact Kd.R_mono HO_9.out (fun _ hk => hk.2)⟩, ⟨by (with_reducible repeat (first | refine blk_drewN ?_ _ | refine blk_drew ?_ | refine blk_alloc ?_ _)); exact BK547.out⟩, ⟨by (with_reducible repeat (first | refine blk_drewN ?_ _ | refine blk_drew ?_ | refine blk_alloc ?_ _)); exact BK548.out⟩, ⟨by repeat (first | (with_reducible first | exact HB.out | apply below_alloc | apply pw_below_drewN | apply below_drew1 | refine below_set ?_ GE547.out | refine below_set ?_ GE548.out) | exact HB.out)⟩⟩
               ·rw [if_neg c42] at H
                exact absurd H (by simp)
              ·rw [if_neg c40] at H
               have c40b0 : decide (0 < (rd t553 x10_1)) = false := decide_eq_false c40
               clear c40
               have H' := Aside0.mk H
               clear H
               obtain ⟨Ao48, co48, eo48⟩ := Kd.R_slice HO_6.out
               subst eo48
               have p561 : 0 ≤ (x10_1 : Int) := of_decide_eq_true zh
               have q561 : x10_1 < (t550.length : Int) := of_decide_eq_true zh
               obtain ⟨ad561, e561, hx561_0⟩ := Kd.at_bool (Kd.R_reads' HO_6.out).2.2 x10_1 p561 q561
               (try rw [← Nbq37.out] at hx561_0)
               cases e561
               replace p561 := eq_true p561
               replace q561 := eq_true q561
               have p562 : 0 ≤ (x10_1 : Int) := of_decide_eq_true zh
               have q562 : x10_1 < (t553.length : Int) := of_decide_eq_true zh
               obtain ⟨ad562, e562, hx562_0⟩ := Kd.at_int (Kd.R_reads' HO_7.out).2.2 x10_1 p562 q562
               obtain rfl : ad556 = ad562 := (by injection e562)
               replace p562 := eq_true p562
               replace q562 := eq_true q562
               go_wp2
               go_roundg k1
               case measure => have := HK1.out; omega
               case rel => exact ⟨(x8_1), (y560), (wrap64 (x10_1 + 1)), zT, H', ⟨by have := HK1.out; omega⟩, ⟨by (with_reducible repeat (first | apply Kd.R_alloc | apply Kd.R_drewN | apply Kd.R_drew)); exact HO_6.out⟩, ⟨by (with_reducible repeat (first | apply Kd.R_alloc | apply Kd.R_drewN | apply Kd.R_drew)); exact HO_7.out⟩, ⟨by (with_reducible repeat (first | apply Kd.R_alloc | apply Kd.R_drewN | apply Kd.R_drew)); exact Kd.R_mono HO_8.out (fun _ hk => hk.2)⟩, ⟨by (with_reducible repeat (first | apply Kd.R_alloc | apply Kd.R_drewN | apply Kd.R_drew)); exact HO_9.out⟩, ⟨by (with_reducible repeat (first | refine blk_drewN ?_ _ | refine blk_drew ?_ | refine blk_alloc ?_ _)); exact BK547.out⟩, ⟨by (with_reducible repeat (first | refine blk_drewN ?_ _ | refine blk_drew ?_ | refine blk_alloc ?_ _)); exact BK548.out⟩, ⟨by repeat (first | (with_reducible first | exact HB.out | apply below_alloc | apply pw_below_drewN | apply below_drew1 | refine below_set ?_ GE547.out | refine below_set ?_ GE548.out) | exact HB.out)⟩⟩
             ·rw [if_neg c39] at H
              exact absurd H (by simp)
            ·replace c38 := Bool.eq_false_iff.mpr c38
             subst c38
             have H1 : (ancepsref09_Trim.l0 k1 t550 t553 x8_1 y560 (wrap64 (x10_1 + 1)) a0_0 l0_1) = some (r1, r2, r3, r4) := by rw [if_neg (show ¬ (false = true) by decide)] at H; exact H
             clear H
             have H := H1
             clear H1
             have H' := Aside0.mk H
             clear H
             obtain ⟨Ao49, co49, eo49⟩ := Kd.R_slice HO_6.out
             subst eo49
             have p561 : 0 ≤ (x10_1 : Int) := of_decide_eq_true zh
             have q561 : x10_1 < (t550.length : Int) := of_decide_eq_true zh
             obtain ⟨ad561, e561, hx561_0⟩ := Kd.at_bool (Kd.R_reads' HO_6.out).2.2 x10_1 p561 q561
             (try rw [← Nbq37.out] at hx561_0)
             cases e561
             replace p561 := eq_true p561
             replace q561 := eq_true q561
             go_wp2
             go_roundg k1
             case measure => have := HK1.out; omega
             case rel => exact ⟨(x8_1), (y560), (wrap64 (x10_1 + 1)), zT, H', ⟨by have := HK1.out; omega⟩, ⟨by (with_reducible repeat (first | apply Kd.R_alloc | apply Kd.R_drewN | apply Kd.R_drew)); exact HO_6.out⟩, ⟨by (with_reducible repeat (first | apply Kd.R_alloc | apply Kd.R_drewN | apply Kd.R_drew)); exact HO_7.out⟩, ⟨by (with_reducible repeat (first | apply Kd.R_alloc | apply Kd.R_drewN | apply Kd.R_drew)); exact Kd.R_mono HO_8.out (fun _ hk => hk.2)⟩, ⟨by (with_reducible repeat (first | apply Kd.R_alloc | apply Kd.R_drewN | apply Kd.R_drew)); exact HO_9.out⟩, ⟨by (with_reducible repeat (first | refine blk_drewN ?_ _ | refine blk_drew ?_ | refine blk_alloc ?_ _)); exact BK547.out⟩, ⟨by (with_reducible repeat (first | refine blk_drewN ?_ _ | refine blk_drew ?_ | refine blk_alloc ?_ _)); exact BK548.out⟩, ⟨by repeat (first | (with_reducible first | exact HB.out | apply below_alloc | apply pw_below_drewN | apply below_drew1 | refine below_set ?_ GE547.out | refine below_set ?_ GE548.out) | exact HB.out)⟩⟩
           ·rw [if_neg c36] at H
            exact absurd H (by simp)
          ·rw [if_neg c29] at H
           exact absurd H (by simp)
         ·rw [if_neg c28] at H
          exact absurd H (by simp)
        ·rw [if_neg c27] at H
         have c27b0 : decide (x10_1 < a0_0) = false := decide_eq_false c27
         clear c27
         have H' := Aside0.mk H
         clear H
         have hnb50 := NB547_548.out
         have hnc50 := NB548_547.out
         have hcz51_0 : wr.cell? ⟨gb547, 0, none⟩ = some (.int .i64 a0_0) := (blk_cell BK547.out 0).trans rfl
         have hcz51_1 : wr.cell? ⟨gb547, 1, none⟩ = some (.slice A0_1 l0_1.length c0_1) := (blk_cell BK547.out 1).trans rfl
         have hfz51_0 := blk_frozen BK547.out 0
         have hfz51_1 := blk_frozen BK547.out 1
         obtain ⟨Ao52, co52, eo52⟩ := Kd.R_slice HO_8.out
         subst eo52
         go_wp2_with (first | ((with_reducible refine gate_dst (N := 11) rfl ?_); refine box_event ?hg (N := 11) ?hd (cs := #[.int .i64 0, .slice none 0 0]) (t := 24) ?hr ?_; (case hd => rfl); (case hg => rfl); (case hr => first | (go_simp; done) | (go_simp; rfl)); intro gb567 hg w53 hbox hb; have n0_ := Aside0.mk (Kd.R_below (zR HO_6) hb); have n1_ := Aside0.mk (Kd.R_below (zR HO_7) hb); have n2_ := Aside0.mk (Kd.R_below (zR HO_8) hb); have n3_ := Aside0.mk (Kd.R_below (zR HO_9) hb); have n4_ := Aside0.mk (blk_below (g := gb547) (o := .cells #[.int .i64 a0_0, .slice A0_1 l0_1.length c0_1] 24 (0, 0)) (zk BK547) hb); have n5_ := Aside0.mk (blk_below (g := gb548) (o := .cells #[.int .i64 0, .slice none 0 0] 24 (0, 0)) (zk BK548) hb); have n6_ := Aside0.mk (below_step zB hb); have n7_ := Aside0.mk (hbox); have n8_ := Aside0.mk ((by rw [hg]; exact (below_size zB) : w.heap.size ≤ gb567)); have n9_ := Aside0.mk ((by rw [hg]; exact (below_size zB) : w.heap.size ≤ gb567)); have n10_ := Aside0.mk ((by rw [hg]; exact Nat.ne_of_lt (blk_lt (g := gb547) (o := .cells #[.int .i64 a0_0, .slice A0_1 l0_1.length c0_1] 24 (0, 0)) (zk BK547)) : gb547 ≠ gb567)); have n11_ := Aside0.mk ((by rw [hg]; exact Nat.ne_of_gt (blk_lt (g := gb547) (o := .cells #[.int .i64 a0_0, .slice A0_1 l0_1.length c0_1] 24 (0, 0)) (zk BK547)) : gb567 ≠ gb547)); have n12_ := Aside0.mk ((by rw [hg]; exact Nat.ne_of_lt (blk_lt (g := gb548) (o := .cells #[.int .i64 0, .slice none 0 0] 24 (0, 0)) (zk BK548)) : gb548 ≠ gb567)); have n13_ := Aside0.mk ((by rw [hg]; exact Nat.ne_of_gt (blk_lt (g := gb548) (o := .cells #[.int .i64 0, .slice none 0 0] 24 (0, 0)) (zk BK548)) : gb567 ≠ gb548)); clear HO_6; clear HO_7; clear HO_8; clear HO_9; clear BK547; clear BK548; clear HB; have HO_6 := n0_; have HO_7 := n1_; have HO_8 := n2_; have HO_9 := n3_; have BK547 := n4_; have BK548 := n5_; have HB := n6_; have BK567 := n7_; have GW567 := n8_; have GE567 := n9_; have NB547_567 := n10_; have NB567_547 := n11_; have NB548_567 := n12_; have NB567_548 := n13_; clear n0_ n1_ n2_ n3_ n4_ n5_ n6_ n7_ n8_ n9_ n10_ n11_ n12_ n13_; clear hb hbox hg; have hnb54 := NB567_547.out; have hnc54 := NB547_567.out; have hnb55 := NB567_548.out; have hnc55 := NB548_567.out; have hcz56_0 : w53.cell? ⟨gb567, 0, none⟩ = some (.int .i64 0) := (blk_cell BK567.out 0).trans rfl; have hcz56_1 : w53.cell? ⟨gb567, 1, none⟩ = some (.slice none 0 0) := (blk_cell BK567.out 1).trans rfl; have hfz56_0 := blk_frozen BK567.out 0; have hfz56_1 := blk_frozen BK567.out 1))
         go_loopg [12] k1 (fun kq v12 w' => ∃ (x12_2 : Int) (x568001_2 : List (S69)) (u568001 : Value), v12 = .int .i64 x12_2 ∧ Aside0 (ancepsref09_Trim.l1 kq x8_1 x9_1 x12_2 a0_0 l0_1 (x8_1.length : Int) x568001_2 = some (r1, r2, r3, r4)) ∧ Aside0 (kq ≤ k1) ∧ Aside0 (Kd.R (Kd.int .i64) 3 w' w.heap.size (fun k_ => some k_ ≠ (v558 : Value).ownBlock) (.slice Ao52 x8_1.length co52) x8_1) ∧ Aside0 (Kd.R (Kd.int .i64) 3 w' w.heap.size (fun k_ => some k_ ≠ ((.slice Ao52 x8_1.length co52) : Value).ownBlock) v558 x9_1) ∧ Aside0 (Kd.R k69 69 w' w.heap.size (fun _ => True) u568001 x568001_2) ∧ Aside0 (w'.heap[gb547]? = some (.cells #[.int .i64 a0_0, (.slice A0_1 l0_1.length c0_1)] 24 (0, 0))) ∧ Aside0 (w'.heap[gb548]? = some (.cells #[.int .i64 0, (.slice none 0 0)] 24 (0, 0))) ∧ Aside0 (w'.heap[gb567]? = some (.cells #[.int .i64 (x8_1.length : Int), u568001] 24 (0, 0))) ∧ Aside0 (Below w.heap.size w w'))
         case atStart => exact ⟨(0), (([] : List (S69))), (.slice none 0 0), zT, H', ⟨Nat.le_refl _⟩, ⟨by (with_reducible repeat (first | apply Kd.R_alloc | apply Kd.R_drewN | apply Kd.R_drew)); exact Kd.R_mono (Kd.R_far (p := ⟨gb567, 1, none⟩) (Kd.R_far (p := ⟨gb567, 0, none⟩) (Kd.R_types HO_8.out BK567.out (by decide)) (fun _ hk => hk.2) (.int .i64 (x8_1.length : Int))) (fun _ hk => hk.2) (.slice none 0 0)) (fun _ hk => hk.1)⟩, ⟨by (with_reducible repeat (first | apply Kd.R_alloc | apply Kd.R_drewN | apply Kd.R_drew)); exact Kd.R_mono (Kd.R_far (p := ⟨gb567, 1, none⟩) (Kd.R_far (p := ⟨gb567, 0, none⟩) (Kd.R_types HO_9.out BK567.out (by decide)) (fun _ hk => hk.2) (.int .i64 (x8_1.length : Int))) (fun _ hk => hk.2) (.slice none 0 0)) (fun _ hk => hk.1)⟩, ⟨by first | exact Kd.R_nil _ _ _ _ _ | exact Kd.N_nil _ _ _ _ _ | exact Kd.V_nil _ _ _ _ _ | exact Kd.Q_nil _ _ _ _ _ | exact Kd.S_nil _ _ _ _ _⟩, ⟨by (with_reducible repeat (first | refine blk_drewN ?_ _ | refine blk_drew ?_ | refine blk_alloc ?_ _)); refine blk_far ?_ NB547_567.out _; (with_reducible repeat (first | refine blk_drewN ?_ _ | refine blk_drew ?_ | refine blk_alloc ?_ _)); refine blk_far ?_ NB547_567.out _; (with_reducible repeat (first | refine blk_drewN ?_ _ | refine blk_drew ?_ | refine blk_alloc ?_ _)); exact BK547.out⟩, ⟨by (with_reducible repeat (first | refine blk_drewN ?_ _ | refine blk_drew ?_ | refine blk_alloc ?_ _)); refine blk_far ?_ NB548_567.out _; (with_reducible repeat (first | refine blk_drewN ?_ _ | refine blk_drew ?_ | refine blk_alloc ?_ _)); refine blk_far ?_ NB548_567.out _; (with_reducible repeat (first | refine blk_drewN ?_ _ | refine blk_drew ?_ | refine blk_alloc ?_ _)); exact BK548.out⟩, ⟨by (with_reducible repeat (first | refine blk_drewN ?_ _ | refine blk_drew ?_ | refine blk_alloc ?_ _)); refine blk_put (cs := #[.int .i64 (x8_1.length : Int), .slice none 0 0]) ?_ 1 _ rfl; (with_reducible repeat (first | refine blk_drewN ?_ _ | refine blk_drew ?_ | refine blk_alloc ?_ _)); refine blk_put (cs := #[.int .i64 0, .slice none 0 0]) ?_ 0 _ rfl; (with_reducible repeat (first | refine blk_drewN ?_ _ | refine blk_drew ?_ | refine blk_alloc ?_ _)); exact BK567.out⟩, ⟨by repeat (first | (with_reducible first | exact HB.out | apply below_alloc | apply pw_below_drewN | apply below_drew1 | refine below_set ?_ GE547.out | refine below_set ?_ GE548.out | refine below_set ?_ GE567.out) | exact HB.out)⟩⟩
         case round =>
          clear H'
          try clear c1
          try clear c2
          try clear p2
          try clear c3
          try clear p3
          try clear q3
          try clear hx3
          try clear hf3
          try clear c4
          try clear p4
          try clear q4
          try clear hx4
          try clear hf4
          try clear c5
          try clear p5
          try clear q5
          try clear hx5
          try clear qi5
          try clear c6
          try clear p6
          try clear c9
          try clear c9b0
          try clear c9b1
          try clear c12
          try clear c12b0
          try clear c12b1
          try clear c18
          try clear c18b0
          try clear c18b1
          try clear c19
          try clear c21
          try clear c21b0
          try clear c21b1
          try clear c22
          try clear c22b0
          try clear c22b1
          try clear c23
          try clear c27
          try clear c27b0
          try clear c28
          try clear c28b0
          try clear c29
          try clear c29b0
          try clear p30
          try clear q30
          try clear hx30
          try clear hf30
          try clear c32
          try clear c36
          try clear c36b0
          try clear q37
          try clear c38
          try clear c39
          try clear c39b0
          try clear c40
          try clear c40b0
          try clear p41
          try clear q41
          try clear hx41
          try clear hf41
          try clear c42
          try clear c50
          try clear c54
          try clear c55
          try clear p55
          try clear q55
          try clear hx55
          try clear qi55
          try clear p56
          try clear q56
          try clear hx56
          try clear hcz20_0
          try clear hcz20_1
          try clear hcz24_0
          try clear hcz24_1
          try clear hcz33_0
          try clear hcz33_1
          try clear hcz51_0
          try clear hcz51_1
          try clear hcz56_0
          try clear hcz56_1
          try clear hcz7_0
          try clear hcz7_1
          try clear hfz20_0
          try clear hfz20_1
          try clear hfz24_0
          try clear hfz24_1
          try clear hfz33_0
          try clear hfz33_1
          try clear hfz51_0
          try clear hfz51_1
          try clear hfz56_0
          try clear hfz56_1
          try clear hfz7_0
          try clear hfz7_1
          try clear hx30_0
          try clear hx41_0
          try clear hx556_0
          try clear hx561_0
          try clear hx562_0
          try clear p2
          try clear p30
          try clear p41
          try clear p5
          try clear p556
          try clear p561
          try clear p562
          try clear q30
          try clear q41
          try clear q5
          try clear q556
          try clear q561
          try clear q562
          obtain ⟨x12_2, x568001_2, u568001, rfl, HA, HK2, HO_8, HO_9, HO_568001, BK547, BK548, BK567, HB⟩ := hrel
          cases gk with
          | zero => exact absurd HA.out (by simp [ancepsref09_Trim.l1])
          | succ k2 =>
           have H := HA.out
           clear HA
           simp only [ancepsref09_Trim.l1] at H
           by_cases c57 : x12_2 < (l0_1.length : Int)
           ·rw [if_pos c57] at H
            have c57b0 : decide (x12_2 < (l0_1.length : Int)) = true := decide_eq_true c57
            clear c57
            by_cases c58 : 0 ≤ x12_2
            ·rw [if_pos c58] at H
             have c58b0 : decide (0 ≤ x12_2) = true := decide_eq_true c58
             clear c58
             have HC59 := Aside0.mk H
             clear H
             have hnb60 := NB547_548.out
             have hnc60 := NB548_547.out
             have hnb61 := NB547_567.out
             have hnc61 := NB567_547.out
             have hcz62_0 : wr.cell? ⟨gb547, 0, none⟩ = some (.int .i64 a0_0) := (blk_cell BK547.out 0).trans rfl
             have hcz62_1 : wr.cell? ⟨gb547, 1, none⟩ = some (.slice A0_1 l0_1.length c0_1) := (blk_cell BK547.out 1).trans rfl
             have hfz62_0 := blk_frozen BK547.out 0
             have hfz62_1 := blk_frozen BK547.out 1
             have p568 : 0 ≤ (x12_2 : Int) := of_decide_eq_true zh
             have q568 : x12_2 < (l0_1.length : Int) := of_decide_eq_true zh
             obtain ⟨ad568, e568, hx568_0, hx568_1, hx568_2⟩ := at_T69 HR0_1.out x12_2 p568 q568
             cases e568
             replace hx568_0 := (HB.out.cell (World.block_lt_of_cell? w _ hx568_0)).trans hx568_0
             replace hx568_1 := (HB.out.cell (World.block_lt_of_cell? w _ hx568_1)).trans hx568_1
             replace hx568_2 := (HB.out.cell (World.block_lt_of_cell? w _ hx568_2)).trans hx568_2
             replace p568 := eq_true p568
             replace q568 := eq_true q568
             go_upto_region 21 with (first | ((with_reducible refine gate_dst (N := 13) rfl ?_); refine box_event ?hg (N := 13) ?hd (cs := #[.int .i64 0, .int .i64 0, .int .i64 0]) (t := 69) ?hr ?_; (case hd => rfl); (case hg => rfl); (case hr => first | (go_simp; done) | (go_simp; rfl)); intro gb569 hg w63 hbox hb; have n0_ := Aside0.mk (Kd.R_below (zR HO_8) hb); have n1_ := Aside0.mk (Kd.R_below (zR HO_9) hb); have n2_ := Aside0.mk (Kd.R_below (Kd.R_elderB (zR HO_568001) gb569 (Nat.le_of_eq hg.symm)) hb); have n3_ := Aside0.mk (blk_below (g := gb547) (o := .cells #[.int .i64 a0_0, .slice (some ad568) l0_1.length c0_1] 24 (0, 0)) (zk BK547) hb); have n4_ := Aside0.mk (blk_below (g := gb548) (o := .cells #[.int .i64 0, .slice none 0 0] 24 (0, 0)) (zk BK548) hb); have n5_ := Aside0.mk (blk_below (g := gb567) (o := .cells #[.int .i64 (x8_1.length : Int), u568001] 24 (0, 0)) (zk BK567) hb); have n6_ := Aside0.mk (below_step zB hb); have n7_ := Aside0.mk (hbox); have n8_ := Aside0.mk ((by rw [hg]; exact (below_size zB) : w.heap.size ≤ gb569)); have n9_ := Aside0.mk ((by rw [hg]; exact (below_size zB) : w.heap.size ≤ gb569)); have n10_ := Aside0.mk ((by rw [hg]; exact Nat.ne_of_lt (blk_lt (g := gb547) (o := .cells #[.int .i64 a0_0, .slice (some ad568) l0_1.length c0_1] 24 (0, 0)) (zk BK547)) : gb547 ≠ gb569)); have n11_ := Aside0.mk ((by rw [hg]; exact Nat.ne_of_gt (blk_lt (g := gb547) (o := .cells #[.int .i64 a0_0, .slice (some ad568) l0_1.length c0_1] 24 (0, 0)) (zk BK547)) : gb569 ≠ gb547)); have n12_ := Aside0.mk ((by rw [hg]; exact Nat.ne_of_lt (blk_lt (g := gb548) (o := .cells #[.int .i64 0, .slice none 0 0] 24 (0, 0)) (zk BK548)) : gb548 ≠ gb569)); have n13_ := Aside0.mk ((by rw [hg]; exact Nat.ne_of_gt (blk_lt (g := gb548) (o := .cells #[.int .i64 0, .slice none 0 0] 24 (0, 0)) (zk BK548)) : gb569 ≠ gb548)); have n14_ := Aside0.mk ((by rw [hg]; exact Nat.ne_of_lt (blk_lt (g := gb567) (o := .cells #[.int .i64 (x8_1.length : Int), u568001] 24 (0, 0)) (zk BK567)) : gb567 ≠ gb569)); have n15_ := Aside0.mk ((by rw [hg]; exact Nat.ne_of_gt (blk_lt (g := gb567) (o := .cells #[.int .i64 (x8_1.length : Int), u568001] 24 (0, 0)) (zk BK567)) : gb569 ≠ gb567)); clear HO_8; clear HO_9; clear HO_568001; clear BK547; clear BK548; clear BK567; clear HB; have HO_8 := n0_; have HO_9 := n1_; have HO_568001 := n2_; have BK547 := n3_; have BK548 := n4_; have BK567 := n5_; have HB := n6_; have BK569 := n7_; have GW569 := n8_; have GE569 := n9_; have NB547_569 := n10_; have NB569_547 := n11_; have NB548_569 := n12_; have NB569_548 := n13_; have NB567_569 := n14_; have NB569_567 := n15_; clear n0_ n1_ n2_ n3_ n4_ n5_ n6_ n7_ n8_ n9_ n10_ n11_ n12_ n13_ n14_ n15_; clear hb hbox hg; have hnb64 := NB569_547.out; have hnc64 := NB547_569.out; have hnb65 := NB569_548.out; have hnc65 := NB548_569.out; have hnb66 := NB569_567.out; have hnc66 := NB567_569.out; have hcz67_0 : w63.cell? ⟨gb569, 0, none⟩ = some (.int .i64 0) := (blk_cell BK569.out 0).trans rfl; have hcz67_1 : w63.cell? ⟨gb569, 1, none⟩ = some (.int .i64 0) := (blk_cell BK569.out 1).trans rfl; have hcz67_2 : w63.cell? ⟨gb569, 2, none⟩ = some (.int .i64 0) := (blk_cell BK569.out 2).trans rfl; have hfz67_0 := blk_frozen BK569.out 0; have hfz67_1 := blk_frozen BK569.out 1; have hfz67_2 := blk_frozen BK569.out 2))
             (try simp only [Act.put, List.setIfInBounds_toArray, List.set_cons_zero, List.set_cons_succ])
             have H := HC59.out
             clear HC59
             by_cases c68 : 0 ≤ ((rd_T69 l0_1 x12_2).f0)
             ·rw [if_pos c68] at H
              have c68b0 : decide (0 ≤ ((rd_T69 l0_1 x12_2).f0)) = true := decide_eq_true c68
              clear c68
              (first | rw [c68b0] | (simp only [i64_w, i32_w]; rw [c68b0]) | skip)
              by_cases c69 : ((rd_T69 l0_1 x12_2).f0) < (x9_1.length : Int)
              ·rw [if_pos c69] at H
               have c69b0 : decide (((rd_T69 l0_1 x12_2).f0) < (x9_1.length : Int)) = true := decide_eq_true c69
               clear c69
               by_cases c70 : (rd x9_1 ((rd_T69 l0_1 x12_2).f0)) ≥ 0
               ·rw [if_pos c70] at H
                have c70b0 : decide (0 ≤ (rd x9_1 ((rd_T69 l0_1 x12_2).f0))) = true := decide_eq_true c70
                clear c70
                by_cases c71 : 0 ≤ ((rd_T69 l0_1 x12_2).f1)
                ·rw [if_pos c71] at H
                 have c71b0 : decide (0 ≤ ((rd_T69 l0_1 x12_2).f1)) = true := decide_eq_true c71
                 clear c71
                 by_cases c72 : ((rd_T69 l0_1 x12_2).f1) < (x9_1.length : Int)
                 ·rw [if_pos c72] at H
                  have c72b0 : decide (((rd_T69 l0_1 x12_2).f1) < (x9_1.length : Int)) = true := decide_eq_true c72
                  clear c72
                  by_cases c73 : (rd x9_1 ((rd_T69 l0_1 x12_2).f1)) ≥ 0
                  ·rw [if_pos c73] at H
                   have c73b0 : decide (0 ≤ (rd x9_1 ((rd_T69 l0_1 x12_2).f1))) = true := decide_eq_true c73
                   clear c73
                   by_cases c74 : x568001_2.length < 5864062014805
                   ·rw [if_pos c74] at H
                    have LMc74 := Aside0.mk c74
                    clear c74
                    obtain ⟨y574, hy574⟩ : ∃ y_ : List (S69), y_ = (x568001_2 ++ [(⟨rd x9_1 ((rd_T69 l0_1 x12_2).f0), rd x9_1 ((rd_T69 l0_1 x12_2).f1), (rd_T69 l0_1 x12_2).f2⟩ : S69)]) := ⟨_, rfl⟩
                    replace H : (ancepsref09_Trim.l1 k2 x8_1 x9_1 (wrap64 (x12_2 + 1)) a0_0 l0_1 (x8_1.length : Int) y574) = some (r1, r2, r3, r4) := by first | (rw [hy574]; with_reducible exact H) | (have H2_ := (Option.bind_some _ _).symm.trans H; rw [hy574]; with_reducible exact H2_) | (have H2_ := (Option.bind_some _ _).symm.trans H; with_reducible exact H2_) | with_reducible exact H | (rw [hy574]; exact H) | exact H
                    have Ny574 := Aside0.mk hy574
                    clear hy574
                    have H' := Aside0.mk H
                    clear H
                    have hnb75 := NB569_547.out
                    have hnc75 := NB547_569.out
                    have hnb76 := NB569_548.out
                    have hnc76 := NB548_569.out
                    have hnb77 := NB569_567.out
                    have hnc77 := NB567_569.out
                    have hcz78_0 : w63.cell? ⟨gb569, 0, none⟩ = some (.int .i64 0) := (blk_cell BK569.out 0).trans rfl
                    have hcz78_1 : w63.cell? ⟨gb569, 1, none⟩ = some (.int .i64 0) := (blk_cell BK569.out 1).trans rfl
                    have hcz78_2 : w63.cell? ⟨gb569, 2, none⟩ = some (.int .i64 0) := (blk_cell BK569.out 2).trans rfl
                    have hfz78_0 := blk_frozen BK569.out 0
                    have hfz78_1 := blk_frozen BK569.out 1
                    have hfz78_2 := blk_frozen BK569.out 2
                    obtain ⟨Ao79, co79, eo79⟩ := Kd.R_slice HO_9.out
                    subst eo79
                    have p570 : 0 ≤ (((rd_T69 l0_1 x12_2).f0) : Int) := of_decide_eq_true zh
                    have q570 : ((rd_T69 l0_1 x12_2).f0) < (x9_1.length : Int) := of_decide_eq_true zh
                    obtain ⟨ad570, e570, hx570_0⟩ := Kd.at_int (Kd.R_reads' HO_9.out).2.2 ((rd_T69 l0_1 x12_2).f0) p570 q570
                    cases e570
                    have hn570_0 : ad570.block ≠ gb569 := Kd.own_blk (Kd.R_ne HO_9.out BK569.out (by decide))
                    have hn570_1 : ad570.block ≠ gb569 := Kd.own_blk (Kd.R_ne HO_9.out BK569.out (by decide))
                    have hn570_2 : ad570.block ≠ gb569 := Kd.own_blk (Kd.R_ne HO_9.out BK569.out (by decide))
                    replace hx570_0 := (cell_far (p := ⟨gb569, 0, none⟩) (by first | (rw [add_block]; exact hn570_0) | (show (Addr.add _ _).block ≠ _; rw [add_block]; exact hn570_0) | exact hn570_0) (.int .i64 ((rd_T69 l0_1 x12_2).f0))).trans hx570_0
                    replace hx570_0 := (cell_far (p := ⟨gb569, 1, none⟩) (by first | (rw [add_block]; exact hn570_1) | (show (Addr.add _ _).block ≠ _; rw [add_block]; exact hn570_1) | exact hn570_1) (.int .i64 ((rd_T69 l0_1 x12_2).f1))).trans hx570_0
                    replace hx570_0 := (cell_far (p := ⟨gb569, 2, none⟩) (by first | (rw [add_block]; exact hn570_2) | (show (Addr.add _ _).block ≠ _; rw [add_block]; exact hn570_2) | exact hn570_2) (.int .i64 ((rd_T69 l0_1 x12_2).f2))).trans hx570_0
                    clear hn570_0
                    clear hn570_1
                    clear hn570_2
                    replace p570 := eq_true p570
                    replace q570 := eq_true q570
                    have p571 : 0 ≤ (((rd_T69 l0_1 x12_2).f1) : Int) := of_decide_eq_true zh
                    have q571 : ((rd_T69 l0_1 x12_2).f1) < (x9_1.length : Int) := of_decide_eq_true zh
                    obtain ⟨ad571, e571, hx571_0⟩ := Kd.at_int (Kd.R_reads' HO_9.out).2.2 ((rd_T69 l0_1 x12_2).f1) p571 q571
                    obtain rfl : ad570 = ad571 := (by injection e571)
                    have hn571_0 : ad570.block ≠ gb569 := Kd.own_blk (Kd.R_ne HO_9.out BK569.out (by decide))
                    have hn571_1 : ad570.block ≠ gb569 := Kd.own_blk (Kd.R_ne HO_9.out BK569.out (by decide))
                    have hn571_2 : ad570.block ≠ gb569 := Kd.own_blk (Kd.R_ne HO_9.out BK569.out (by decide))
                    replace hx571_0 := (cell_far (p := ⟨gb569, 0, none⟩) (by first | (rw [add_block]; exact hn571_0) | (show (Addr.add _ _).block ≠ _; rw [add_block]; exact hn571_0) | exact hn571_0) (.int .i64 ((rd_T69 l0_1 x12_2).f0))).trans hx571_0
                    replace hx571_0 := (cell_far (p := ⟨gb569, 1, none⟩) (by first | (rw [add_block]; exact hn571_1) | (show (Addr.add _ _).block ≠ _; rw [add_block]; exact hn571_1) | exact hn571_1) (.int .i64 ((rd_T69 l0_1 x12_2).f1))).trans hx571_0
                    replace hx571_0 := (cell_far (p := ⟨gb569, 2, none⟩) (by first | (rw [add_block]; exact hn571_2) | (show (Addr.add _ _).block ≠ _; rw [add_block]; exact hn571_2) | exact hn571_2) (.int .i64 ((rd_T69 l0_1 x12_2).f2))).trans hx571_0
                    clear hn571_0
                    clear hn571_1
                    clear hn571_2
                    replace p571 := eq_true p571
                    replace q571 := eq_true q571
                    try go_wp2
                    have n0_ : Aside0 (Kd.R (Kd.int .i64) 3 (((w63.setCell ⟨gb569, 0, none⟩ (.int .i64 ((rd_T69 l0_1 x12_2).f0))).setCell ⟨gb569, 1, none⟩ (.int .i64 ((rd_T69 l0_1 x12_2).f1))).setCell ⟨gb569, 2, none⟩ (.int .i64 ((rd_T69 l0_1 x12_2).f2))) w.heap.size (fun k_ => some k_ ≠ (.slice (some ad570) x9_1.length co79 : Value).ownBlock) (.slice Ao52 x8_1.length co52) x8_1) := ⟨by (with_reducible repeat (first | apply Kd.R_alloc | apply Kd.R_drewN | apply Kd.R_drew)); exact Kd.R_mono (Kd.R_far (p := ⟨gb569, 2, none⟩) (Kd.R_far (p := ⟨gb569, 1, none⟩) (Kd.R_far (p := ⟨gb569, 0, none⟩) (Kd.R_types HO_8.out BK569.out (by decide)) (fun _ hk => hk.2) (.int .i64 ((rd_T69 l0_1 x12_2).f0))) (fun _ hk => hk.2) (.int .i64 ((rd_T69 l0_1 x12_2).f1))) (fun _ hk => hk.2) (.int .i64 ((rd_T69 l0_1 x12_2).f2))) (fun _ hk => hk.1)⟩
                    have n1_ : Aside0 (Kd.R (Kd.int .i64) 3 (((w63.setCell ⟨gb569, 0, none⟩ (.int .i64 ((rd_T69 l0_1 x12_2).f0))).setCell ⟨gb569, 1, none⟩ (.int .i64 ((rd_T69 l0_1 x12_2).f1))).setCell ⟨gb569, 2, none⟩ (.int .i64 ((rd_T69 l0_1 x12_2).f2))) w.heap.size (fun k_ => some k_ ≠ (.slice Ao52 x8_1.length co52 : Value).ownBlock) (.slice (some ad570) x9_1.length co79) x9_1) := ⟨by (with_reducible repeat (first | apply Kd.R_alloc | apply Kd.R_drewN | apply Kd.R_drew)); exact Kd.R_mono (Kd.R_far (p := ⟨gb569, 2, none⟩) (Kd.R_far (p := ⟨gb569, 1, none⟩) (Kd.R_far (p := ⟨gb569, 0, none⟩) (Kd.R_types HO_9.out BK569.out (by decide)) (fun _ hk => hk.2) (.int .i64 ((rd_T69 l0_1 x12_2).f0))) (fun _ hk => hk.2) (.int .i64 ((rd_T69 l0_1 x12_2).f1))) (fun _ hk => hk.2) (.int .i64 ((rd_T69 l0_1 x12_2).f2))) (fun _ hk => hk.1)⟩
                    have n2_ : Aside0 (Kd.R k69 69 (((w63.setCell ⟨gb569, 0, none⟩ (.int .i64 ((rd_T69 l0_1 x12_2).f0))).setCell ⟨gb569, 1, none⟩ (.int .i64 ((rd_T69 l0_1 x12_2).f1))).setCell ⟨gb569, 2, none⟩ (.int .i64 ((rd_T69 l0_1 x12_2).f2))) w.heap.size (fun k_ => k_ ≠ gb569) u568001 x568001_2) := ⟨by (with_reducible repeat (first | apply Kd.R_alloc | apply Kd.R_drewN | apply Kd.R_drew)); exact Kd.R_mono (Kd.R_far (p := ⟨gb569, 2, none⟩) (Kd.R_far (p := ⟨gb569, 1, none⟩) (Kd.R_far (p := ⟨gb569, 0, none⟩) (Kd.R_mono HO_568001.out (fun k_ hk => (⟨hk, hk.2⟩ : _ ∧ k_ ≠ gb569))) (fun _ hk => hk.2) (.int .i64 ((rd_T69 l0_1 x12_2).f0))) (fun _ hk => hk.2) (.int .i64 ((rd_T69 l0_1 x12_2).f1))) (fun _ hk => hk.2) (.int .i64 ((rd_T69 l0_1 x12_2).f2))) (fun _ hk => hk.1.2)⟩
                    have n3_ : Aside0 ((((w63.setCell ⟨gb569, 0, none⟩ (.int .i64 ((rd_T69 l0_1 x12_2).f0))).setCell ⟨gb569, 1, none⟩ (.int .i64 ((rd_T69 l0_1 x12_2).f1))).setCell ⟨gb569, 2, none⟩ (.int .i64 ((rd_T69 l0_1 x12_2).f2))).heap[gb547]? = some (.cells #[.int .i64 a0_0, .slice (some ad568) l0_1.length c0_1] 24 (0, 0))) := ⟨by (with_reducible repeat (first | refine blk_drewN ?_ _ | refine blk_drew ?_ | refine blk_alloc ?_ _)); refine blk_far ?_ NB547_569.out _; (with_reducible repeat (first | refine blk_drewN ?_ _ | refine blk_drew ?_ | refine blk_alloc ?_ _)); refine blk_far ?_ NB547_569.out _; (with_reducible repeat (first | refine blk_drewN ?_ _ | refine blk_drew ?_ | refine blk_alloc ?_ _)); refine blk_far ?_ NB547_569.out _; (with_reducible repeat (first | refine blk_drewN ?_ _ | refine blk_drew ?_ | refine blk_alloc ?_ _)); exact BK547.out⟩
                    have n4_ : Aside0 ((((w63.setCell ⟨gb569, 0, none⟩ (.int .i64 ((rd_T69 l0_1 x12_2).f0))).setCell ⟨gb569, 1, none⟩ (.int .i64 ((rd_T69 l0_1 x12_2).f1))).setCell ⟨gb569, 2, none⟩ (.int .i64 ((rd_T69 l0_1 x12_2).f2))).heap[gb548]? = some (.cells #[.int .i64 0, .slice none 0 0] 24 (0, 0))) := ⟨by (with_reducible repeat (first | refine blk_drewN ?_ _ | refine blk_drew ?_ | refine blk_alloc ?_ _)); refine blk_far ?_ NB548_569.out _; (with_reducible repeat (first | refine blk_drewN ?_ _ | refine blk_drew ?_ | refine blk_alloc ?_ _)); refine blk_far ?_ NB548_569.out _; (with_reducible repeat (first | refine blk_drewN ?_ _ | refine blk_drew ?_ | refine blk_alloc ?_ _)); refine blk_far ?_ NB548_569.out _; (with_reducible repeat (first | refine blk_drewN ?_ _ | refine blk_drew ?_ | refine blk_alloc ?_ _)); exact BK548.out⟩
                    have n5_ : Aside0 ((((w63.setCell ⟨gb569, 0, none⟩ (.int .i64 ((rd_T69 l0_1 x12_2).f0))).setCell ⟨gb569, 1, none⟩ (.int .i64 ((rd_T69 l0_1 x12_2).f1))).setCell ⟨gb569, 2, none⟩ (.int .i64 ((rd_T69 l0_1 x12_2).f2))).heap[gb567]? = some (.cells #[.int .i64 (x8_1.length : Int), u568001] 24 (0, 0))) := ⟨by (with_reducible repeat (first | refine blk_drewN ?_ _ | refine blk_drew ?_ | refine blk_alloc ?_ _)); refine blk_far ?_ NB567_569.out _; (with_reducible repeat (first | refine blk_drewN ?_ _ | refine blk_drew ?_ | refine blk_alloc ?_ _)); refine blk_far ?_ NB567_569.out _; (with_reducible repeat (first | refine blk_drewN ?_ _ | refine blk_drew ?_ | refine blk_alloc ?_ _)); refine blk_far ?_ NB567_569.out _; (with_reducible repeat (first | refine blk_drewN ?_ _ | refine blk_drew ?_ | refine blk_alloc ?_ _)); exact BK567.out⟩
                    have n6_ : Aside0 ((((w63.setCell ⟨gb569, 0, none⟩ (.int .i64 ((rd_T69 l0_1 x12_2).f0))).setCell ⟨gb569, 1, none⟩ (.int .i64 ((rd_T69 l0_1 x12_2).f1))).setCell ⟨gb569, 2, none⟩ (.int .i64 ((rd_T69 l0_1 x12_2).f2))).heap[gb569]? = some (.cells #[.int .i64 ((rd_T69 l0_1 x12_2).f0), .int .i64 ((rd_T69 l0_1 x12_2).f1), .int .i64 ((rd_T69 l0_1 x12_2).f2)] 69 (0, 0))) := ⟨by (with_reducible repeat (first | refine blk_drewN ?_ _ | refine blk_drew ?_ | refine blk_alloc ?_ _)); refine blk_put (cs := #[.int .i64 ((rd_T69 l0_1 x12_2).f0), .int .i64 ((rd_T69 l0_1 x12_2).f1), .int .i64 0]) ?_ 2 _ rfl; (with_reducible repeat (first | refine blk_drewN ?_ _ | refine blk_drew ?_ | refine blk_alloc ?_ _)); refine blk_put (cs := #[.int .i64 ((rd_T69 l0_1 x12_2).f0), .int .i64 0, .int .i64 0]) ?_ 1 _ rfl; (with_reducible repeat (first | refine blk_drewN ?_ _ | refine blk_drew ?_ | refine blk_alloc ?_ _)); refine blk_put (cs := #[.int .i64 0, .int .i64 0, .int .i64 0]) ?_ 0 _ rfl; (with_reducible repeat (first | refine blk_drewN ?_ _ | refine blk_drew ?_ | refine blk_alloc ?_ _)); exact BK569.out⟩
                    have n7_ : Aside0 (Below w.heap.size w (((w63.setCell ⟨gb569, 0, none⟩ (.int .i64 ((rd_T69 l0_1 x12_2).f0))).setCell ⟨gb569, 1, none⟩ (.int .i64 ((rd_T69 l0_1 x12_2).f1))).setCell ⟨gb569, 2, none⟩ (.int .i64 ((rd_T69 l0_1 x12_2).f2)))) := ⟨by repeat (first | (with_reducible first | exact HB.out | apply below_alloc | apply pw_below_drewN | apply below_drew1 | refine below_set ?_ GE547.out | refine below_set ?_ GE548.out | refine below_set ?_ GE567.out | refine below_set ?_ GE569.out) | exact HB.out)⟩
                    (try clear HO_8)
                    (try clear HO_9)
                    (try clear HO_568001)
                    (try clear BK547)
                    (try clear BK548)
                    (try clear BK567)
                    (try clear BK569)
                    (try clear HB)
                    generalize (((w63.setCell ⟨gb569, 0, none⟩ (.int .i64 ((rd_T69 l0_1 x12_2).f0))).setCell ⟨gb569, 1, none⟩ (.int .i64 ((rd_T69 l0_1 x12_2).f1))).setCell ⟨gb569, 2, none⟩ (.int .i64 ((rd_T69 l0_1 x12_2).f2))) = w80 at n0_ n1_ n2_ n3_ n4_ n5_ n6_ n7_ ⊢
                    have HO_8 := n0_
                    have HO_9 := n1_
                    have HO_568001 := n2_
                    have BK547 := n3_
                    have BK548 := n4_
                    have BK567 := n5_
                    have BK569 := n6_
                    have HB := n7_
                    clear n0_ n1_ n2_ n3_ n4_ n5_ n6_ n7_
                    have n0_ := Aside0.mk (Kd.R_drew HO_8.out)
                    have n1_ := Aside0.mk (Kd.R_drew HO_9.out)
                    have n2_ := Aside0.mk (Kd.R_drew HO_568001.out)
                    have n3_ := Aside0.mk (blk_drew BK547.out)
                    have n4_ := Aside0.mk (blk_drew BK548.out)
                    have n5_ := Aside0.mk (blk_drew BK567.out)
                    have n6_ := Aside0.mk (blk_drew BK569.out)
                    have n7_ := Aside0.mk (below_drew1 HB.out)
                    clear HO_8
                    clear HO_9
                    clear HO_568001
                    clear BK547
                    clear BK548
                    clear BK567
                    clear BK569
                    clear HB
                    have HO_8 := n0_
                    have HO_9 := n1_
                    have HO_568001 := n2_
                    have BK547 := n3_
                    have BK548 := n4_
                    have BK567 := n5_
                    have BK569 := n6_
                    have HB := n7_
                    clear n0_ n1_ n2_ n3_ n4_ n5_ n6_ n7_
                    have p572 : 0 ≤ (((rd_T69 l0_1 x12_2).f0) : Int) := of_decide_eq_true zh
                    have q572 : ((rd_T69 l0_1 x12_2).f0) < (x9_1.length : Int) := of_decide_eq_true zh
                    obtain ⟨ad572, e572, hx572_0⟩ := Kd.at_int (Kd.R_reads' HO_9.out).2.2 ((rd_T69 l0_1 x12_2).f0) p572 q572
                    obtain rfl : ad570 = ad572 := (by injection e572)
                    replace p572 := eq_true p572
                    replace q572 := eq_true q572
                    have p573 : 0 ≤ (((rd_T69 l0_1 x12_2).f1) : Int) := of_decide_eq_true zh
                    have q573 : ((rd_T69 l0_1 x12_2).f1) < (x9_1.length : Int) := of_decide_eq_true zh
                    obtain ⟨ad573, e573, hx573_0⟩ := Kd.at_int (Kd.R_reads' HO_9.out).2.2 ((rd_T69 l0_1 x12_2).f1) p573 q573
                    obtain rfl : ad570 = ad573 := (by injection e573)
                    replace p573 := eq_true p573
                    replace q573 := eq_true q573
                    refine start_ (n := 19) (S := fun w' => w'.cell? ⟨gb567, 0, none⟩ = some (.int .i64 (x8_1.length : Int)) ∧ w'.cell? ⟨gb567, 1, none⟩ = some (u568001) ∧ w'.cell? ⟨gb569, 0, none⟩ = some (.int .i64 ((rd_T69 l0_1 x12_2).f0)) ∧ w'.cell? ⟨gb569, 1, none⟩ = some (.int .i64 ((rd_T69 l0_1 x12_2).f1)) ∧ w'.cell? ⟨gb569, 2, none⟩ = some (.int .i64 ((rd_T69 l0_1 x12_2).f2)) ∧ w'.cell? (ad570.add (((rd_T69 l0_1 x12_2).f0)).toNat) = some (.int .i64 (rd x9_1 ((rd_T69 l0_1 x12_2).f0))) ∧ w'.cell? (ad570.add (((rd_T69 l0_1 x12_2).f1)).toNat) = some (.int .i64 (rd x9_1 ((rd_T69 l0_1 x12_2).f1)))) (ds := [16, 18]) #[false, false, false, false, false, false, false, false, false, false, false, false, false, false, false, false, false, false, false] zK rfl rfl ⟨(blk_cell BK567.out 0).trans rfl, (blk_cell BK567.out 1).trans rfl, (blk_cell BK569.out 0).trans rfl, (blk_cell BK569.out 1).trans rfl, (blk_cell BK569.out 2).trans rfl, hx572_0, hx573_0⟩ (fun hHeld => ?_); refine with_tabW ancepsref09_Trim.tab22 ancepsref09_Trim.bits22 (fun HT_ HW_ => ?_)
                    generalize w80.drew = w81 at HO_8 HO_9 HO_568001 BK547 BK548 BK567 BK569 HB hx572_0 hx573_0 hHeld ⊢
                    refine pure_ (i := 0) (N := some 90) (v := ?_) (a' := ?_) #[true, false, false, false, false, false, false, false, false, false, false, false, false, false, false, false, false, false, false] rfl rfl (any_of HT_.out zK) (fun _ _ _ h => h) (Or.inl ⟨by rfl, ?_⟩) ?_ ?_
                    rotate_left
                    ·intro w'
                     go_simp
                     with_reducible rfl
                    rotate_left
                    ·simp only [Act.put, List.setIfInBounds_toArray, List.set_cons_zero, List.set_cons_succ, i64_w, i32_w]
                     rfl
                    refine pure_ (i := 2) (N := some 92) (v := ?_) (a' := ?_) #[true, false, true, false, false, false, false, false, false, false, false, false, false, false, false, false, false, false, false] rfl rfl (any_of HT_.out zK) (fun _ _ _ h => h) (Or.inl ⟨by rfl, ?_⟩) ?_ ?_
                    rotate_left
                    ·intro w'
                     go_simp
                     with_reducible rfl
                    rotate_left
                    ·simp only [Act.put, List.setIfInBounds_toArray, List.set_cons_zero, List.set_cons_succ, i64_w, i32_w]
                     rfl
                    refine pure_ (i := 3) (N := some 93) (v := ?_) (a' := ?_) #[true, false, true, true, false, false, false, false, false, false, false, false, false, false, false, false, false, false, false] rfl rfl (any_of HT_.out zK) (fun _ _ _ h => h) (Or.inl ⟨by rfl, ?_⟩) ?_ ?_
                    rotate_left
                    ·intro w'
                     go_simp
                     with_reducible rfl
                    rotate_left
                    ·simp only [Act.put, List.setIfInBounds_toArray, List.set_cons_zero, List.set_cons_succ, i64_w, i32_w]
                     rfl
                    refine pure_ (i := 7) (N := some 97) (v := ?_) (a' := ?_) #[true, false, true, true, false, false, false, true, false, false, false, false, false, false, false, false, false, false, false] rfl rfl (any_of HT_.out zK) (fun _ _ _ h => h) (Or.inl ⟨by rfl, ?_⟩) ?_ ?_
                    rotate_left
                    ·intro w'
                     go_simp
                     with_reducible rfl
                    rotate_left
                    ·simp only [Act.put, List.setIfInBounds_toArray, List.set_cons_zero, List.set_cons_succ, i64_w, i32_w]
                     rfl
                    refine pure_ (i := 8) (N := some 98) (v := ?_) (a' := ?_) #[true, false, true, true, false, false, false, true, true, false, false, false, false, false, false, false, false, false, false] rfl rfl (any_of HT_.out zK) (fun _ _ _ h => h) (Or.inl ⟨by rfl, ?_⟩) ?_ ?_
                    rotate_left
                    ·intro w'
                     go_simp
                     with_reducible rfl
                    rotate_left
                    ·simp only [Act.put, List.setIfInBounds_toArray, List.set_cons_zero, List.set_cons_succ, i64_w, i32_w]
                     rfl
                    refine pure_ (i := 12) (N := some 102) (v := ?_) (a' := ?_) #[true, false, true, true, false, false, false, true, true, false, false, false, true, false, false, false, false, false, false] rfl rfl (any_of HT_.out zK) (fun _ _ _ h => h) (Or.inl ⟨by rfl, ?_⟩) ?_ ?_
                    rotate_left
                    ·intro w'
                     go_simp
                     with_reducible rfl
                    rotate_left
                    ·simp only [Act.put, List.setIfInBounds_toArray, List.set_cons_zero, List.set_cons_succ, i64_w, i32_w]
                     rfl
                    refine take_ (i := 1) (N := some 91) (v := ?_) (a' := ?_) #[true, true, true, true, false, false, false, true, true, false, false, false, true, false, false, false, false, false, false] rfl rfl (take_ofW HT_.out HW_.out zK) (fun _ _ _ h => h) (Or.inl ⟨by rfl, ?_⟩) hHeld ?_ ?_
                    rotate_left
                    ·rintro w' ⟨s0, s1, s2, s3, s4, s5, s6⟩
                     go_simp
                     with_reducible rfl
                    rotate_left
                    ·simp only [Act.put, List.setIfInBounds_toArray, List.set_cons_zero, List.set_cons_succ, i64_w, i32_w]
                     rfl
                    refine take_ (i := 4) (N := some 94) (v := ?_) (a' := ?_) #[true, true, true, true, true, false, false, true, true, false, false, false, true, false, false, false, false, false, false] rfl rfl (take_ofW HT_.out HW_.out zK) (fun _ _ _ h => h) (Or.inl ⟨by rfl, ?_⟩) hHeld ?_ ?_
                    rotate_left
                    ·rintro w' ⟨s0, s1, s2, s3, s4, s5, s6⟩
                     go_simp
                     with_reducible rfl
                    rotate_left
                    ·simp only [Act.put, List.setIfInBounds_toArray, List.set_cons_zero, List.set_cons_succ, i64_w, i32_w]
                     rfl
                    refine pure_ (i := 5) (N := some 95) (v := ?_) (a' := ?_) #[true, true, true, true, true, true, false, true, true, false, false, false, true, false, false, false, false, false, false] rfl rfl (any_of HT_.out zK) (fun _ _ _ h => h) (Or.inl ⟨by rfl, ?_⟩) ?_ ?_
                    rotate_left
                    ·intro w'
                     go_simp
                     with_reducible rfl
                    rotate_left
                    ·simp only [Act.put, List.setIfInBounds_toArray, List.set_cons_zero, List.set_cons_succ, i64_w, i32_w]
                     rfl
                    refine take_ (i := 6) (N := some 96) (v := ?_) (a' := ?_) #[true, true, true, true, true, true, true, true, true, false, false, false, true, false, false, false, false, false, false] rfl rfl (take_ofW HT_.out HW_.out zK) (fun _ _ _ h => h) (Or.inl ⟨by rfl, ?_⟩) hHeld ?_ ?_
                    rotate_left
                    ·rintro w' ⟨s0, s1, s2, s3, s4, s5, s6⟩
                     go_simp
                     with_reducible rfl
                    rotate_left
                    ·simp only [Act.put, List.setIfInBounds_toArray, List.set_cons_zero, List.set_cons_succ, i64_w, i32_w]
                     rfl
                    refine take_ (i := 9) (N := some 99) (v := ?_) (a' := ?_) #[true, true, true, true, true, true, true, true, true, true, false, false, true, false, false, false, false, false, false] rfl rfl (take_ofW HT_.out HW_.out zK) (fun _ _ _ h => h) (Or.inl ⟨by rfl, ?_⟩) hHeld ?_ ?_
                    rotate_left
                    ·rintro w' ⟨s0, s1, s2, s3, s4, s5, s6⟩
                     go_simp
                     with_reducible rfl
                    rotate_left
                    ·simp only [Act.put, List.setIfInBounds_toArray, List.set_cons_zero, List.set_cons_succ, i64_w, i32_w]
                     rfl
                    refine pure_ (i := 10) (N := some 100) (v := ?_) (a' := ?_) #[true, true, true, true, true, true, true, true, true, true, true, false, true, false, false, false, false, false, false] rfl rfl (any_of HT_.out zK) (fun _ _ _ h => h) (Or.inl ⟨by rfl, ?_⟩) ?_ ?_
                    rotate_left
                    ·intro w'
                     go_simp
                     with_reducible rfl
                    rotate_left
                    ·simp only [Act.put, List.setIfInBounds_toArray, List.set_cons_zero, List.set_cons_succ, i64_w, i32_w]
                     rfl
                    refine take_ (i := 11) (N := some 101) (v := ?_) (a' := ?_) #[true, true, true, true, true, true, true, true, true, true, true, true, true, false, false, false, false, false, false] rfl rfl (take_ofW HT_.out HW_.out zK) (fun _ _ _ h => h) (Or.inl ⟨by rfl, ?_⟩) hHeld ?_ ?_
                    rotate_left
                    ·rintro w' ⟨s0, s1, s2, s3, s4, s5, s6⟩
                     go_simp
                     with_reducible rfl
                    rotate_left
                    ·simp only [Act.put, List.setIfInBounds_toArray, List.set_cons_zero, List.set_cons_succ, i64_w, i32_w]
                     rfl
                    refine take_ (i := 13) (N := some 103) (v := ?_) (a' := ?_) #[true, true, true, true, true, true, true, true, true, true, true, true, true, true, false, false, false, false, false] rfl rfl (take_ofW HT_.out HW_.out zK) (fun _ _ _ h => h) (Or.inl ⟨by rfl, ?_⟩) hHeld ?_ ?_
                    rotate_left
                    ·rintro w' ⟨s0, s1, s2, s3, s4, s5, s6⟩
                     go_simp
                     with_reducible rfl
                    rotate_left
                    ·simp only [Act.put, List.setIfInBounds_toArray, List.set_cons_zero, List.set_cons_succ, i64_w, i32_w]
                     rfl
                    refine pure_ (i := 14) (N := some 104) (v := ?_) (a' := ?_) #[true, true, true, true, true, true, true, true, true, true, true, true, true, true, true, false, false, false, false] rfl rfl (any_of HT_.out zK) (fun _ _ _ h => h) (Or.inl ⟨by rfl, ?_⟩) ?_ ?_
                    rotate_left
                    ·intro w'
                     go_simp
                     with_reducible rfl
                    rotate_left
                    ·simp only [Act.put, List.setIfInBounds_toArray, List.set_cons_zero, List.set_cons_succ, i64_w, i32_w]
                     rfl
                    refine one_ (i := 15) (N := some 105) #[true, true, true, true, true, true, true, true, true, true, true, true, true, true, true, true, false, false, false] rfl rfl (one_of HT_.out zK) (by decide) (fun K hK => ?_)
                    refine value_ (w1 := ?_) (v := ?_) (by rfl) rfl ?_ ?_
                    rotate_left 2
                    ·go_simp
                     constructor
                     ·rfl
                     ·rfl
                    refine hK.out _ _ ⟨(blk_cell (blk_alloc BK567.out _) 0).trans rfl, (blk_cell (blk_alloc BK567.out _) 1).trans rfl, (blk_cell (blk_alloc BK569.out _) 0).trans rfl, (blk_cell (blk_alloc BK569.out _) 1).trans rfl, (blk_cell (blk_alloc BK569.out _) 2).trans rfl, (World.cell?_alloc_lt _ _ _ (World.block_lt_of_cell? _ _ (hHeld.2.2.2.2.2.1))).trans (hHeld.2.2.2.2.2.1), (World.cell?_alloc_lt _ _ _ (World.block_lt_of_cell? _ _ (hHeld.2.2.2.2.2.2))).trans (hHeld.2.2.2.2.2.2)⟩ (fun hHeld => ?_)
                    clear hK K
                    refine norm_ (a' := ?_) ?_ ?_
                    rotate_left
                    ·show Act.put _ (some 105) _ = _
                     simp only [Act.put, List.setIfInBounds_toArray, List.set_cons_zero, List.set_cons_succ, i64_w, i32_w]
                     rfl
                    refine last_ (i := 16) (N := some 106) #[true, true, true, true, true, true, true, true, true, true, true, true, true, true, true, true, true, false, false] rfl rfl (one_of HT_.out zK) (by decide) (fun K hK => ?_)
                    refine Kd.R_append_step k69 (w0 := w) w.heap.size (by rfl) (.tmp 91) (.tmp 105) 22 69 (.agg #[(.int .i64 0), (.int .i64 0), (.int .i64 0)]) 24 rfl Try.underlying22 info69 rfl (by decide) (by omega) u568001 x568001_2 (⟨rd x9_1 ((rd_T69 l0_1 x12_2).f0), rd x9_1 ((rd_T69 l0_1 x12_2).f1), (rd_T69 l0_1 x12_2).f2⟩ : S69) [.int .i64 (rd x9_1 ((rd_T69 l0_1 x12_2).f0)), .int .i64 (rd x9_1 ((rd_T69 l0_1 x12_2).f1)), .int .i64 ((rd_T69 l0_1 x12_2).f2)] (fun k_ => k_ ≠ gb569) (fun _ => False) rfl rfl ?aP (fun _ hk => hk.elim) ?aF ?aO ?aB ?aS ?aL ?_
                    (case aP => exact k69_mkM _ _ _ (⟨rd x9_1 ((rd_T69 l0_1 x12_2).f0), rd x9_1 ((rd_T69 l0_1 x12_2).f1), (rd_T69 l0_1 x12_2).f2⟩ : S69))
                    (case aB => exact zB)
                    (case aF => exact (fun k_ hk => Kd.freshB (g := gb569) (o := .cells #[.int .i64 ((rd_T69 l0_1 x12_2).f0), .int .i64 ((rd_T69 l0_1 x12_2).f1), .int .i64 ((rd_T69 l0_1 x12_2).f2)] 69 (0, 0)) (zk BK569) k_ hk))
                    (case aO => exact (zR HO_568001))
                    (case aS => exact (below_size zB))
                    (case aL => have := LMc74.out; omega)
                    intro v575 w82 ho hb hg hat
                    rw [← Ny574.out] at ho
                    have n0_ := Aside0.mk (Kd.R_over' (zR HO_8) (Kd.R_typed (zR HO_568001)) (by decide) hg)
                    have n1_ := Aside0.mk (Kd.R_over' (zR HO_9) (Kd.R_typed (zR HO_568001)) (by decide) hg)
                    have n2_ := Aside0.mk (blk_grown (g := gb547) (o := .cells #[.int .i64 a0_0, .slice (some ad568) l0_1.length c0_1] 24 (0, 0)) (zk BK547) hg (Kd.R_ne HO_568001.out BK547.out (by decide)))
                    have n3_ := Aside0.mk (blk_grown (g := gb548) (o := .cells #[.int .i64 0, .slice none 0 0] 24 (0, 0)) (zk BK548) hg (Kd.R_ne HO_568001.out BK548.out (by decide)))
                    have n4_ := Aside0.mk (blk_grown (g := gb567) (o := .cells #[.int .i64 (x8_1.length : Int), u568001] 24 (0, 0)) (zk BK567) hg (Kd.R_ne HO_568001.out BK567.out (by decide)))
                    have n5_ := Aside0.mk (blk_grown (g := gb569) (o := .cells #[.int .i64 ((rd_T69 l0_1 x12_2).f0), .int .i64 ((rd_T69 l0_1 x12_2).f1), .int .i64 ((rd_T69 l0_1 x12_2).f2)] 69 (0, 0)) (zk BK569) hg (Kd.R_away HO_568001.out (fun _ hk => hk)))
                    have n6_ := Aside0.mk (hb)
                    have n7_ := Aside0.mk (ho)
                    clear HO_8
                    clear HO_9
                    clear BK547
                    clear BK548
                    clear BK567
                    clear BK569
                    clear HB
                    clear HO_568001
                    have HO_8 := n0_
                    have HO_9 := n1_
                    have BK547 := n2_
                    have BK548 := n3_
                    have BK567 := n4_
                    have BK569 := n5_
                    have HB := n6_
                    have HO576 := n7_
                    clear n0_ n1_ n2_ n3_ n4_ n5_ n6_ n7_
                    clear ho hb hg hat
                    obtain ⟨Ao83, co83, eo83⟩ := Kd.R_slice HO576.out
                    (first | subst eo83 | (injection eo83 with f1_ f2_ f3_; have f4_ := f1_.symm; have f5_ := f3_.symm; clear f1_ f2_ f3_; subst f4_; subst f5_))
                    refine hK.out _ _ ?_
                    clear hK K
                    refine norm_ (a' := ?_) ?_ ?_
                    rotate_left
                    ·show Act.put _ (some 106) _ = _
                     simp only [Act.put, List.setIfInBounds_toArray, List.set_cons_zero, List.set_cons_succ, i64_w, i32_w]
                     rfl
                    refine pure_ (i := 17) (N := some 107) (v := ?_) (a' := ?_) #[true, true, true, true, true, true, true, true, true, true, true, true, true, true, true, true, true, true, false] rfl rfl (any_of HT_.out zK) (fun _ _ _ h => h) (Or.inl ⟨by rfl, ?_⟩) ?_ ?_
                    rotate_left
                    ·intro w'
                     go_simp
                     with_reducible rfl
                    rotate_left
                    ·simp only [Act.put, List.setIfInBounds_toArray, List.set_cons_zero, List.set_cons_succ, i64_w, i32_w]
                     rfl
                    refine last_ (i := 18) (N := none) #[true, true, true, true, true, true, true, true, true, true, true, true, true, true, true, true, true, true, true] rfl rfl (one_of HT_.out zK) (by decide) (fun K hK => ?_)
                    have hs84 : w82.cell? ⟨gb567, 1, none⟩ = some (u568001) := (blk_cell BK567.out 1).trans rfl
                    have hfs84 := blk_frozen BK567.out 1
                    have hns84_0 := NB547_567.out
                    have hns84_1 := NB548_567.out
                    have hns84_3 := NB569_567.out
                    have hms84_0 := NB567_547.out
                    have hms84_1 := NB567_548.out
                    have hms84_3 := NB567_569.out
                    refine skip_ (w1 := ?_) (by rfl) rfl ?_ ?_
                    rotate_left
                    ·go_simp
                     rfl
                    refine hK.out _ _ ?_
                    clear hK K
                    refine done_ (done_of HT_.out zK) ?_
                    try go_wp2
                    go_roundg k2
                    case measure => have := HK1.out; have := HK2.out; omega
                    case rel => exact ⟨(wrap64 (x12_2 + 1)), (y574), (.slice Ao83 y574.length co83), zT, H', ⟨by have := HK1.out; have := HK2.out; omega⟩, ⟨by (with_reducible repeat (first | apply Kd.R_alloc | apply Kd.R_drewN | apply Kd.R_drew)); exact Kd.R_mono (Kd.R_far (p := ⟨gb567, 1, none⟩) (Kd.R_types HO_8.out BK567.out (by decide)) (fun _ hk => hk.2) (.slice Ao83 y574.length co83)) (fun _ hk => hk.1)⟩, ⟨by (with_reducible repeat (first | apply Kd.R_alloc | apply Kd.R_drewN | apply Kd.R_drew)); exact Kd.R_mono (Kd.R_far (p := ⟨gb567, 1, none⟩) (Kd.R_types HO_9.out BK567.out (by decide)) (fun _ hk => hk.2) (.slice Ao83 y574.length co83)) (fun _ hk => hk.1)⟩, ⟨by (with_reducible repeat (first | apply Kd.R_alloc | apply Kd.R_drewN | apply Kd.R_drew)); exact Kd.R_mono (Kd.R_far (p := ⟨gb567, 1, none⟩) (Kd.R_types HO576.out BK567.out (by decide)) (fun _ hk => hk.2) (.slice Ao83 y574.length co83)) (fun _ hk => trivial)⟩, ⟨by (with_reducible repeat (first | refine blk_drewN ?_ _ | refine blk_drew ?_ | refine blk_alloc ?_ _)); refine blk_far ?_ NB547_567.out _; (with_reducible repeat (first | refine blk_drewN ?_ _ | refine blk_drew ?_ | refine blk_alloc ?_ _)); exact BK547.out⟩, ⟨by (with_reducible repeat (first | refine blk_drewN ?_ _ | refine blk_drew ?_ | refine blk_alloc ?_ _)); refine blk_far ?_ NB548_567.out _; (with_reducible repeat (first | refine blk_drewN ?_ _ | refine blk_drew ?_ | refine blk_alloc ?_ _)); exact BK548.out⟩, ⟨by (with_reducible repeat (first | refine blk_drewN ?_ _ | refine blk_drew ?_ | refine blk_alloc ?_ _)); refine blk_put (cs := #[.int .i64 (x8_1.length : Int), u568001]) ?_ 1 _ rfl; (with_reducible repeat (first | refine blk_drewN ?_ _ | refine blk_drew ?_ | refine blk_alloc ?_ _)); exact BK567.out⟩, ⟨by repeat (first | (with_reducible first | exact HB.out | apply below_alloc | apply pw_below_drewN | apply below_drew1 | refine below_set ?_ GE547.out | refine below_set ?_ GE548.out | refine below_set ?_ GE567.out | refine below_set ?_ GE569.out) | exact HB.out)⟩⟩
                   ·rw [if_neg c74] at H
                    exact absurd H (by simp)
                  ·rw [if_neg c73] at H
                   have c73b0 : decide (0 ≤ (rd x9_1 ((rd_T69 l0_1 x12_2).f1))) = false := decide_eq_false c73
                   clear c73
                   have H' := Aside0.mk H
                   clear H
                   have hnb85 := NB569_547.out
                   have hnc85 := NB547_569.out
                   have hnb86 := NB569_548.out
                   have hnc86 := NB548_569.out
                   have hnb87 := NB569_567.out
                   have hnc87 := NB567_569.out
                   have hcz88_0 : w63.cell? ⟨gb569, 0, none⟩ = some (.int .i64 0) := (blk_cell BK569.out 0).trans rfl
                   have hcz88_1 : w63.cell? ⟨gb569, 1, none⟩ = some (.int .i64 0) := (blk_cell BK569.out 1).trans rfl
                   have hcz88_2 : w63.cell? ⟨gb569, 2, none⟩ = some (.int .i64 0) := (blk_cell BK569.out 2).trans rfl
                   have hfz88_0 := blk_frozen BK569.out 0
                   have hfz88_1 := blk_frozen BK569.out 1
                   have hfz88_2 := blk_frozen BK569.out 2
                   obtain ⟨Ao89, co89, eo89⟩ := Kd.R_slice HO_9.out
                   subst eo89
                   have p570 : 0 ≤ (((rd_T69 l0_1 x12_2).f0) : Int) := of_decide_eq_true zh
                   have q570 : ((rd_T69 l0_1 x12_2).f0) < (x9_1.length : Int) := of_decide_eq_true zh
                   obtain ⟨ad570, e570, hx570_0⟩ := Kd.at_int (Kd.R_reads' HO_9.out).2.2 ((rd_T69 l0_1 x12_2).f0) p570 q570
                   cases e570
                   have hn570_0 : ad570.block ≠ gb569 := Kd.own_blk (Kd.R_ne HO_9.out BK569.out (by decide))
                   have hn570_1 : ad570.block ≠ gb569 := Kd.own_blk (Kd.R_ne HO_9.out BK569.out (by decide))
                   have hn570_2 : ad570.block ≠ gb569 := Kd.own_blk (Kd.R_ne HO_9.out BK569.out (by decide))
                   replace hx570_0 := (cell_far (p := ⟨gb569, 0, none⟩) (by first | (rw [add_block]; exact hn570_0) | (show (Addr.add _ _).block ≠ _; rw [add_block]; exact hn570_0) | exact hn570_0) (.int .i64 ((rd_T69 l0_1 x12_2).f0))).trans hx570_0
                   replace hx570_0 := (cell_far (p := ⟨gb569, 1, none⟩) (by first | (rw [add_block]; exact hn570_1) | (show (Addr.add _ _).block ≠ _; rw [add_block]; exact hn570_1) | exact hn570_1) (.int .i64 ((rd_T69 l0_1 x12_2).f1))).trans hx570_0
                   replace hx570_0 := (cell_far (p := ⟨gb569, 2, none⟩) (by first | (rw [add_block]; exact hn570_2) | (show (Addr.add _ _).block ≠ _; rw [add_block]; exact hn570_2) | exact hn570_2) (.int .i64 ((rd_T69 l0_1 x12_2).f2))).trans hx570_0
                   clear hn570_0
                   clear hn570_1
                   clear hn570_2
                   replace p570 := eq_true p570
                   replace q570 := eq_true q570
                   have p571 : 0 ≤ (((rd_T69 l0_1 x12_2).f1) : Int) := of_decide_eq_true zh
                   have q571 : ((rd_T69 l0_1 x12_2).f1) < (x9_1.length : Int) := of_decide_eq_true zh
                   obtain ⟨ad571, e571, hx571_0⟩ := Kd.at_int (Kd.R_reads' HO_9.out).2.2 ((rd_T69 l0_1 x12_2).f1) p571 q571
                   obtain rfl : ad570 = ad571 := (by injection e571)
                   have hn571_0 : ad570.block ≠ gb569 := Kd.own_blk (Kd.R_ne HO_9.out BK569.out (by decide))
                   have hn571_1 : ad570.block ≠ gb569 := Kd.own_blk (Kd.R_ne HO_9.out BK569.out (by decide))
                   have hn571_2 : ad570.block ≠ gb569 := Kd.own_blk (Kd.R_ne HO_9.out BK569.out (by decide))
                   replace hx571_0 := (cell_far (p := ⟨gb569, 0, none⟩) (by first | (rw [add_block]; exact hn571_0) | (show (Addr.add _ _).block ≠ _; rw [add_block]; exact hn571_0) | exact hn571_0) (.int .i64 ((rd_T69 l0_1 x12_2).f0))).trans hx571_0
                   replace hx571_0 := (cell_far (p := ⟨gb569, 1, none⟩) (by first | (rw [add_block]; exact hn571_1) | (show (Addr.add _ _).block ≠ _; rw [add_block]; exact hn571_1) | exact hn571_1) (.int .i64 ((rd_T69 l0_1 x12_2).f1))).trans hx571_0
                   replace hx571_0 := (cell_far (p := ⟨gb569, 2, none⟩) (by first | (rw [add_block]; exact hn571_2) | (show (Addr.add _ _).block ≠ _; rw [add_block]; exact hn571_2) | exact hn571_2) (.int .i64 ((rd_T69 l0_1 x12_2).f2))).trans hx571_0
                   clear hn571_0
                   clear hn571_1
                   clear hn571_2
                   replace p571 := eq_true p571
                   replace q571 := eq_true q571
                   go_wp2
                   go_roundg k2
                   case measure => have := HK1.out; have := HK2.out; omega
                   case rel => exact ⟨(wrap64 (x12_2 + 1)), (x568001_2), (u568001), zT, H', ⟨by have := HK1.out; have := HK2.out; omega⟩, ⟨by (with_reducible repeat (first | apply Kd.R_alloc | apply Kd.R_drewN | apply Kd.R_drew)); exact Kd.R_mono (Kd.R_far (p := ⟨gb569, 2, none⟩) (Kd.R_far (p := ⟨gb569, 1, none⟩) (Kd.R_far (p := ⟨gb569, 0, none⟩) (Kd.R_types HO_8.out BK569.out (by decide)) (fun _ hk => hk.2) (.int .i64 ((rd_T69 l0_1 x12_2).f0))) (fun _ hk => hk.2) (.int .i64 ((rd_T69 l0_1 x12_2).f1))) (fun _ hk => hk.2) (.int .i64 ((rd_T69 l0_1 x12_2).f2))) (fun _ hk => hk.1)⟩, ⟨by (with_reducible repeat (first | apply Kd.R_alloc | apply Kd.R_drewN | apply Kd.R_drew)); exact Kd.R_mono (Kd.R_far (p := ⟨gb569, 2, none⟩) (Kd.R_far (p := ⟨gb569, 1, none⟩) (Kd.R_far (p := ⟨gb569, 0, none⟩) (Kd.R_types HO_9.out BK569.out (by decide)) (fun _ hk => hk.2) (.int .i64 ((rd_T69 l0_1 x12_2).f0))) (fun _ hk => hk.2) (.int .i64 ((rd_T69 l0_1 x12_2).f1))) (fun _ hk => hk.2) (.int .i64 ((rd_T69 l0_1 x12_2).f2))) (fun _ hk => hk.1)⟩, ⟨by (with_reducible repeat (first | apply Kd.R_alloc | apply Kd.R_drewN | apply Kd.R_drew)); exact Kd.R_mono (Kd.R_far (p := ⟨gb569, 2, none⟩) (Kd.R_far (p := ⟨gb569, 1, none⟩) (Kd.R_far (p := ⟨gb569, 0, none⟩) (Kd.R_mono HO_568001.out (fun k_ hk => (⟨hk, hk.2⟩ : _ ∧ k_ ≠ gb569))) (fun _ hk => hk.2) (.int .i64 ((rd_T69 l0_1 x12_2).f0))) (fun _ hk => hk.2) (.int .i64 ((rd_T69 l0_1 x12_2).f1))) (fun _ hk => hk.2) (.int .i64 ((rd_T69 l0_1 x12_2).f2))) (fun _ hk => trivial)⟩, ⟨by (with_reducible repeat (first | refine blk_drewN ?_ _ | refine blk_drew ?_ | refine blk_alloc ?_ _)); refine blk_far ?_ NB547_569.out _; (with_reducible repeat (first | refine blk_drewN ?_ _ | refine blk_drew ?_ | refine blk_alloc ?_ _)); refine blk_far ?_ NB547_569.out _; (with_reducible repeat (first | refine blk_drewN ?_ _ | refine blk_drew ?_ | refine blk_alloc ?_ _)); refine blk_far ?_ NB547_569.out _; (with_reducible repeat (first | refine blk_drewN ?_ _ | refine blk_drew ?_ | refine blk_alloc ?_ _)); exact BK547.out⟩, ⟨by (with_reducible repeat (first | refine blk_drewN ?_ _ | refine blk_drew ?_ | refine blk_alloc ?_ _)); refine blk_far ?_ NB548_569.out _; (with_reducible repeat (first | refine blk_drewN ?_ _ | refine blk_drew ?_ | refine blk_alloc ?_ _)); refine blk_far ?_ NB548_569.out _; (with_reducible repeat (first | refine blk_drewN ?_ _ | refine blk_drew ?_ | refine blk_alloc ?_ _)); refine blk_far ?_ NB548_569.out _; (with_reducible repeat (first | refine blk_drewN ?_ _ | refine blk_drew ?_ | refine blk_alloc ?_ _)); exact BK548.out⟩, ⟨by (with_reducible repeat (first | refine blk_drewN ?_ _ | refine blk_drew ?_ | refine blk_alloc ?_ _)); refine blk_far ?_ NB567_569.out _; (with_reducible repeat (first | refine blk_drewN ?_ _ | refine blk_drew ?_ | refine blk_alloc ?_ _)); refine blk_far ?_ NB567_569.out _; (with_reducible repeat (first | refine blk_drewN ?_ _ | refine blk_drew ?_ | refine blk_alloc ?_ _)); refine blk_far ?_ NB567_569.out _; (with_reducible repeat (first | refine blk_drewN ?_ _ | refine blk_drew ?_ | refine blk_alloc ?_ _)); exact BK567.out⟩, ⟨by repeat (first | (with_reducible first | exact HB.out | apply below_alloc | apply pw_below_drewN | apply below_drew1 | refine below_set ?_ GE547.out | refine below_set ?_ GE548.out | refine below_set ?_ GE567.out | refine below_set ?_ GE569.out) | exact HB.out)⟩⟩
                 ·rw [if_neg c72] at H
                  exact absurd H (by simp)
                ·rw [if_neg c71] at H
                 exact absurd H (by simp)
               ·rw [if_neg c70] at H
                have c70b0 : decide (0 ≤ (rd x9_1 ((rd_T69 l0_1 x12_2).f0))) = false := decide_eq_false c70
                clear c70
                have H' := Aside0.mk H
                clear H
                have hnb90 := NB569_547.out
                have hnc90 := NB547_569.out
                have hnb91 := NB569_548.out
                have hnc91 := NB548_569.out
                have hnb92 := NB569_567.out
                have hnc92 := NB567_569.out
                have hcz93_0 : w63.cell? ⟨gb569, 0, none⟩ = some (.int .i64 0) := (blk_cell BK569.out 0).trans rfl
                have hcz93_1 : w63.cell? ⟨gb569, 1, none⟩ = some (.int .i64 0) := (blk_cell BK569.out 1).trans rfl
                have hcz93_2 : w63.cell? ⟨gb569, 2, none⟩ = some (.int .i64 0) := (blk_cell BK569.out 2).trans rfl
                have hfz93_0 := blk_frozen BK569.out 0
                have hfz93_1 := blk_frozen BK569.out 1
                have hfz93_2 := blk_frozen BK569.out 2
                obtain ⟨Ao94, co94, eo94⟩ := Kd.R_slice HO_9.out
                subst eo94
                have p570 : 0 ≤ (((rd_T69 l0_1 x12_2).f0) : Int) := of_decide_eq_true zh
                have q570 : ((rd_T69 l0_1 x12_2).f0) < (x9_1.length : Int) := of_decide_eq_true zh
                obtain ⟨ad570, e570, hx570_0⟩ := Kd.at_int (Kd.R_reads' HO_9.out).2.2 ((rd_T69 l0_1 x12_2).f0) p570 q570
                cases e570
                have hn570_0 : ad570.block ≠ gb569 := Kd.own_blk (Kd.R_ne HO_9.out BK569.out (by decide))
                have hn570_1 : ad570.block ≠ gb569 := Kd.own_blk (Kd.R_ne HO_9.out BK569.out (by decide))
                have hn570_2 : ad570.block ≠ gb569 := Kd.own_blk (Kd.R_ne HO_9.out BK569.out (by decide))
                replace hx570_0 := (cell_far (p := ⟨gb569, 0, none⟩) (by first | (rw [add_block]; exact hn570_0) | (show (Addr.add _ _).block ≠ _; rw [add_block]; exact hn570_0) | exact hn570_0) (.int .i64 ((rd_T69 l0_1 x12_2).f0))).trans hx570_0
                replace hx570_0 := (cell_far (p := ⟨gb569, 1, none⟩) (by first | (rw [add_block]; exact hn570_1) | (show (Addr.add _ _).block ≠ _; rw [add_block]; exact hn570_1) | exact hn570_1) (.int .i64 ((rd_T69 l0_1 x12_2).f1))).trans hx570_0
                replace hx570_0 := (cell_far (p := ⟨gb569, 2, none⟩) (by first | (rw [add_block]; exact hn570_2) | (show (Addr.add _ _).block ≠ _; rw [add_block]; exact hn570_2) | exact hn570_2) (.int .i64 ((rd_T69 l0_1 x12_2).f2))).trans hx570_0
                clear hn570_0
                clear hn570_1
                clear hn570_2
                replace p570 := eq_true p570
                replace q570 := eq_true q570
                go_wp2
                go_roundg k2
                case measure => have := HK1.out; have := HK2.out; omega
                case rel => exact ⟨(wrap64 (x12_2 + 1)), (x568001_2), (u568001), zT, H', ⟨by have := HK1.out; have := HK2.out; omega⟩, ⟨by (with_reducible repeat (first | apply Kd.R_alloc | apply Kd.R_drewN | apply Kd.R_drew)); exact Kd.R_mono (Kd.R_far (p := ⟨gb569, 2, none⟩) (Kd.R_far (p := ⟨gb569, 1, none⟩) (Kd.R_far (p := ⟨gb569, 0, none⟩) (Kd.R_types HO_8.out BK569.out (by decide)) (fun _ hk => hk.2) (.int .i64 ((rd_T69 l0_1 x12_2).f0))) (fun _ hk => hk.2) (.int .i64 ((rd_T69 l0_1 x12_2).f1))) (fun _ hk => hk.2) (.int .i64 ((rd_T69 l0_1 x12_2).f2))) (fun _ hk => hk.1)⟩, ⟨by (with_reducible repeat (first | apply Kd.R_alloc | apply Kd.R_drewN | apply Kd.R_drew)); exact Kd.R_mono (Kd.R_far (p := ⟨gb569, 2, none⟩) (Kd.R_far (p := ⟨gb569, 1, none⟩) (Kd.R_far (p := ⟨gb569, 0, none⟩) (Kd.R_types HO_9.out BK569.out (by decide)) (fun _ hk => hk.2) (.int .i64 ((rd_T69 l0_1 x12_2).f0))) (fun _ hk => hk.2) (.int .i64 ((rd_T69 l0_1 x12_2).f1))) (fun _ hk => hk.2) (.int .i64 ((rd_T69 l0_1 x12_2).f2))) (fun _ hk => hk.1)⟩, ⟨by (with_reducible repeat (first | apply Kd.R_alloc | apply Kd.R_drewN | apply Kd.R_drew)); exact Kd.R_mono (Kd.R_far (p := ⟨gb569, 2, none⟩) (Kd.R_far (p := ⟨gb569, 1, none⟩) (Kd.R_far (p := ⟨gb569, 0, none⟩) (Kd.R_mono HO_568001.out (fun k_ hk => (⟨hk, hk.2⟩ : _ ∧ k_ ≠ gb569))) (fun _ hk => hk.2) (.int .i64 ((rd_T69 l0_1 x12_2).f0))) (fun _ hk => hk.2) (.int .i64 ((rd_T69 l0_1 x12_2).f1))) (fun _ hk => hk.2) (.int .i64 ((rd_T69 l0_1 x12_2).f2))) (fun _ hk => trivial)⟩, ⟨by (with_reducible repeat (first | refine blk_drewN ?_ _ | refine blk_drew ?_ | refine blk_alloc ?_ _)); refine blk_far ?_ NB547_569.out _; (with_reducible repeat (first | refine blk_drewN ?_ _ | refine blk_drew ?_ | refine blk_alloc ?_ _)); refine blk_far ?_ NB547_569.out _; (with_reducible repeat (first | refine blk_drewN ?_ _ | refine blk_drew ?_ | refine blk_alloc ?_ _)); refine blk_far ?_ NB547_569.out _; (with_reducible repeat (first | refine blk_drewN ?_ _ | refine blk_drew ?_ | refine blk_alloc ?_ _)); exact BK547.out⟩, ⟨by (with_reducible repeat (first | refine blk_drewN ?_ _ | refine blk_drew ?_ | refine blk_alloc ?_ _)); refine blk_far ?_ NB548_569.out _; (with_reducible repeat (first | refine blk_drewN ?_ _ | refine blk_drew ?_ | refine blk_alloc ?_ _)); refine blk_far ?_ NB548_569.out _; (with_reducible repeat (first | refine blk_drewN ?_ _ | refine blk_drew ?_ | refine blk_alloc ?_ _)); refine blk_far ?_ NB548_569.out _; (with_reducible repeat (first | refine blk_drewN ?_ _ | refine blk_drew ?_ | refine blk_alloc ?_ _)); exact BK548.out⟩, ⟨by (with_reducible repeat (first | refine blk_drewN ?_ _ | refine blk_drew ?_ | refine blk_alloc ?_ _)); refine blk_far ?_ NB567_569.out _; (with_reducible repeat (first | refine blk_drewN ?_ _ | refine blk_drew ?_ | refine blk_alloc ?_ _)); refine blk_far ?_ NB567_569.out _; (with_reducible repeat (first | refine blk_drewN ?_ _ | refine blk_drew ?_ | refine blk_alloc ?_ _)); refine blk_far ?_ NB567_569.out _; (with_reducible repeat (first | refine blk_drewN ?_ _ | refine blk_drew ?_ | refine blk_alloc ?_ _)); exact BK567.out⟩, ⟨by repeat (first | (with_reducible first | exact HB.out | apply below_alloc | apply pw_below_drewN | apply below_drew1 | refine below_set ?_ GE547.out | refine below_set ?_ GE548.out | refine below_set ?_ GE567.out | refine below_set ?_ GE569.out) | exact HB.out)⟩⟩
              ·rw [if_neg c69] at H
               exact absurd H (by simp)
             ·rw [if_neg c68] at H
              exact absurd H (by simp)
            ·rw [if_neg c58] at H
             exact absurd H (by simp)
           ·rw [if_neg c57] at H
            have c57b0 : decide (x12_2 < (l0_1.length : Int)) = false := decide_eq_false c57
            clear c57
            simp only [Option.some.injEq, Prod.mk.injEq] at H
            obtain ⟨rfl, rfl, rfl, rfl⟩ := H
            have hnb95 := NB547_548.out
            have hnc95 := NB548_547.out
            have hnb96 := NB547_567.out
            have hnc96 := NB567_547.out
            have hcz97_0 : wr.cell? ⟨gb547, 0, none⟩ = some (.int .i64 a0_0) := (blk_cell BK547.out 0).trans rfl
            have hcz97_1 : wr.cell? ⟨gb547, 1, none⟩ = some (.slice A0_1 l0_1.length c0_1) := (blk_cell BK547.out 1).trans rfl
            have hfz97_0 := blk_frozen BK547.out 0
            have hfz97_1 := blk_frozen BK547.out 1
            have hnb98 := NB567_548.out
            have hnc98 := NB548_567.out
            have hcz99_0 : wr.cell? ⟨gb567, 0, none⟩ = some (.int .i64 (x8_1.length : Int)) := (blk_cell BK567.out 0).trans rfl
            have hcz99_1 : wr.cell? ⟨gb567, 1, none⟩ = some (u568001) := (blk_cell BK567.out 1).trans rfl
            have hfz99_0 := blk_frozen BK567.out 0
            have hfz99_1 := blk_frozen BK567.out 1
            have hcz100_0 : wr.cell? ⟨gb548, 0, none⟩ = some (.int .i64 0) := (blk_cell BK548.out 0).trans rfl
            have hcz100_1 : wr.cell? ⟨gb548, 1, none⟩ = some (.slice none 0 0) := (blk_cell BK548.out 1).trans rfl
            have hfz100_0 := blk_frozen BK548.out 0
            have hfz100_1 := blk_frozen BK548.out 1
            obtain ⟨Ao101, co101, eo101⟩ := Kd.R_slice HO_568001.out
            subst eo101
            go_wp2
            refine bodyPost_ret (results_ctt rfl _ _ gb548 24 #[.int .i64 (x8_1.length : Int), .slice Ao101 x568001_2.length co101] (0, 0) _ rfl (by (with_reducible repeat (first | refine blk_drewN ?_ _ | refine blk_drew ?_ | refine blk_alloc ?_ _)); refine blk_put (cs := #[.int .i64 (x8_1.length : Int), .slice none 0 0]) ?_ 1 _ rfl; (with_reducible repeat (first | refine blk_drewN ?_ _ | refine blk_drew ?_ | refine blk_alloc ?_ _)); refine blk_put (cs := #[.int .i64 0, .slice none 0 0]) ?_ 0 _ rfl; (with_reducible repeat (first | refine blk_drewN ?_ _ | refine blk_drew ?_ | refine blk_alloc ?_ _)); exact BK548.out) Try.underlying24 rfl zK) rfl ?_
            exact ⟨_, _, by first | rfl | (simp [errW_none, errW_some] <;> rfl) | (simp [*, errW_none, errW_some] <;> rfl), by (with_reducible repeat (first | apply Kd.R_alloc | apply Kd.R_drewN | apply Kd.R_drew)); exact Kd.R_mono (Kd.R_far (p := ⟨gb548, 1, none⟩) (Kd.R_far (p := ⟨gb548, 0, none⟩) (Kd.R_types HO_568001.out BK548.out (by decide)) (fun _ hk => hk.2) (.int .i64 (x8_1.length : Int))) (fun _ hk => hk.2) (.slice Ao101 x568001_2.length co101)) (fun _ hk => trivial), by (with_reducible repeat (first | apply Kd.R_alloc | apply Kd.R_drewN | apply Kd.R_drew)); exact Kd.R_mono (Kd.R_far (p := ⟨gb548, 1, none⟩) (Kd.R_far (p := ⟨gb548, 0, none⟩) (Kd.R_types HO_8.out BK548.out (by decide)) (fun _ hk => hk.2) (.int .i64 (x8_1.length : Int))) (fun _ hk => hk.2) (.slice Ao101 x568001_2.length co101)) (fun _ hk => trivial), by repeat (first | (with_reducible first | exact HB.out | apply below_alloc | apply pw_below_drewN | apply below_drew1 | refine below_set ?_ GE547.out | refine below_set ?_ GE548.out | refine below_set ?_ GE567.out) | exact HB.out)⟩
     ·rw [if_neg c22] at H
      exact absurd H (by simp)
    ·rw [if_neg c21] at H
     exact absurd H (by simp)
  ·rw [if_neg c12] at H
   exact absurd H (by simp)
 ·rw [if_neg c9] at H
  have c9b0 : (t549 == 0) = false := beq_eq_false_iff_ne.mpr c9
  have c9b1 : (t549 != 0) = true := bne_iff_ne.mpr c9
  (first | rw [c9b0] | (simp only [i64_w, i32_w]; rw [c9b0]) | skip)
  (try rw [c9b1])
  simp only [Option.some.injEq, Prod.mk.injEq] at H
  obtain ⟨rfl, rfl, rfl, rfl⟩ := H
  have hnb102 := NB548_547.out
  have hnc102 := NB547_548.out
  have hcz103_0 : w8.cell? ⟨gb548, 0, none⟩ = some (.int .i64 0) := (blk_cell BK548.out 0).trans rfl
  have hcz103_1 : w8.cell? ⟨gb548, 1, none⟩ = some (.slice none 0 0) := (blk_cell BK548.out 1).trans rfl
  have hfz103_0 := blk_frozen BK548.out 0
  have hfz103_1 := blk_frozen BK548.out 1
  go_wp2
  refine bodyPost_ret (results_ctt rfl _ _ gb548 24 #[.int .i64 0, .slice none 0 0] (0, 0) _ rfl (by (with_reducible repeat (first | refine blk_drewN ?_ _ | refine blk_drew ?_ | refine blk_alloc ?_ _)); refine blk_put (cs := #[.int .i64 0, .slice none 0 0]) ?_ 1 _ rfl; (with_reducible repeat (first | refine blk_drewN ?_ _ | refine blk_drew ?_ | refine blk_alloc ?_ _)); refine blk_put (cs := #[.int .i64 0, .slice none 0 0]) ?_ 0 _ rfl; (with_reducible repeat (first | refine blk_drewN ?_ _ | refine blk_drew ?_ | refine blk_alloc ?_ _)); exact BK548.out) Try.underlying24 rfl zK) rfl ?_
  exact ⟨_, _, by first | rfl | (simp [errW_none, errW_some] <;> rfl) | (simp [*, errW_none, errW_some] <;> rfl), by first | exact Kd.R_nil _ _ _ _ _ | exact Kd.N_nil _ _ _ _ _ | exact Kd.V_nil _ _ _ _ _ | exact Kd.Q_nil _ _ _ _ _ | exact Kd.S_nil _ _ _ _ _, by first | exact Kd.R_nil _ _ _ _ _ | exact Kd.N_nil _ _ _ _ _ | exact Kd.V_nil _ _ _ _ _ | exact Kd.Q_nil _ _ _ _ _ | exact Kd.S_nil _ _ _ _ _, by repeat (first | (with_reducible first | exact HB.out | apply below_alloc | apply pw_below_drewN | apply below_drew1 | refine below_set ?_ GE547.out | refine below_set ?_ GE548.out) | exact HB.out)⟩
end Go.Proofs.Ytanbffoilianhaa.E
