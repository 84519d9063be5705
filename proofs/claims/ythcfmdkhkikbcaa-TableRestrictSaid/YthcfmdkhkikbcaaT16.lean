-- Written by wip/tools/myprint.py, a program of this session's.
import Derived.Test.YthcfmdkhkikbcaaT0
import Derived.Test.YthcfmdkhkikbcaaT1
import Derived.Test.YthcfmdkhkikbcaaT2
import Derived.Test.YthcfmdkhkikbcaaT15
namespace Go.Proofs.Ythcfmdkhkikbcaa.T
open Go.RowKit Go.Proofs.YthcfmdkhkikbcaaW.PrintWords Go.Proofs.YthcfmdkhkikbcaaW.PrintLast Go.Proofs.YthcfmdkhkikbcaaW.PrintMore
attribute [local go_sem] max2_int min2_int max_two min_two max_three min_three max_four min_four   -- for this text's walks alone
set_option linter.unusedVariables false
set_option linter.unusedSimpArgs false
/-! ### table_Restrict_1_v1: function 1000061 -/
def table_Restrict_1_v1.f (k : Nat) (a0 : Int) (l1_0 : List Int) (l1_1 : List Int) (a2_0 : Int) (a3_0 : Int) : Option (Bool) := if 0 ≤ a3_0 then ((table_has.f k l1_0 l1_1 (Go.bits .or .i64 a0 (shl .i64 a2_0 a3_0))).bind fun t547 => (some t547)) else (none)
theorem table_Restrict_1_v1.mono : ∀ a0 a1 a2 a3 a4 k, LeO (table_Restrict_1_v1.f k a0 a1 a2 a3 a4) (table_Restrict_1_v1.f (k + 1) a0 a1 a2 a3 a4) := by
 intro a0 a1 a2 a3 a4 k
 unfold table_Restrict_1_v1.f
 repeat' first
   | (with_reducible exact table_has.mono _ _ _ _)
   | (with_reducible exact LeO.refl _)
   | (with_reducible exact LeO.none _)
   | (with_reducible refine LeO.ite ?_ ?_)
   | (with_reducible refine LeO.bind ?_ (fun _ => ?_))
   | exact table_has.mono _ _ _ _
   | exact LeO.none _
   | refine LeO.ite ?_ ?_
   | refine LeO.bind ?_ (fun _ => ?_)
def table_Restrict_1_v1.T1 : Bool × List (List Nat × List Nat) := (true, [([], []), ([], []), ([], []), ([], []), ([2, 3], [2, 3]), ([1, 4], [1, 4]), ([0, 5], [0, 5]), ([6, 6, 0, 1, 2, 3, 4, 5, 6], [6])])
def table_Restrict_1_v1.B1 : List Nat := [0, 0, 0, 0, 12, 30, 63, 127]
theorem table_Restrict_1_v1.tab1 : rtab .any (opsOf Try.f61 1) = table_Restrict_1_v1.T1 := by kernel_rfl
theorem table_Restrict_1_v1.bits1 : waitsOk table_Restrict_1_v1.T1.2 table_Restrict_1_v1.B1 = true := by kernel_rfl
set_option maxHeartbeats 8000000 in
set_option maxRecDepth 100000 in
theorem table_Restrict_1_v1.calls (k : Nat) (a0 : Int) (gp1_0 : Nat) (A1_0 : Option Addr) (c1_0 : Nat) (l1_0 : List Int) (A1_1 : Option Addr) (c1_1 : Nat) (l1_1 : List Int) (gp2_0 : Nat) (a2_0 : Int) (gp3_0 : Nat) (a3_0 : Int) (r : Bool) (w : World) (hr1_0 : Kd.C (Kd.int .i64) w A1_0 l1_0.length l1_0) (hc1_0 : l1_0.length ≤ c1_0) (hr1_1 : Kd.C (Kd.int .i64) w A1_1 l1_1.length l1_1) (hc1_1 : l1_1.length ≤ c1_1) (hb_gp1_0 : w.heap[gp1_0]? = some (.cells #[.slice A1_0 l1_0.length c1_0, .slice A1_1 l1_1.length c1_1] 29 (0, 0))) (hb_gp2_0 : w.heap[gp2_0]? = some (.cells #[.int .i64 a2_0] 3 (0, 0))) (hb_gp3_0 : w.heap[gp3_0]? = some (.cells #[.int .i64 a3_0] 3 (0, 0))) (h : table_Restrict_1_v1.f k a0 l1_0 l1_1 a2_0 a3_0 = some r) :
  Calls Try.prog 61 #[.int .i64 a0, .pointer (some ⟨gp1_0, 0, none⟩), .pointer (some ⟨gp2_0, 0, none⟩), .pointer (some ⟨gp3_0, 0, none⟩)] w fun e w' => e = .returned (.bool r) ∧ Below w.heap.size w w' := by
 have hu29 := Try.underlying29
 have hu3 := Try.underlying3
 have HR1_0 := Aside0.mk hr1_0
 have HC1_0 := Aside0.mk hc1_0
 clear hr1_0 hc1_0
 have HR1_1 := Aside0.mk hr1_1
 have HC1_1 := Aside0.mk hc1_1
 clear hr1_1 hc1_1
 have BK544 := Aside0.mk hb_gp1_0
 clear hb_gp1_0
 have BK545 := Aside0.mk hb_gp2_0
 clear hb_gp2_0
 have BK546 := Aside0.mk hb_gp3_0
 clear hb_gp3_0
 have HB := Aside0.mk (Below.refl w.heap.size w)
 have H : (if 0 ≤ a3_0 then ((table_has.f k l1_0 l1_1 (Go.bits .or .i64 a0 (shl .i64 a2_0 a3_0))).bind fun t547 => (some t547)) else (none)) = some r := h
 clear h
 by_cases c5 : 0 ≤ a3_0
 ·rw [if_pos c5] at H
  have c5b0 := eq_true c5
  have c5b1 : decide (0 ≤ a3_0) = true := decide_eq_true c5
  clear c5
  obtain ⟨ji6, hji6⟩ : ∃ j_ : Int, (shl .i64 a2_0 a3_0) = j_ := ⟨_, rfl⟩
  replace H : ((table_has.f k l1_0 l1_1 (Go.bits .or .i64 a0 (ji6))).bind fun t547 => (some t547)) = some r := by first | (rw [hji6] at H; exact H) | (simp only [hji6] at H ⊢; exact H)
  have hji6_ : (IntKind.i64.wrap (a2_0 * 2 ^ min a3_0.toNat 64)) = ji6 := hji6
  have hji6z : a3_0 ≤ 64 → (IntKind.i64.wrap (a2_0 * 2 ^ a3_0.toNat)) = ji6 := shl_small hji6
  have hji6y : (wrap64 (a2_0 * 2 ^ min a3_0.toNat 64)) = ji6 := (i64_w _).symm.trans hji6_
  have hji6x : a3_0 ≤ 64 → (wrap64 (a2_0 * 2 ^ a3_0.toNat)) = ji6 := fun h_ => (i64_w _).symm.trans (hji6z h_)
  replace H := Option.bind_eq_some_iff.mp H
  obtain ⟨t547, A70, H⟩ := H
  replace H : (some t547) = some r := H
  have A7 := Aside0.mk A70
  clear A70
  obtain rfl := Option.some.inj H
  go_enter Try.func61, Try.ntmps61
  try go_wp2
  have n0_ := Aside0.mk (blk_drew BK544.out)
  have n1_ := Aside0.mk (blk_drew BK545.out)
  have n2_ := Aside0.mk (blk_drew BK546.out)
  have n3_ := Aside0.mk (below_drew1 HB.out)
  clear BK544
  clear BK545
  clear BK546
  clear HB
  have BK544 := n0_
  have BK545 := n1_
  have BK546 := n2_
  have HB := n3_
  clear n0_ n1_ n2_ n3_
  refine start_ (n := 8) (S := fun w' => w'.cell? ⟨gp1_0, 0, none⟩ = some (.slice A1_0 l1_0.length c1_0) ∧ w'.cell? ⟨gp1_0, 1, none⟩ = some (.slice A1_1 l1_1.length c1_1) ∧ w'.cell? ⟨gp2_0, 0, none⟩ = some (.int .i64 a2_0) ∧ w'.cell? ⟨gp3_0, 0, none⟩ = some (.int .i64 a3_0)) (ds := []) #[false, false, false, false, false, false, false, false] zK rfl rfl ⟨(blk_cell BK544.out 0).trans rfl, (blk_cell BK544.out 1).trans rfl, (blk_cell BK545.out 0).trans rfl, (blk_cell BK546.out 0).trans rfl⟩ (fun hHeld => ?_); refine with_tabW table_Restrict_1_v1.tab1 table_Restrict_1_v1.bits1 (fun HT_ HW_ => ?_)
  generalize w.drew = w8 at BK544 BK545 BK546 HB hHeld ⊢
  refine pure_ (i := 1) (N := some 7) (v := ?_) (a' := ?_) #[false, true, false, false, false, false, false, false] rfl rfl (any_of HT_.out zK) (fun _ _ _ h => h) (Or.inl ⟨by rfl, ?_⟩) ?_ ?_
  rotate_left
  ·intro w'
   go_simp
   with_reducible rfl
  rotate_left
  ·simp only [Act.put, List.setIfInBounds_toArray, List.set_cons_zero, List.set_cons_succ, i64_w, i32_w]
   rfl
  refine take_ (i := 0) (N := some 6) (v := ?_) (a' := ?_) #[true, true, false, false, false, false, false, false] rfl rfl (take_ofW HT_.out HW_.out zK) (fun _ _ _ h => h) (Or.inl ⟨by rfl, ?_⟩) hHeld ?_ ?_
  rotate_left
  ·rintro w' ⟨s0, s1, s2, s3⟩
   go_simp
   with_reducible rfl
  rotate_left
  ·simp only [Act.put, List.setIfInBounds_toArray, List.set_cons_zero, List.set_cons_succ, i64_w, i32_w]
   rfl
  refine take_ (i := 2) (N := some 8) (v := ?_) (a' := ?_) #[true, true, true, false, false, false, false, false] rfl rfl (take_ofW HT_.out HW_.out zK) (fun _ _ _ h => h) (Or.inl ⟨by rfl, ?_⟩) hHeld ?_ ?_
  rotate_left
  ·rintro w' ⟨s0, s1, s2, s3⟩
   go_simp
   with_reducible rfl
  rotate_left
  ·simp only [Act.put, List.setIfInBounds_toArray, List.set_cons_zero, List.set_cons_succ, i64_w, i32_w]
   rfl
  refine take_ (i := 3) (N := some 9) (v := ?_) (a' := ?_) #[true, true, true, true, false, false, false, false] rfl rfl (take_ofW HT_.out HW_.out zK) (fun _ _ _ h => h) (Or.inl ⟨by rfl, ?_⟩) hHeld ?_ ?_
  rotate_left
  ·rintro w' ⟨s0, s1, s2, s3⟩
   go_simp
   with_reducible rfl
  rotate_left
  ·simp only [Act.put, List.setIfInBounds_toArray, List.set_cons_zero, List.set_cons_succ, i64_w, i32_w]
   rfl
  refine pure_ (i := 4) (N := some 10) (v := ?_) (a' := ?_) #[true, true, true, true, true, false, false, false] rfl rfl (any_of HT_.out zK) (fun _ _ _ h => h) (Or.inl ⟨by rfl, ?_⟩) ?_ ?_
  rotate_left
  ·intro w'
   go_simp
   with_reducible rfl
  rotate_left
  ·simp only [Act.put, List.setIfInBounds_toArray, List.set_cons_zero, List.set_cons_succ, i64_w, i32_w]
   rfl
  refine pure_ (i := 5) (N := some 11) (v := ?_) (a' := ?_) #[true, true, true, true, true, true, false, false] rfl rfl (any_of HT_.out zK) (fun _ _ _ h => h) (Or.inl ⟨by rfl, ?_⟩) ?_ ?_
  rotate_left
  ·intro w'
   go_simp
   with_reducible rfl
  rotate_left
  ·simp only [Act.put, List.setIfInBounds_toArray, List.set_cons_zero, List.set_cons_succ, i64_w, i32_w]
   rfl
  refine one_ (i := 6) (N := some 12) #[true, true, true, true, true, true, true, false] rfl rfl (one_of HT_.out zK) (by decide) (fun K hK => ?_)
  refine goes_ Try.func50 zK rfl #[.agg #[.slice A1_0 l1_0.length c1_0, .slice A1_1 l1_1.length c1_1], .int .i64 (Go.bits .or .i64 a0 (ji6))] (by rfl) rfl rfl (by (try simp only [List.map_toArray, List.map_cons, List.map_nil]); first | done | (simp only [hji6]; rfl) | rfl | (simp only [List.length_drop, List.length_take]; rfl)) ?_
  with_reducible refine (table_has.calls k _ _ l1_0 _ _ l1_1 (Go.bits .or .i64 a0 (ji6)) t547 _ ?side1 ?side2 ?side3 ?side4 A7.out).mono ?_
  (case side1 => repeat (first | exact (Kd.C_below HR1_0.out HB.out) | (with_reducible refine Kd.C_alloc ?_ _) | (with_reducible refine Kd.C_drewN ?_ _) | (with_reducible refine Kd.C_drew ?_)))
  (case side2 => exact HC1_0.out)
  (case side3 => repeat (first | exact (Kd.C_below HR1_1.out HB.out) | (with_reducible refine Kd.C_alloc ?_ _) | (with_reducible refine Kd.C_drewN ?_ _) | (with_reducible refine Kd.C_drew ?_)))
  (case side4 => exact HC1_1.out)
  rintro e w9 ⟨rfl, hb⟩
  refine ⟨_, rfl, ?_⟩
  have n0_ := Aside0.mk (blk_below (g := gp1_0) (o := .cells #[.slice A1_0 l1_0.length c1_0, .slice A1_1 l1_1.length c1_1] 29 (0, 0)) (zk BK544) hb)
  have n1_ := Aside0.mk (blk_below (g := gp2_0) (o := .cells #[.int .i64 a2_0] 3 (0, 0)) (zk BK545) hb)
  have n2_ := Aside0.mk (blk_below (g := gp3_0) (o := .cells #[.int .i64 a3_0] 3 (0, 0)) (zk BK546) hb)
  have n3_ := Aside0.mk (below_step zB hb)
  clear BK544
  clear BK545
  clear BK546
  clear HB
  have BK544 := n0_
  have BK545 := n1_
  have BK546 := n2_
  have HB := n3_
  clear n0_ n1_ n2_ n3_
  (try clear hb)
  (try clear hb2)
  (try clear hk)
  (try clear hi)
  refine hK.out _ _ ⟨(blk_cell BK544.out 0).trans rfl, (blk_cell BK544.out 1).trans rfl, (blk_cell BK545.out 0).trans rfl, (blk_cell BK546.out 0).trans rfl⟩ (fun hHeld => ?_)
  clear hK K
  refine norm_ (a' := ?_) ?_ ?_
  rotate_left
  ·show Act.put _ (some 12) _ = _
   simp only [Act.put, List.setIfInBounds_toArray, List.set_cons_zero, List.set_cons_succ, i64_w, i32_w]
   rfl
  refine pure_ (i := 7) (N := some 5) (v := ?_) (a' := ?_) #[true, true, true, true, true, true, true, true] rfl rfl (any_of HT_.out zK) (fun _ _ _ h => h) (Or.inl ⟨by rfl, ?_⟩) ?_ ?_
  rotate_left
  ·intro w'
   go_simp
   with_reducible rfl
  rotate_left
  ·simp only [Act.put, List.setIfInBounds_toArray, List.set_cons_zero, List.set_cons_succ, i64_w, i32_w]
   rfl
  refine done_ (done_of HT_.out zK) ?_
  try go_wp2
  go_ret
  exact ⟨by first | rfl | (simp [errW_none, errW_some] <;> rfl) | (simp only [← hji6]; first | rfl | (simp [errW_none, errW_some] <;> rfl)) | (simp [*, errW_none, errW_some] <;> rfl), by repeat (first | (with_reducible first | exact HB.out | apply below_alloc | apply pw_below_drewN | apply below_drew1 | refine below_set ?_ GE544.out | refine below_set ?_ GE545.out | refine below_set ?_ GE546.out) | exact HB.out)⟩
 ·rw [if_neg c5] at H
  exact absurd H (by simp)
/-! ### table_over_table_Restrict_1: function 4000059 -/
def table_over_table_Restrict_1.l0 : Nat → List Int → Int → Int → List Int → List Int → Int → Int → List Int → List Int → Option (List Int × List Int)
 | 0, _, _, _, _, _, _, _, _, _ => none
 | k + 1, x0, x12, x13, x545000, x545001, x546000, x547000, x552000, x552001 => if x13 < x12 then ((table_assignment.f k x0 x13).bind fun t552 => ((table_Restrict_1_v1.f k t552 x545000 x545001 x546000 x547000).bind fun t553 => (if t553 = true then (if x552001.length < 17592186044416 then (table_over_table_Restrict_1.l0 k x0 x12 (wrap64 (x13 + 1)) x545000 x545001 x546000 x547000 x552000 (x552001 ++ [x13])) else (none)) else (table_over_table_Restrict_1.l0 k x0 x12 (wrap64 (x13 + 1)) x545000 x545001 x546000 x547000 x552000 x552001)))) else (some (x552000, x552001))
def table_over_table_Restrict_1.f (k : Nat) (l0 : List Int) (l1_0 : List Int) (l1_1 : List Int) (a1_2 : Int) (a1_3 : Int) : Option (List Int × List Int) := (slices_Clone_int_int.f l0).bind fun t548 => (table_over_table_Restrict_1.l0 k l0 (shl .i64 1 (l0.length : Int)) 0 l1_0 l1_1 a1_2 a1_3 t548 ([] : List Int))
theorem table_over_table_Restrict_1.mono_l : ∀ k, (∀ y0 y1 y2 y3 y4 y5 y6 y7 y8, LeO (table_over_table_Restrict_1.l0 k y0 y1 y2 y3 y4 y5 y6 y7 y8) (table_over_table_Restrict_1.l0 (k + 1) y0 y1 y2 y3 y4 y5 y6 y7 y8))
 | 0 => fun _ _ _ _ _ _ _ _ _ r h => by simp [table_over_table_Restrict_1.l0] at h
 | k + 1 => by
  have ih0 := table_over_table_Restrict_1.mono_l k
  ·intro y0 y1 y2 y3 y4 y5 y6 y7 y8
   unfold table_over_table_Restrict_1.l0
   repeat' first
   | (with_reducible exact ih0 _ _ _ _ _ _ _ _ _)
   | (with_reducible exact table_Restrict_1_v1.mono _ _ _ _ _ _)
   | (with_reducible exact table_assignment.mono _ _ _)
   | (with_reducible exact LeO.refl _)
   | (with_reducible exact LeO.none _)
   | (with_reducible refine LeO.ite ?_ ?_)
   | (with_reducible refine LeO.bind ?_ (fun _ => ?_))
   | exact ih0 _ _ _ _ _ _ _ _ _
   | exact table_Restrict_1_v1.mono _ _ _ _ _ _
   | exact table_assignment.mono _ _ _
   | exact LeO.none _
   | refine LeO.ite ?_ ?_
   | refine LeO.bind ?_ (fun _ => ?_)
theorem table_over_table_Restrict_1.mono : ∀ a0 a1 a2 a3 a4 k, LeO (table_over_table_Restrict_1.f k a0 a1 a2 a3 a4) (table_over_table_Restrict_1.f (k + 1) a0 a1 a2 a3 a4) := by
 intro a0 a1 a2 a3 a4 k
 have ih0 := table_over_table_Restrict_1.mono_l k
 unfold table_over_table_Restrict_1.f
 repeat' first
   | (with_reducible exact ih0 _ _ _ _ _ _ _ _ _)
   | (with_reducible exact table_Restrict_1_v1.mono _ _ _ _ _ _)
   | (with_reducible exact table_assignment.mono _ _ _)
   | (with_reducible exact LeO.refl _)
   | (with_reducible exact LeO.none _)
   | (with_reducible refine LeO.ite ?_ ?_)
   | (with_reducible refine LeO.bind ?_ (fun _ => ?_))
   | exact ih0 _ _ _ _ _ _ _ _ _
   | exact table_Restrict_1_v1.mono _ _ _ _ _ _
   | exact table_assignment.mono _ _ _
   | exact LeO.none _
   | refine LeO.ite ?_ ?_
   | refine LeO.bind ?_ (fun _ => ?_)
set_option maxHeartbeats 8000000 in
set_option maxRecDepth 100000 in
theorem table_over_table_Restrict_1.calls (k : Nat) (A0 : Option Addr) (c0 : Nat) (l0 : List Int) (gp1_0 : Nat) (gp1_1 : Nat) (gp1_2 : Nat) (A1_0 : Option Addr) (c1_0 : Nat) (l1_0 : List Int) (A1_1 : Option Addr) (c1_1 : Nat) (l1_1 : List Int) (a1_2 : Int) (a1_3 : Int) (r1 : List Int) (r2 : List Int) (w : World) (hr0 : Kd.C (Kd.int .i64) w A0 l0.length l0) (hc0 : l0.length ≤ c0) (hr1_0 : Kd.C (Kd.int .i64) w A1_0 l1_0.length l1_0) (hc1_0 : l1_0.length ≤ c1_0) (hr1_1 : Kd.C (Kd.int .i64) w A1_1 l1_1.length l1_1) (hc1_1 : l1_1.length ≤ c1_1) (hb_gp1_0 : w.heap[gp1_0]? = some (.cells #[.slice A1_0 l1_0.length c1_0, .slice A1_1 l1_1.length c1_1] 29 (0, 0))) (hb_gp1_1 : w.heap[gp1_1]? = some (.cells #[.int .i64 a1_2] 3 (0, 0))) (hb_gp1_2 : w.heap[gp1_2]? = some (.cells #[.int .i64 a1_3] 3 (0, 0))) (h : table_over_table_Restrict_1.f k l0 l1_0 l1_1 a1_2 a1_3 = some (r1, r2)) :
  Calls Try.prog 59 #[.slice A0 l0.length c0, .func (.func 61) #[] #[.pointer (some ⟨gp1_0, 0, none⟩), .pointer (some ⟨gp1_1, 0, none⟩), .pointer (some ⟨gp1_2, 0, none⟩)]] w fun e w' => ∃ v0_ v1_ : Value, e = .returned (.agg #[v0_, v1_]) ∧ Kd.R (Kd.int .i64) 3 w' w.heap.size (fun k_ => some k_ ≠ (v1_ : Value).ownBlock) v0_ r1 ∧ Kd.R (Kd.int .i64) 3 w' w.heap.size (fun k_ => some k_ ≠ (v0_ : Value).ownBlock) v1_ r2 ∧ Below w.heap.size w w' := by
 have hu29 := Try.underlying29
 have hu27 := Try.underlying27
 have HR0 := Aside0.mk hr0
 have HC0 := Aside0.mk hc0
 clear hr0 hc0
 have HR1_0 := Aside0.mk hr1_0
 have HC1_0 := Aside0.mk hc1_0
 clear hr1_0 hc1_0
 have HR1_1 := Aside0.mk hr1_1
 have HC1_1 := Aside0.mk hc1_1
 clear hr1_1 hc1_1
 have BK544 := Aside0.mk hb_gp1_0
 clear hb_gp1_0
 have BK545 := Aside0.mk hb_gp1_1
 clear hb_gp1_1
 have BK546 := Aside0.mk hb_gp1_2
 clear hb_gp1_2
 have HB := Aside0.mk (Below.refl w.heap.size w)
 have H : ((slices_Clone_int_int.f l0).bind fun t548 => (table_over_table_Restrict_1.l0 k l0 (shl .i64 1 (l0.length : Int)) 0 l1_0 l1_1 a1_2 a1_3 t548 ([] : List Int))) = some (r1, r2) := h
 clear h
 replace H := Option.bind_eq_some_iff.mp H
 obtain ⟨t548, A30, H⟩ := H
 replace H : (table_over_table_Restrict_1.l0 k l0 (shl .i64 1 (l0.length : Int)) 0 l1_0 l1_1 a1_2 a1_3 t548 ([] : List Int)) = some (r1, r2) := H
 have A3 := Aside0.mk A30
 clear A30
 obtain ⟨ji4, hji4⟩ : ∃ j_ : Int, (shl .i64 1 (l0.length : Int)) = j_ := ⟨_, rfl⟩
 replace H : (table_over_table_Restrict_1.l0 k l0 ji4 0 l1_0 l1_1 a1_2 a1_3 t548 ([] : List Int)) = some (r1, r2) := by first | (rw [hji4] at H; exact H) | (simp only [hji4] at H ⊢; exact H)
 (try rw [hji4] at A3)
 have hji4_ : (IntKind.i64.wrap (1 * 2 ^ min (l0.length : Int).toNat 64)) = ji4 := hji4
 have hji4z : (l0.length : Int) ≤ 64 → (IntKind.i64.wrap (1 * 2 ^ (l0.length : Int).toNat)) = ji4 := shl_small hji4
 have hji4p : (IntKind.i64.wrap (1 * 2 ^ min l0.length 64)) = ji4 := hji4_
 have hji4q : (l0.length : Int) ≤ 64 → (IntKind.i64.wrap (1 * 2 ^ l0.length)) = ji4 := hji4z
 have hji4r : (IntKind.i64.wrap (2 ^ min l0.length 64)) = ji4 := by have h_ := hji4p; rw [Int.one_mul] at h_; exact h_
 have hji4s : (l0.length : Int) ≤ 64 → (IntKind.i64.wrap (2 ^ l0.length)) = ji4 := fun hle_ => by have h_ := hji4q hle_; rw [Int.one_mul] at h_; exact h_
 have hji4u : (IntKind.i64.wrap (2 ^ min (l0.length : Int).toNat 64)) = ji4 := by have h_ := hji4_; rw [Int.one_mul] at h_; exact h_
 have hji4v : (l0.length : Int) ≤ 64 → (IntKind.i64.wrap (2 ^ (l0.length : Int).toNat)) = ji4 := fun hle_ => by have h_ := hji4z hle_; rw [Int.one_mul] at h_; exact h_
 have hji4y : (wrap64 (1 * 2 ^ min (l0.length : Int).toNat 64)) = ji4 := (i64_w _).symm.trans hji4_
 have hji4x : (l0.length : Int) ≤ 64 → (wrap64 (1 * 2 ^ (l0.length : Int).toNat)) = ji4 := fun h_ => (i64_w _).symm.trans (hji4z h_)
 have H' := Aside0.mk H
 clear H
 go_enter Try.func59, Try.ntmps59
 go_wp2_with (first | ((with_reducible refine gate_dst (N := 4) rfl ?_); refine box_event ?hg (N := 4) ?hd (cs := #[.slice none 0 0, .slice none 0 0]) (t := 29) ?hr ?_; (case hd => rfl); (case hg => rfl); (case hr => first | (go_simp; done) | (go_simp; rfl)); intro gb547 hg w5 hbox hb; have n0_ := Aside0.mk (blk_below (g := gp1_0) (o := .cells #[.slice A1_0 l1_0.length c1_0, .slice A1_1 l1_1.length c1_1] 29 (0, 0)) (zk BK544) hb); have n1_ := Aside0.mk (blk_below (g := gp1_1) (o := .cells #[.int .i64 a1_2] 3 (0, 0)) (zk BK545) hb); have n2_ := Aside0.mk (blk_below (g := gp1_2) (o := .cells #[.int .i64 a1_3] 3 (0, 0)) (zk BK546) hb); have n3_ := Aside0.mk (below_step zB hb); have n4_ := Aside0.mk (hbox); have n5_ := Aside0.mk ((by rw [hg]; exact (below_size zB) : w.heap.size ≤ gb547)); have n6_ := Aside0.mk ((by rw [hg]; exact (below_size zB) : w.heap.size ≤ gb547)); have n7_ := Aside0.mk ((by rw [hg]; exact Nat.ne_of_lt (blk_lt (g := gp1_0) (o := .cells #[.slice A1_0 l1_0.length c1_0, .slice A1_1 l1_1.length c1_1] 29 (0, 0)) (zk BK544)) : gp1_0 ≠ gb547)); have n8_ := Aside0.mk ((by rw [hg]; exact Nat.ne_of_gt (blk_lt (g := gp1_0) (o := .cells #[.slice A1_0 l1_0.length c1_0, .slice A1_1 l1_1.length c1_1] 29 (0, 0)) (zk BK544)) : gb547 ≠ gp1_0)); have n9_ := Aside0.mk ((by rw [hg]; exact Nat.ne_of_lt (blk_lt (g := gp1_1) (o := .cells #[.int .i64 a1_2] 3 (0, 0)) (zk BK545)) : gp1_1 ≠ gb547)); have n10_ := Aside0.mk ((by rw [hg]; exact Nat.ne_of_gt (blk_lt (g := gp1_1) (o := .cells #[.int .i64 a1_2] 3 (0, 0)) (zk BK545)) : gb547 ≠ gp1_1)); have n11_ := Aside0.mk ((by rw [hg]; exact Nat.ne_of_lt (blk_lt (g := gp1_2) (o := .cells #[.int .i64 a1_3] 3 (0, 0)) (zk BK546)) : gp1_2 ≠ gb547)); have n12_ := Aside0.mk ((by rw [hg]; exact Nat.ne_of_gt (blk_lt (g := gp1_2) (o := .cells #[.int .i64 a1_3] 3 (0, 0)) (zk BK546)) : gb547 ≠ gp1_2)); clear BK544; clear BK545; clear BK546; clear HB; have BK544 := n0_; have BK545 := n1_; have BK546 := n2_; have HB := n3_; have BK547 := n4_; have GW547 := n5_; have GE547 := n6_; have NB544_547 := n7_; have NB547_544 := n8_; have NB545_547 := n9_; have NB547_545 := n10_; have NB546_547 := n11_; have NB547_546 := n12_; clear n0_ n1_ n2_ n3_ n4_ n5_ n6_ n7_ n8_ n9_ n10_ n11_ n12_; clear hb hbox hg) | ((with_reducible refine gate_callee (f := 42) rfl ?_); refine goesL_ (some 8) rfl rfl Try.func42 zK rfl #[.slice A0 l0.length c0] rfl zM ?_; (with_reducible refine (slices_Clone_int_int.calls _ _ l0 t548 _ ?side1 ?side2 A3.out).mono ?_); (case side1 => repeat (first | exact (Kd.C_below HR0.out HB.out) | (with_reducible refine Kd.C_alloc ?_ _) | (with_reducible refine Kd.C_drewN ?_ _) | (with_reducible refine Kd.C_drew ?_))); (case side2 => exact HC0.out); rintro e w6 ⟨v549, rfl, ho0, hb⟩; refine ⟨_, rfl, ?_⟩; have n0_ := Aside0.mk (Kd.R_lower (Kd.R_newB (Kd.R_newB ho0 (g := gp1_1) (o := .cells #[.int .i64 a1_2] 3 (0, 0)) (zk BK545)) (g := gp1_2) (o := .cells #[.int .i64 a1_3] 3 (0, 0)) (zk BK546)) (below_size zB)); have n1_ := Aside0.mk (blk_below (g := gp1_0) (o := .cells #[.slice A1_0 l1_0.length c1_0, .slice A1_1 l1_1.length c1_1] 29 (0, 0)) (zk BK544) hb); have n2_ := Aside0.mk (blk_below (g := gp1_1) (o := .cells #[.int .i64 a1_2] 3 (0, 0)) (zk BK545) hb); have n3_ := Aside0.mk (blk_below (g := gp1_2) (o := .cells #[.int .i64 a1_3] 3 (0, 0)) (zk BK546) hb); have n4_ := Aside0.mk (blk_below (g := gb547) (o := .cells #[.slice none 0 0, .slice none 0 0] 29 (0, 0)) (zk BK547) hb); have n5_ := Aside0.mk (below_step zB hb); clear BK544; clear BK545; clear BK546; clear BK547; clear HB; have HO550 := n0_; have BK544 := n1_; have BK545 := n2_; have BK546 := n3_; have BK547 := n4_; have HB := n5_; clear n0_ n1_ n2_ n3_ n4_ n5_; (try clear hb); (try clear hb2); (try clear hk); (try clear hi); (try clear ho0); obtain ⟨Ao7, co7, eo7⟩ := Kd.R_slice HO550.out; subst eo7) | ((with_reducible refine gate_dst (N := 5) rfl ?_); refine box_event ?hg (N := 5) ?hd (cs := #[.slice none 0 0, .slice none 0 0]) (t := 29) ?hr ?_; (case hd => rfl); (case hg => rfl); (case hr => first | (go_simp; done) | (go_simp; rfl)); intro gb551 hg w8 hbox hb; have n0_ := Aside0.mk (Kd.R_below (zR HO550) hb); have n1_ := Aside0.mk (blk_below (g := gp1_0) (o := .cells #[.slice A1_0 l1_0.length c1_0, .slice A1_1 l1_1.length c1_1] 29 (0, 0)) (zk BK544) hb); have n2_ := Aside0.mk (blk_below (g := gp1_1) (o := .cells #[.int .i64 a1_2] 3 (0, 0)) (zk BK545) hb); have n3_ := Aside0.mk (blk_below (g := gp1_2) (o := .cells #[.int .i64 a1_3] 3 (0, 0)) (zk BK546) hb); have n4_ := Aside0.mk (blk_below (g := gb547) (o := .cells #[.slice none 0 0, .slice none 0 0] 29 (0, 0)) (zk BK547) hb); have n5_ := Aside0.mk (below_step zB hb); have n6_ := Aside0.mk (hbox); have n7_ := Aside0.mk ((by rw [hg]; exact (below_size zB) : w.heap.size ≤ gb551)); have n8_ := Aside0.mk ((by rw [hg]; exact (below_size zB) : w.heap.size ≤ gb551)); have n9_ := Aside0.mk ((by rw [hg]; exact Nat.ne_of_lt (blk_lt (g := gp1_0) (o := .cells #[.slice A1_0 l1_0.length c1_0, .slice A1_1 l1_1.length c1_1] 29 (0, 0)) (zk BK544)) : gp1_0 ≠ gb551)); have n10_ := Aside0.mk ((by rw [hg]; exact Nat.ne_of_gt (blk_lt (g := gp1_0) (o := .cells #[.slice A1_0 l1_0.length c1_0, .slice A1_1 l1_1.length c1_1] 29 (0, 0)) (zk BK544)) : gb551 ≠ gp1_0)); have n11_ := Aside0.mk ((by rw [hg]; exact Nat.ne_of_lt (blk_lt (g := gp1_1) (o := .cells #[.int .i64 a1_2] 3 (0, 0)) (zk BK545)) : gp1_1 ≠ gb551)); have n12_ := Aside0.mk ((by rw [hg]; exact Nat.ne_of_gt (blk_lt (g := gp1_1) (o := .cells #[.int .i64 a1_2] 3 (0, 0)) (zk BK545)) : gb551 ≠ gp1_1)); have n13_ := Aside0.mk ((by rw [hg]; exact Nat.ne_of_lt (blk_lt (g := gp1_2) (o := .cells #[.int .i64 a1_3] 3 (0, 0)) (zk BK546)) : gp1_2 ≠ gb551)); have n14_ := Aside0.mk ((by rw [hg]; exact Nat.ne_of_gt (blk_lt (g := gp1_2) (o := .cells #[.int .i64 a1_3] 3 (0, 0)) (zk BK546)) : gb551 ≠ gp1_2)); have n15_ := Aside0.mk ((by rw [hg]; exact Nat.ne_of_lt (blk_lt (g := gb547) (o := .cells #[.slice none 0 0, .slice none 0 0] 29 (0, 0)) (zk BK547)) : gb547 ≠ gb551)); have n16_ := Aside0.mk ((by rw [hg]; exact Nat.ne_of_gt (blk_lt (g := gb547) (o := .cells #[.slice none 0 0, .slice none 0 0] 29 (0, 0)) (zk BK547)) : gb551 ≠ gb547)); clear HO550; clear BK544; clear BK545; clear BK546; clear BK547; clear HB; have HO550 := n0_; have BK544 := n1_; have BK545 := n2_; have BK546 := n3_; have BK547 := n4_; have HB := n5_; have BK551 := n6_; have GW551 := n7_; have GE551 := n8_; have NB544_551 := n9_; have NB551_544 := n10_; have NB545_551 := n11_; have NB551_545 := n12_; have NB546_551 := n13_; have NB551_546 := n14_; have NB547_551 := n15_; have NB551_547 := n16_; clear n0_ n1_ n2_ n3_ n4_ n5_ n6_ n7_ n8_ n9_ n10_ n11_ n12_ n13_ n14_ n15_ n16_; clear hb hbox hg; have hnb9 := NB551_544.out; have hnc9 := NB544_551.out; have hnb10 := NB551_545.out; have hnc10 := NB545_551.out; have hnb11 := NB551_546.out; have hnc11 := NB546_551.out; have hnb12 := NB551_547.out; have hnc12 := NB547_551.out; have hcz13_0 : w8.cell? ⟨gb551, 0, none⟩ = some (.slice none 0 0) := (blk_cell BK551.out 0).trans rfl; have hcz13_1 : w8.cell? ⟨gb551, 1, none⟩ = some (.slice none 0 0) := (blk_cell BK551.out 1).trans rfl; have hfz13_0 := blk_frozen BK551.out 0; have hfz13_1 := blk_frozen BK551.out 1))
 go_loopg [13] k (fun kq v13 w' => ∃ (x13_1 : Int) (x552001_1 : List Int) (u552001 : Value), v13 = .int .i64 x13_1 ∧ Aside0 (table_over_table_Restrict_1.l0 kq l0 ji4 x13_1 l1_0 l1_1 a1_2 a1_3 t548 x552001_1 = some (r1, r2)) ∧ Aside0 (kq ≤ k) ∧ Aside0 (Kd.R (Kd.int .i64) 3 w' w.heap.size (fun k_ => some k_ ≠ (u552001 : Value).ownBlock ∧ k_ ≠ gp1_1 ∧ k_ ≠ gp1_2) (.slice Ao7 t548.length co7) t548) ∧ Aside0 (Kd.R (Kd.int .i64) 3 w' w.heap.size (fun k_ => some k_ ≠ ((.slice Ao7 t548.length co7) : Value).ownBlock ∧ k_ ≠ gp1_1 ∧ k_ ≠ gp1_2) u552001 x552001_1) ∧ Aside0 (w'.heap[gp1_0]? = some (.cells #[(.slice A1_0 l1_0.length c1_0), (.slice A1_1 l1_1.length c1_1)] 29 (0, 0))) ∧ Aside0 (w'.heap[gp1_1]? = some (.cells #[.int .i64 a1_2] 3 (0, 0))) ∧ Aside0 (w'.heap[gp1_2]? = some (.cells #[.int .i64 a1_3] 3 (0, 0))) ∧ Aside0 (w'.heap[gb547]? = some (.cells #[(.slice none 0 0), (.slice none 0 0)] 29 (0, 0))) ∧ Aside0 (w'.heap[gb551]? = some (.cells #[(.slice Ao7 t548.length co7), u552001] 29 (0, 0))) ∧ Aside0 (Below w.heap.size w w'))
 case atStart => exact ⟨(0), (([] : List Int)), (.slice none 0 0), zT, H', ⟨Nat.le_refl _⟩, ⟨by (with_reducible repeat (first | apply Kd.R_alloc | apply Kd.R_drewN | apply Kd.R_drew)); exact Kd.R_mono (Kd.R_far (p := ⟨gb551, 1, none⟩) (Kd.R_far (p := ⟨gb551, 0, none⟩) (Kd.R_types HO550.out BK551.out (by decide)) (fun _ hk => hk.2) (.slice Ao7 t548.length co7)) (fun _ hk => hk.2) (.slice none 0 0)) (fun _ hk => ⟨(by simp [Value.ownBlock]), ⟨hk.1.1.2, hk.1.2⟩⟩)⟩, ⟨by first | exact Kd.R_nil _ _ _ _ _ | exact Kd.N_nil _ _ _ _ _ | exact Kd.V_nil _ _ _ _ _ | exact Kd.Q_nil _ _ _ _ _ | exact Kd.S_nil _ _ _ _ _⟩, ⟨by (with_reducible repeat (first | refine blk_drewN ?_ _ | refine blk_drew ?_ | refine blk_alloc ?_ _)); refine blk_far ?_ NB544_551.out _; (with_reducible repeat (first | refine blk_drewN ?_ _ | refine blk_drew ?_ | refine blk_alloc ?_ _)); refine blk_far ?_ NB544_551.out _; (with_reducible repeat (first | refine blk_drewN ?_ _ | refine blk_drew ?_ | refine blk_alloc ?_ _)); exact BK544.out⟩, ⟨by (with_reducible repeat (first | refine blk_drewN ?_ _ | refine blk_drew ?_ | refine blk_alloc ?_ _)); refine blk_far ?_ NB545_551.out _; (with_reducible repeat (first | refine blk_drewN ?_ _ | refine blk_drew ?_ | refine blk_alloc ?_ _)); refine blk_far ?_ NB545_551.out _; (with_reducible repeat (first | refine blk_drewN ?_ _ | refine blk_drew ?_ | refine blk_alloc ?_ _)); exact BK545.out⟩, ⟨by (with_reducible repeat (first | refine blk_drewN ?_ _ | refine blk_drew ?_ | refine blk_alloc ?_ _)); refine blk_far ?_ NB546_551.out _; (with_reducible repeat (first | refine blk_drewN ?_ _ | refine blk_drew ?_ | refine blk_alloc ?_ _)); refine blk_far ?_ NB546_551.out _; (with_reducible repeat (first | refine blk_drewN ?_ _ | refine blk_drew ?_ | refine blk_alloc ?_ _)); exact BK546.out⟩, ⟨by (with_reducible repeat (first | refine blk_drewN ?_ _ | refine blk_drew ?_ | refine blk_alloc ?_ _)); refine blk_far ?_ NB547_551.out _; (with_reducible repeat (first | refine blk_drewN ?_ _ | refine blk_drew ?_ | refine blk_alloc ?_ _)); refine blk_far ?_ NB547_551.out _; (with_reducible repeat (first | refine blk_drewN ?_ _ | refine blk_drew ?_ | refine blk_alloc ?_ _)); exact BK547.out⟩, ⟨by (with_reducible repeat (first | refine blk_drewN ?_ _ | refine blk_drew ?_ | refine blk_alloc ?_ _)); refine blk_put (cs := #[.slice Ao7 t548.length co7, .slice none 0 0]) ?_ 1 _ rfl; (with_reducible repeat (first | refine blk_drewN ?_ _ | refine blk_drew ?_ | refine blk_alloc ?_ _)); refine blk_put (cs := #[.slice none 0 0, .slice none 0 0]) ?_ 0 _ rfl; (with_reducible repeat (first | refine blk_drewN ?_ _ | refine blk_drew ?_ | refine blk_alloc ?_ _)); exact BK551.out⟩, ⟨by repeat (first | (with_reducible first | exact HB.out | apply below_alloc | apply pw_below_drewN | apply below_drew1 | refine below_set ?_ GE544.out | refine below_set ?_ GE545.out | refine below_set ?_ GE546.out | refine below_set ?_ GE547.out | refine below_set ?_ GE551.out) | exact HB.out)⟩⟩
 case round =>
  clear H'
  try clear hcz13_0
  try clear hcz13_1
  try clear hfz13_0
  try clear hfz13_1
  obtain ⟨x13_1, x552001_1, u552001, rfl, HA, HK1, HO_552000, HO_552001, BK544, BK545, BK546, BK547, BK551, HB⟩ := hrel
  cases gk with
  | zero => exact absurd HA.out (by simp [table_over_table_Restrict_1.l0])
  | succ k1 =>
   have H := HA.out
   clear HA
   simp only [table_over_table_Restrict_1.l0] at H
   by_cases c14 : x13_1 < ji4
   ·rw [if_pos c14] at H
    have c14b0 : decide (x13_1 < ji4) = true := decide_eq_true c14
    clear c14
    replace H := Option.bind_eq_some_iff.mp H
    obtain ⟨t552, A150, H⟩ := H
    replace H : ((table_Restrict_1_v1.f k1 t552 l1_0 l1_1 a1_2 a1_3).bind fun t553 => (if t553 = true then (if x552001_1.length < 17592186044416 then (table_over_table_Restrict_1.l0 k1 l0 ji4 (wrap64 (x13_1 + 1)) l1_0 l1_1 a1_2 a1_3 t548 (x552001_1 ++ [x13_1])) else (none)) else (table_over_table_Restrict_1.l0 k1 l0 ji4 (wrap64 (x13_1 + 1)) l1_0 l1_1 a1_2 a1_3 t548 x552001_1))) = some (r1, r2) := H
    have A15 := Aside0.mk A150
    clear A150
    replace H := Option.bind_eq_some_iff.mp H
    obtain ⟨t553, A160, H⟩ := H
    replace H : (if t553 = true then (if x552001_1.length < 17592186044416 then (table_over_table_Restrict_1.l0 k1 l0 ji4 (wrap64 (x13_1 + 1)) l1_0 l1_1 a1_2 a1_3 t548 (x552001_1 ++ [x13_1])) else (none)) else (table_over_table_Restrict_1.l0 k1 l0 ji4 (wrap64 (x13_1 + 1)) l1_0 l1_1 a1_2 a1_3 t548 x552001_1)) = some (r1, r2) := H
    have A16 := Aside0.mk A160
    clear A160
    have HC17 := Aside0.mk H
    clear H
    go_upto_if 20 with (first | ((with_reducible refine gate_callee (f := 69) rfl ?_); refine goesL_ (some 19) rfl rfl Try.func69 zK rfl #[.slice A0 l0.length c0, .int .i64 x13_1] rfl zM ?_; (with_reducible refine (table_assignment.calls k1 _ _ l0 x13_1 t552 _ ?side1 ?side2 A15.out).mono ?_); (case side1 => repeat (first | exact (Kd.C_below HR0.out HB.out) | (with_reducible refine Kd.C_alloc ?_ _) | (with_reducible refine Kd.C_drewN ?_ _) | (with_reducible refine Kd.C_drew ?_))); (case side2 => exact HC0.out); rintro e w' ⟨rfl, ⟨nd, rfl⟩⟩; refine ⟨_, rfl, ?_⟩) | (go_at_call 61; (with_reducible refine (table_Restrict_1_v1.calls k1 t552 gp1_0 A1_0 c1_0 l1_0 A1_1 c1_1 l1_1 gp1_1 a1_2 gp1_2 a1_3 t553 _ ?side1 ?side2 ?side3 ?side4 ?side5 ?side6 ?side7 A16.out).mono ?_); (case side1 => repeat (first | exact (Kd.C_below HR1_0.out zB) | (with_reducible refine Kd.C_alloc ?_ _) | (with_reducible refine Kd.C_drewN ?_ _) | (with_reducible refine Kd.C_drew ?_))); (case side2 => exact HC1_0.out); (case side3 => repeat (first | exact (Kd.C_below HR1_1.out zB) | (with_reducible refine Kd.C_alloc ?_ _) | (with_reducible refine Kd.C_drewN ?_ _) | (with_reducible refine Kd.C_drew ?_))); (case side4 => exact HC1_1.out); (case side5 => (with_reducible repeat (first | refine blk_drewN ?_ _ | refine blk_drew ?_ | refine blk_alloc ?_ _)); exact BK544.out); (case side6 => (with_reducible repeat (first | refine blk_drewN ?_ _ | refine blk_drew ?_ | refine blk_alloc ?_ _)); exact BK545.out); (case side7 => (with_reducible repeat (first | refine blk_drewN ?_ _ | refine blk_drew ?_ | refine blk_alloc ?_ _)); exact BK546.out); rintro e w18 ⟨rfl, hb⟩; have n0_ := Aside0.mk (Kd.R_below (zR HO_552000) hb); have n1_ := Aside0.mk (Kd.R_below (zR HO_552001) hb); have n2_ := Aside0.mk (blk_below (g := gp1_0) (o := .cells #[.slice A1_0 l1_0.length c1_0, .slice A1_1 l1_1.length c1_1] 29 (0, 0)) (zk BK544) hb); have n3_ := Aside0.mk (blk_below (g := gp1_1) (o := .cells #[.int .i64 a1_2] 3 (0, 0)) (zk BK545) hb); have n4_ := Aside0.mk (blk_below (g := gp1_2) (o := .cells #[.int .i64 a1_3] 3 (0, 0)) (zk BK546) hb); have n5_ := Aside0.mk (blk_below (g := gb547) (o := .cells #[.slice none 0 0, .slice none 0 0] 29 (0, 0)) (zk BK547) hb); have n6_ := Aside0.mk (blk_below (g := gb551) (o := .cells #[.slice Ao7 t548.length co7, u552001] 29 (0, 0)) (zk BK551) hb); have n7_ := Aside0.mk (below_step zB hb); clear HO_552000; clear HO_552001; clear BK544; clear BK545; clear BK546; clear BK547; clear BK551; clear HB; have HO_552000 := n0_; have HO_552001 := n1_; have BK544 := n2_; have BK545 := n3_; have BK546 := n4_; have BK547 := n5_; have BK551 := n6_; have HB := n7_; clear n0_ n1_ n2_ n3_ n4_ n5_ n6_ n7_; (try clear hb); (try clear hb2); (try clear hk); (try clear hi)))
    (try simp only [Act.put, List.setIfInBounds_toArray, List.set_cons_zero, List.set_cons_succ])
    have H := HC17.out
    clear HC17
    by_cases c19 : t553 = true
    ·subst c19
     have H1 : (if x552001_1.length < 17592186044416 then (table_over_table_Restrict_1.l0 k1 l0 ji4 (wrap64 (x13_1 + 1)) l1_0 l1_1 a1_2 a1_3 t548 (x552001_1 ++ [x13_1])) else (none)) = some (r1, r2) := by rw [if_pos rfl] at H; exact H
     clear H
     have H := H1
     clear H1
     by_cases c20 : x552001_1.length < 17592186044416
     ·rw [if_pos c20] at H
      have LMc20 := Aside0.mk c20
      clear c20
      obtain ⟨y554, hy554⟩ : ∃ y_ : List Int, y_ = (x552001_1 ++ [x13_1]) := ⟨_, rfl⟩
      replace H : (table_over_table_Restrict_1.l0 k1 l0 ji4 (wrap64 (x13_1 + 1)) l1_0 l1_1 a1_2 a1_3 t548 y554) = some (r1, r2) := by first | (rw [hy554]; with_reducible exact H) | (have H2_ := (Option.bind_some _ _).symm.trans H; rw [hy554]; with_reducible exact H2_) | (have H2_ := (Option.bind_some _ _).symm.trans H; with_reducible exact H2_) | with_reducible exact H | (rw [hy554]; exact H) | exact H
      have Ny554 := Aside0.mk hy554
      clear hy554
      have H' := Aside0.mk H
      clear H
      have hnb21 := NB551_544.out
      have hnc21 := NB544_551.out
      have hnb22 := NB551_545.out
      have hnc22 := NB545_551.out
      have hnb23 := NB551_546.out
      have hnc23 := NB546_551.out
      have hnb24 := NB551_547.out
      have hnc24 := NB547_551.out
      have hcz25_0 : w18.cell? ⟨gb551, 0, none⟩ = some (.slice Ao7 t548.length co7) := (blk_cell BK551.out 0).trans rfl
      have hcz25_1 : w18.cell? ⟨gb551, 1, none⟩ = some (u552001) := (blk_cell BK551.out 1).trans rfl
      have hfz25_0 := blk_frozen BK551.out 0
      have hfz25_1 := blk_frozen BK551.out 1
      go_wp2_with (first | ((with_reducible refine gate_builtin (b := .append) (xs := #[.tmp 22, .tmp 24]) rfl ?_); at_builtin; refine Kd.R_append (Kd.int .i64) (w0 := w) w.heap.size rfl (.tmp 22) (.tmp 24) 27 3 (.int .i64 0) 8 rfl Try.underlying27 info3 rfl (by decide) (by omega) u552001 x552001_1 x13_1 [.int .i64 x13_1] (fun k_ => some k_ ≠ (.slice Ao7 t548.length co7 : Value).ownBlock ∧ k_ ≠ gp1_1 ∧ k_ ≠ gp1_2) (fun _ => False) rfl rfl ?aP (fun _ hk => hk.elim) ?aF ?aO ?aB ?aS ?aL ?_; (case aP => exact rfl); (case aB => exact zB); (case aF => exact (fun k_ hk => ⟨Kd.fresh' (Kd.R_lt (zR HO_552000)) k_ hk, Kd.freshB (g := gp1_1) (o := .cells #[.int .i64 a1_2] 3 (0, 0)) (zk BK545) k_ hk, Kd.freshB (g := gp1_2) (o := .cells #[.int .i64 a1_3] 3 (0, 0)) (zk BK546) k_ hk⟩)); (case aO => exact (zR HO_552001)); (case aS => exact (below_size zB)); (case aL => have := LMc20.out; omega); intro v555 w26 ho hb hg hat; rw [← Ny554.out] at ho; have n0_ := Aside0.mk (Kd.R_after (ok := (fun k_ => k_ ≠ gp1_1 ∧ k_ ≠ gp1_2)) (by (with_reducible repeat (first | apply Kd.R_alloc | apply Kd.R_drewN | apply Kd.R_drew)); exact Kd.R_mono HO_552000.out (fun _ hk => ⟨⟨hk.2.1, hk.2.2⟩, hk.1⟩)) hg hat); have n1_ := Aside0.mk (blk_grown (g := gp1_0) (o := .cells #[.slice A1_0 l1_0.length c1_0, .slice A1_1 l1_1.length c1_1] 29 (0, 0)) (zk BK544) hg (Kd.R_ne HO_552001.out BK544.out (by decide))); have n2_ := Aside0.mk (blk_grown (g := gp1_1) (o := .cells #[.int .i64 a1_2] 3 (0, 0)) (zk BK545) hg (Kd.R_away HO_552001.out (fun _ hk => hk.2.1))); have n3_ := Aside0.mk (blk_grown (g := gp1_2) (o := .cells #[.int .i64 a1_3] 3 (0, 0)) (zk BK546) hg (Kd.R_away HO_552001.out (fun _ hk => hk.2.2))); have n4_ := Aside0.mk (blk_grown (g := gb547) (o := .cells #[.slice none 0 0, .slice none 0 0] 29 (0, 0)) (zk BK547) hg (Kd.R_ne HO_552001.out BK547.out (by decide))); have n5_ := Aside0.mk (blk_grown (g := gb551) (o := .cells #[.slice Ao7 t548.length co7, u552001] 29 (0, 0)) (zk BK551) hg (Kd.R_ne HO_552001.out BK551.out (by decide))); have n6_ := Aside0.mk (hb); have n7_ := Aside0.mk (ho); clear HO_552000; clear BK544; clear BK545; clear BK546; clear BK547; clear BK551; clear HB; clear HO_552001; have HO_552000 := n0_; have BK544 := n1_; have BK545 := n2_; have BK546 := n3_; have BK547 := n4_; have BK551 := n5_; have HB := n6_; have HO556 := n7_; clear n0_ n1_ n2_ n3_ n4_ n5_ n6_ n7_; clear ho hb hg hat; obtain ⟨Ao27, co27, eo27⟩ := Kd.R_slice HO556.out; subst eo27; have hcz28_0 : w26.cell? ⟨gb551, 0, none⟩ = some (.slice Ao7 t548.length co7) := (blk_cell BK551.out 0).trans rfl; have hcz28_1 : w26.cell? ⟨gb551, 1, none⟩ = some (u552001) := (blk_cell BK551.out 1).trans rfl; have hfz28_0 := blk_frozen BK551.out 0; have hfz28_1 := blk_frozen BK551.out 1))
      go_roundg k1
      case measure => have := HK1.out; omega
      case rel => exact ⟨(wrap64 (x13_1 + 1)), (y554), (.slice Ao27 y554.length co27), zT, H', ⟨by have := HK1.out; omega⟩, ⟨by (with_reducible repeat (first | apply Kd.R_alloc | apply Kd.R_drewN | apply Kd.R_drew)); exact Kd.R_mono (Kd.R_far (p := ⟨gb551, 1, none⟩) (Kd.R_types HO_552000.out BK551.out (by decide)) (fun _ hk => hk.2) (.slice Ao27 y554.length co27)) (fun _ hk => ⟨hk.1.2, ⟨hk.1.1.1, hk.1.1.2⟩⟩)⟩, ⟨by (with_reducible repeat (first | apply Kd.R_alloc | apply Kd.R_drewN | apply Kd.R_drew)); exact Kd.R_mono (Kd.R_far (p := ⟨gb551, 1, none⟩) (Kd.R_types HO556.out BK551.out (by decide)) (fun _ hk => hk.2) (.slice Ao27 y554.length co27)) (fun _ hk => ⟨hk.1.1, ⟨hk.1.2.1, hk.1.2.2⟩⟩)⟩, ⟨by (with_reducible repeat (first | refine blk_drewN ?_ _ | refine blk_drew ?_ | refine blk_alloc ?_ _)); refine blk_far ?_ NB544_551.out _; (with_reducible repeat (first | refine blk_drewN ?_ _ | refine blk_drew ?_ | refine blk_alloc ?_ _)); exact BK544.out⟩, ⟨by (with_reducible repeat (first | refine blk_drewN ?_ _ | refine blk_drew ?_ | refine blk_alloc ?_ _)); refine blk_far ?_ NB545_551.out _; (with_reducible repeat (first | refine blk_drewN ?_ _ | refine blk_drew ?_ | refine blk_alloc ?_ _)); exact BK545.out⟩, ⟨by (with_reducible repeat (first | refine blk_drewN ?_ _ | refine blk_drew ?_ | refine blk_alloc ?_ _)); refine blk_far ?_ NB546_551.out _; (with_reducible repeat (first | refine blk_drewN ?_ _ | refine blk_drew ?_ | refine blk_alloc ?_ _)); exact BK546.out⟩, ⟨by (with_reducible repeat (first | refine blk_drewN ?_ _ | refine blk_drew ?_ | refine blk_alloc ?_ _)); refine blk_far ?_ NB547_551.out _; (with_reducible repeat (first | refine blk_drewN ?_ _ | refine blk_drew ?_ | refine blk_alloc ?_ _)); exact BK547.out⟩, ⟨by (with_reducible repeat (first | refine blk_drewN ?_ _ | refine blk_drew ?_ | refine blk_alloc ?_ _)); refine blk_put (cs := #[.slice Ao7 t548.length co7, u552001]) ?_ 1 _ rfl; (with_reducible repeat (first | refine blk_drewN ?_ _ | refine blk_drew ?_ | refine blk_alloc ?_ _)); exact BK551.out⟩, ⟨by repeat (first | (with_reducible first | exact HB.out | apply below_alloc | apply pw_below_drewN | apply below_drew1 | refine below_set ?_ GE544.out | refine below_set ?_ GE545.out | refine below_set ?_ GE546.out | refine below_set ?_ GE547.out | refine below_set ?_ GE551.out) | exact HB.out)⟩⟩
     ·rw [if_neg c20] at H
      exact absurd H (by simp)
    ·replace c19 := Bool.eq_false_iff.mpr c19
     subst c19
     have H1 : (table_over_table_Restrict_1.l0 k1 l0 ji4 (wrap64 (x13_1 + 1)) l1_0 l1_1 a1_2 a1_3 t548 x552001_1) = some (r1, r2) := by rw [if_neg (show ¬ (false = true) by decide)] at H; exact H
     clear H
     have H := H1
     clear H1
     have H' := Aside0.mk H
     clear H
     go_wp2
     go_roundg k1
     case measure => have := HK1.out; omega
     case rel => exact ⟨(wrap64 (x13_1 + 1)), (x552001_1), (u552001), zT, H', ⟨by have := HK1.out; omega⟩, ⟨by (with_reducible repeat (first | apply Kd.R_alloc | apply Kd.R_drewN | apply Kd.R_drew)); exact HO_552000.out⟩, ⟨by (with_reducible repeat (first | apply Kd.R_alloc | apply Kd.R_drewN | apply Kd.R_drew)); exact HO_552001.out⟩, ⟨by (with_reducible repeat (first | refine blk_drewN ?_ _ | refine blk_drew ?_ | refine blk_alloc ?_ _)); exact BK544.out⟩, ⟨by (with_reducible repeat (first | refine blk_drewN ?_ _ | refine blk_drew ?_ | refine blk_alloc ?_ _)); exact BK545.out⟩, ⟨by (with_reducible repeat (first | refine blk_drewN ?_ _ | refine blk_drew ?_ | refine blk_alloc ?_ _)); exact BK546.out⟩, ⟨by (with_reducible repeat (first | refine blk_drewN ?_ _ | refine blk_drew ?_ | refine blk_alloc ?_ _)); exact BK547.out⟩, ⟨by (with_reducible repeat (first | refine blk_drewN ?_ _ | refine blk_drew ?_ | refine blk_alloc ?_ _)); exact BK551.out⟩, ⟨by repeat (first | (with_reducible first | exact HB.out | apply below_alloc | apply pw_below_drewN | apply below_drew1 | refine below_set ?_ GE544.out | refine below_set ?_ GE545.out | refine below_set ?_ GE546.out | refine below_set ?_ GE547.out | refine below_set ?_ GE551.out) | exact HB.out)⟩⟩
   ·rw [if_neg c14] at H
    have c14b0 : decide (x13_1 < ji4) = false := decide_eq_false c14
    clear c14
    simp only [Option.some.injEq, Prod.mk.injEq] at H
    obtain ⟨rfl, rfl⟩ := H
    have hnb29 := NB551_544.out
    have hnc29 := NB544_551.out
    have hnb30 := NB551_545.out
    have hnc30 := NB545_551.out
    have hnb31 := NB551_546.out
    have hnc31 := NB546_551.out
    have hnb32 := NB551_547.out
    have hnc32 := NB547_551.out
    have hcz33_0 : wr.cell? ⟨gb551, 0, none⟩ = some (.slice Ao7 t548.length co7) := (blk_cell BK551.out 0).trans rfl
    have hcz33_1 : wr.cell? ⟨gb551, 1, none⟩ = some (u552001) := (blk_cell BK551.out 1).trans rfl
    have hfz33_0 := blk_frozen BK551.out 0
    have hfz33_1 := blk_frozen BK551.out 1
    have hnb34 := NB547_544.out
    have hnc34 := NB544_547.out
    have hnb35 := NB547_545.out
    have hnc35 := NB545_547.out
    have hnb36 := NB547_546.out
    have hnc36 := NB546_547.out
    have hcz37_0 : wr.cell? ⟨gb547, 0, none⟩ = some (.slice none 0 0) := (blk_cell BK547.out 0).trans rfl
    have hcz37_1 : wr.cell? ⟨gb547, 1, none⟩ = some (.slice none 0 0) := (blk_cell BK547.out 1).trans rfl
    have hfz37_0 := blk_frozen BK547.out 0
    have hfz37_1 := blk_frozen BK547.out 1
    obtain ⟨Ao38, co38, eo38⟩ := Kd.R_slice HO_552001.out
    subst eo38
    go_wp2
    refine bodyPost_ret (results_cell_row rfl _ _ gb547 29 #[.slice Ao7 t548.length co7, .slice Ao38 x552001_1.length co38] (0, 0) _ rfl (by (with_reducible repeat (first | refine blk_drewN ?_ _ | refine blk_drew ?_ | refine blk_alloc ?_ _)); refine blk_put (cs := #[.slice Ao7 t548.length co7, .slice none 0 0]) ?_ 1 _ rfl; (with_reducible repeat (first | refine blk_drewN ?_ _ | refine blk_drew ?_ | refine blk_alloc ?_ _)); refine blk_put (cs := #[.slice none 0 0, .slice none 0 0]) ?_ 0 _ rfl; (with_reducible repeat (first | refine blk_drewN ?_ _ | refine blk_drew ?_ | refine blk_alloc ?_ _)); exact BK547.out) Try.underlying29 rfl zK) rfl ?_
    exact ⟨_, _, by first | rfl | (simp [errW_none, errW_some] <;> rfl) | (simp only [← hji4]; first | rfl | (simp [errW_none, errW_some] <;> rfl)) | (simp [*, errW_none, errW_some] <;> rfl), by (with_reducible repeat (first | apply Kd.R_alloc | apply Kd.R_drewN | apply Kd.R_drew)); exact Kd.R_mono (Kd.R_far (p := ⟨gb547, 1, none⟩) (Kd.R_far (p := ⟨gb547, 0, none⟩) (Kd.R_types HO_552000.out BK547.out (by decide)) (fun _ hk => hk.2) (.slice Ao7 t548.length co7)) (fun _ hk => hk.2) (.slice Ao38 x552001_1.length co38)) (fun _ hk => hk.1.1), by (with_reducible repeat (first | apply Kd.R_alloc | apply Kd.R_drewN | apply Kd.R_drew)); exact Kd.R_mono (Kd.R_far (p := ⟨gb547, 1, none⟩) (Kd.R_far (p := ⟨gb547, 0, none⟩) (Kd.R_types HO_552001.out BK547.out (by decide)) (fun _ hk => hk.2) (.slice Ao7 t548.length co7)) (fun _ hk => hk.2) (.slice Ao38 x552001_1.length co38)) (fun _ hk => hk.1.1), by repeat (first | (with_reducible first | exact HB.out | apply below_alloc | apply pw_below_drewN | apply below_drew1 | refine below_set ?_ GE544.out | refine below_set ?_ GE545.out | refine below_set ?_ GE546.out | refine below_set ?_ GE547.out | refine below_set ?_ GE551.out) | exact HB.out)⟩
/-! ### table_Restrict: function 35 -/
def table_Restrict.j0 : Nat → Bool → List Int → List Int → Int → Int → Option (List Int × List Int × Int)
 | 0, _, _, _, _, _ => none
 | k + 1, x20, x558000, x558001, x559000, x560000 => if x20 = true then (some (([] : List Int), ([] : List Int), 6)) else ((slices_Contains_int_int.f k x558000 x559000).bind fun t562 => (if t562 = true then ((table_without.f x558000 x559000).bind fun t563 => ((table_over_table_Restrict_1.f k t563 x558000 x558001 x560000 x559000).bind fun bt566 => (some (bt566.1, bt566.2, 0)))) else (some (([] : List Int), ([] : List Int), 4))))
def table_Restrict.f (k : Nat) (l0_0 : List Int) (l0_1 : List Int) (a1 : Int) (a2 : Int) : Option (List Int × List Int × Int) := (table_Valid.f k l0_0 l0_1).bind fun t561 => (if t561 = 0 then (if a2 = 0 then (table_Restrict.j0 k false l0_0 l0_1 a1 a2) else (table_Restrict.j0 k (a2 != 1) l0_0 l0_1 a1 a2)) else (some (([] : List Int), ([] : List Int), t561)))
theorem table_Restrict.mono_l : ∀ k, (∀ y0 y1 y2 y3 y4, LeO (table_Restrict.j0 k y0 y1 y2 y3 y4) (table_Restrict.j0 (k + 1) y0 y1 y2 y3 y4))
 | 0 => fun _ _ _ _ _ r h => by simp [table_Restrict.j0] at h
 | k + 1 => by
  have ih0 := table_Restrict.mono_l k
  ·intro y0 y1 y2 y3 y4
   unfold table_Restrict.j0
   repeat' first
   | (with_reducible exact ih0 _ _ _ _ _)
   | (with_reducible exact slices_Contains_int_int.mono _ _ _)
   | (with_reducible exact table_Valid.mono _ _ _)
   | (with_reducible exact table_over_table_Restrict_1.mono _ _ _ _ _ _)
   | (with_reducible exact LeO.refl _)
   | (with_reducible exact LeO.none _)
   | (with_reducible refine LeO.ite ?_ ?_)
   | (with_reducible refine LeO.bind ?_ (fun _ => ?_))
   | exact ih0 _ _ _ _ _
   | exact slices_Contains_int_int.mono _ _ _
   | exact table_Valid.mono _ _ _
   | exact table_over_table_Restrict_1.mono _ _ _ _ _ _
   | exact LeO.none _
   | refine LeO.ite ?_ ?_
   | refine LeO.bind ?_ (fun _ => ?_)
theorem table_Restrict.mono : ∀ a0 a1 a2 a3 k, LeO (table_Restrict.f k a0 a1 a2 a3) (table_Restrict.f (k + 1) a0 a1 a2 a3) := by
 intro a0 a1 a2 a3 k
 have ih0 := table_Restrict.mono_l k
 unfold table_Restrict.f
 repeat' first
   | (with_reducible exact ih0 _ _ _ _ _)
   | (with_reducible exact slices_Contains_int_int.mono _ _ _)
   | (with_reducible exact table_Valid.mono _ _ _)
   | (with_reducible exact table_over_table_Restrict_1.mono _ _ _ _ _ _)
   | (with_reducible exact LeO.refl _)
   | (with_reducible exact LeO.none _)
   | (with_reducible refine LeO.ite ?_ ?_)
   | (with_reducible refine LeO.bind ?_ (fun _ => ?_))
   | exact ih0 _ _ _ _ _
   | exact slices_Contains_int_int.mono _ _ _
   | exact table_Valid.mono _ _ _
   | exact table_over_table_Restrict_1.mono _ _ _ _ _ _
   | exact LeO.none _
   | refine LeO.ite ?_ ?_
   | refine LeO.bind ?_ (fun _ => ?_)
set_option maxHeartbeats 8000000 in
set_option maxRecDepth 100000 in
theorem table_Restrict.calls (k : Nat) (A0_0 : Option Addr) (c0_0 : Nat) (l0_0 : List Int) (A0_1 : Option Addr) (c0_1 : Nat) (l0_1 : List Int) (a1 : Int) (a2 : Int) (r1 : List Int) (r2 : List Int) (r3 : Int) (w : World) (hr0_0 : Kd.C (Kd.int .i64) w A0_0 l0_0.length l0_0) (hc0_0 : l0_0.length ≤ c0_0) (hr0_1 : Kd.C (Kd.int .i64) w A0_1 l0_1.length l0_1) (hc0_1 : l0_1.length ≤ c0_1) (h : table_Restrict.f k l0_0 l0_1 a1 a2 = some (r1, r2, r3)) :
  Calls Try.prog 35 #[.agg #[.slice A0_0 l0_0.length c0_0, .slice A0_1 l0_1.length c0_1], .int .i64 a1, .int .i64 a2] w fun e w' => ∃ v0_ v1_ : Value, e = .returned (.tuple #[.agg #[v0_, v1_], .int .i64 r3]) ∧ Kd.R (Kd.int .i64) 3 w' w.heap.size (fun k_ => some k_ ≠ (v1_ : Value).ownBlock) v0_ r1 ∧ Kd.R (Kd.int .i64) 3 w' w.heap.size (fun k_ => some k_ ≠ (v0_ : Value).ownBlock) v1_ r2 ∧ Below w.heap.size w w' := by
 have hu29 := Try.underlying29
 have hu3 := Try.underlying3
 have hu27 := Try.underlying27
 have HR0_0 := Aside0.mk hr0_0
 have HC0_0 := Aside0.mk hc0_0
 clear hr0_0 hc0_0
 have HR0_1 := Aside0.mk hr0_1
 have HC0_1 := Aside0.mk hc0_1
 clear hr0_1 hc0_1
 have HB := Aside0.mk (Below.refl w.heap.size w)
 have H : ((table_Valid.f k l0_0 l0_1).bind fun t561 => (if t561 = 0 then (if a2 = 0 then (table_Restrict.j0 k false l0_0 l0_1 a1 a2) else (table_Restrict.j0 k (a2 != 1) l0_0 l0_1 a1 a2)) else (some (([] : List Int), ([] : List Int), t561)))) = some (r1, r2, r3) := h
 clear h
 replace H := Option.bind_eq_some_iff.mp H
 obtain ⟨t561, A40, H⟩ := H
 replace H : (if t561 = 0 then (if a2 = 0 then (table_Restrict.j0 k false l0_0 l0_1 a1 a2) else (table_Restrict.j0 k (a2 != 1) l0_0 l0_1 a1 a2)) else (some (([] : List Int), ([] : List Int), t561))) = some (r1, r2, r3) := H
 have A4 := Aside0.mk A40
 clear A40
 have HC5 := Aside0.mk H
 clear H
 go_enter Try.func35, Try.ntmps35
 go_upto_if 12 with (first | ((with_reducible refine gate_dst (N := 3) rfl ?_); refine box_event ?hg (N := 3) ?hd (cs := #[.slice A0_0 l0_0.length c0_0, .slice A0_1 l0_1.length c0_1]) (t := 29) ?hr ?_; (case hd => rfl); (case hg => rfl); (case hr => first | (go_simp; done) | (go_simp; rfl)); intro gb557 hg w6 hbox hb; have n0_ := Aside0.mk (below_step zB hb); have n1_ := Aside0.mk (hbox); have n2_ := Aside0.mk ((by rw [hg]; exact (below_size zB) : w.heap.size ≤ gb557)); have n3_ := Aside0.mk ((by rw [hg]; exact (below_size zB) : w.heap.size ≤ gb557)); clear HB; have HB := n0_; have BK557 := n1_; have GW557 := n2_; have GE557 := n3_; clear n0_ n1_ n2_ n3_; clear hb hbox hg) | ((with_reducible refine gate_dst (N := 4) rfl ?_); refine box_event ?hg (N := 4) ?hd (cs := #[.int .i64 a1]) (t := 3) ?hr ?_; (case hd => rfl); (case hg => rfl); (case hr => first | (go_simp; done) | (go_simp; rfl)); intro gb558 hg w7 hbox hb; have n0_ := Aside0.mk (blk_below (g := gb557) (o := .cells #[.slice A0_0 l0_0.length c0_0, .slice A0_1 l0_1.length c0_1] 29 (0, 0)) (zk BK557) hb); have n1_ := Aside0.mk (below_step zB hb); have n2_ := Aside0.mk (hbox); have n3_ := Aside0.mk ((by rw [hg]; exact (below_size zB) : w.heap.size ≤ gb558)); have n4_ := Aside0.mk ((by rw [hg]; exact (below_size zB) : w.heap.size ≤ gb558)); have n5_ := Aside0.mk ((by rw [hg]; exact Nat.ne_of_lt (blk_lt (g := gb557) (o := .cells #[.slice A0_0 l0_0.length c0_0, .slice A0_1 l0_1.length c0_1] 29 (0, 0)) (zk BK557)) : gb557 ≠ gb558)); have n6_ := Aside0.mk ((by rw [hg]; exact Nat.ne_of_gt (blk_lt (g := gb557) (o := .cells #[.slice A0_0 l0_0.length c0_0, .slice A0_1 l0_1.length c0_1] 29 (0, 0)) (zk BK557)) : gb558 ≠ gb557)); clear BK557; clear HB; have BK557 := n0_; have HB := n1_; have BK558 := n2_; have GW558 := n3_; have GE558 := n4_; have NB557_558 := n5_; have NB558_557 := n6_; clear n0_ n1_ n2_ n3_ n4_ n5_ n6_; clear hb hbox hg) | ((with_reducible refine gate_dst (N := 5) rfl ?_); refine box_event ?hg (N := 5) ?hd (cs := #[.int .i64 a2]) (t := 3) ?hr ?_; (case hd => rfl); (case hg => rfl); (case hr => first | (go_simp; done) | (go_simp; rfl)); intro gb559 hg w8 hbox hb; have n0_ := Aside0.mk (blk_below (g := gb557) (o := .cells #[.slice A0_0 l0_0.length c0_0, .slice A0_1 l0_1.length c0_1] 29 (0, 0)) (zk BK557) hb); have n1_ := Aside0.mk (blk_below (g := gb558) (o := .cells #[.int .i64 a1] 3 (0, 0)) (zk BK558) hb); have n2_ := Aside0.mk (below_step zB hb); have n3_ := Aside0.mk (hbox); have n4_ := Aside0.mk ((by rw [hg]; exact (below_size zB) : w.heap.size ≤ gb559)); have n5_ := Aside0.mk ((by rw [hg]; exact (below_size zB) : w.heap.size ≤ gb559)); have n6_ := Aside0.mk ((by rw [hg]; exact Nat.ne_of_lt (blk_lt (g := gb557) (o := .cells #[.slice A0_0 l0_0.length c0_0, .slice A0_1 l0_1.length c0_1] 29 (0, 0)) (zk BK557)) : gb557 ≠ gb559)); have n7_ := Aside0.mk ((by rw [hg]; exact Nat.ne_of_gt (blk_lt (g := gb557) (o := .cells #[.slice A0_0 l0_0.length c0_0, .slice A0_1 l0_1.length c0_1] 29 (0, 0)) (zk BK557)) : gb559 ≠ gb557)); have n8_ := Aside0.mk ((by rw [hg]; exact Nat.ne_of_lt (blk_lt (g := gb558) (o := .cells #[.int .i64 a1] 3 (0, 0)) (zk BK558)) : gb558 ≠ gb559)); have n9_ := Aside0.mk ((by rw [hg]; exact Nat.ne_of_gt (blk_lt (g := gb558) (o := .cells #[.int .i64 a1] 3 (0, 0)) (zk BK558)) : gb559 ≠ gb558)); clear BK557; clear BK558; clear HB; have BK557 := n0_; have BK558 := n1_; have HB := n2_; have BK559 := n3_; have GW559 := n4_; have GE559 := n5_; have NB557_559 := n6_; have NB559_557 := n7_; have NB558_559 := n8_; have NB559_558 := n9_; clear n0_ n1_ n2_ n3_ n4_ n5_ n6_ n7_ n8_ n9_; clear hb hbox hg) | ((with_reducible refine gate_dst (N := 6) rfl ?_); refine box_event ?hg (N := 6) ?hd (cs := #[.slice none 0 0, .slice none 0 0]) (t := 29) ?hr ?_; (case hd => rfl); (case hg => rfl); (case hr => first | (go_simp; done) | (go_simp; rfl)); intro gb560 hg w9 hbox hb; have n0_ := Aside0.mk (blk_below (g := gb557) (o := .cells #[.slice A0_0 l0_0.length c0_0, .slice A0_1 l0_1.length c0_1] 29 (0, 0)) (zk BK557) hb); have n1_ := Aside0.mk (blk_below (g := gb558) (o := .cells #[.int .i64 a1] 3 (0, 0)) (zk BK558) hb); have n2_ := Aside0.mk (blk_below (g := gb559) (o := .cells #[.int .i64 a2] 3 (0, 0)) (zk BK559) hb); have n3_ := Aside0.mk (below_step zB hb); have n4_ := Aside0.mk (hbox); have n5_ := Aside0.mk ((by rw [hg]; exact (below_size zB) : w.heap.size ≤ gb560)); have n6_ := Aside0.mk ((by rw [hg]; exact (below_size zB) : w.heap.size ≤ gb560)); have n7_ := Aside0.mk ((by rw [hg]; exact Nat.ne_of_lt (blk_lt (g := gb557) (o := .cells #[.slice A0_0 l0_0.length c0_0, .slice A0_1 l0_1.length c0_1] 29 (0, 0)) (zk BK557)) : gb557 ≠ gb560)); have n8_ := Aside0.mk ((by rw [hg]; exact Nat.ne_of_gt (blk_lt (g := gb557) (o := .cells #[.slice A0_0 l0_0.length c0_0, .slice A0_1 l0_1.length c0_1] 29 (0, 0)) (zk BK557)) : gb560 ≠ gb557)); have n9_ := Aside0.mk ((by rw [hg]; exact Nat.ne_of_lt (blk_lt (g := gb558) (o := .cells #[.int .i64 a1] 3 (0, 0)) (zk BK558)) : gb558 ≠ gb560)); have n10_ := Aside0.mk ((by rw [hg]; exact Nat.ne_of_gt (blk_lt (g := gb558) (o := .cells #[.int .i64 a1] 3 (0, 0)) (zk BK558)) : gb560 ≠ gb558)); have n11_ := Aside0.mk ((by rw [hg]; exact Nat.ne_of_lt (blk_lt (g := gb559) (o := .cells #[.int .i64 a2] 3 (0, 0)) (zk BK559)) : gb559 ≠ gb560)); have n12_ := Aside0.mk ((by rw [hg]; exact Nat.ne_of_gt (blk_lt (g := gb559) (o := .cells #[.int .i64 a2] 3 (0, 0)) (zk BK559)) : gb560 ≠ gb559)); clear BK557; clear BK558; clear BK559; clear HB; have BK557 := n0_; have BK558 := n1_; have BK559 := n2_; have HB := n3_; have BK560 := n4_; have GW560 := n5_; have GE560 := n6_; have NB557_560 := n7_; have NB560_557 := n8_; have NB558_560 := n9_; have NB560_558 := n10_; have NB559_560 := n11_; have NB560_559 := n12_; clear n0_ n1_ n2_ n3_ n4_ n5_ n6_ n7_ n8_ n9_ n10_ n11_ n12_; clear hb hbox hg; have hnb10 := NB557_558.out; have hnc10 := NB558_557.out; have hnb11 := NB557_559.out; have hnc11 := NB559_557.out; have hnb12 := NB557_560.out; have hnc12 := NB560_557.out; have hcz13_0 : w9.cell? ⟨gb557, 0, none⟩ = some (.slice A0_0 l0_0.length c0_0) := (blk_cell BK557.out 0).trans rfl; have hcz13_1 : w9.cell? ⟨gb557, 1, none⟩ = some (.slice A0_1 l0_1.length c0_1) := (blk_cell BK557.out 1).trans rfl; have hfz13_0 := blk_frozen BK557.out 0; have hfz13_1 := blk_frozen BK557.out 1) | ((with_reducible refine gate_callee (f := 25) rfl ?_); refine goesL_ (some 10) rfl rfl Try.func25 zK rfl #[.agg #[.slice A0_0 l0_0.length c0_0, .slice A0_1 l0_1.length c0_1]] rfl zM ?_; (with_reducible refine (table_Valid.calls k _ _ l0_0 _ _ l0_1 t561 _ ?side1 ?side2 ?side3 ?side4 A4.out).mono ?_); (case side1 => repeat (first | exact (Kd.C_below HR0_0.out HB.out) | (with_reducible refine Kd.C_alloc ?_ _) | (with_reducible refine Kd.C_drewN ?_ _) | (with_reducible refine Kd.C_drew ?_))); (case side2 => exact HC0_0.out); (case side3 => repeat (first | exact (Kd.C_below HR0_1.out HB.out) | (with_reducible refine Kd.C_alloc ?_ _) | (with_reducible refine Kd.C_drewN ?_ _) | (with_reducible refine Kd.C_drew ?_))); (case side4 => exact HC0_1.out); rintro e w14 ⟨rfl, hb⟩; refine ⟨_, rfl, ?_⟩; have n0_ := Aside0.mk (blk_below (g := gb557) (o := .cells #[.slice A0_0 l0_0.length c0_0, .slice A0_1 l0_1.length c0_1] 29 (0, 0)) (zk BK557) hb); have n1_ := Aside0.mk (blk_below (g := gb558) (o := .cells #[.int .i64 a1] 3 (0, 0)) (zk BK558) hb); have n2_ := Aside0.mk (blk_below (g := gb559) (o := .cells #[.int .i64 a2] 3 (0, 0)) (zk BK559) hb); have n3_ := Aside0.mk (blk_below (g := gb560) (o := .cells #[.slice none 0 0, .slice none 0 0] 29 (0, 0)) (zk BK560) hb); have n4_ := Aside0.mk (below_step zB hb); clear BK557; clear BK558; clear BK559; clear BK560; clear HB; have BK557 := n0_; have BK558 := n1_; have BK559 := n2_; have BK560 := n3_; have HB := n4_; clear n0_ n1_ n2_ n3_ n4_; (try clear hb); (try clear hb2); (try clear hk); (try clear hi)))
 (try simp only [Act.put, List.setIfInBounds_toArray, List.set_cons_zero, List.set_cons_succ])
 have H := HC5.out
 clear HC5
 by_cases c15 : t561 = 0
 ·rw [if_pos c15] at H
  have c15b0 : (t561 == 0) = true := beq_iff_eq.mpr c15
  have c15b1 : (t561 != 0) = false := bne_eq_false_iff_eq.mpr c15
  clear c15
  (first | rw [c15b0] | (simp only [i64_w, i32_w]; rw [c15b0]) | skip)
  (try rw [c15b1])
  have HC16 := Aside0.mk H
  clear H
  go_upto_region 4 with (fail)
  go_cut [20] (fun v20 wc => ∃ (kq : Nat) (x20_15 : Bool), v20 = .bool x20_15 ∧ Aside0 (table_Restrict.j0 kq x20_15 l0_0 l0_1 a1 a2 = some (r1, r2, r3)) ∧ Aside0 (kq ≤ k) ∧ Aside0 (wc.heap[gb557]? = some (.cells #[(.slice A0_0 l0_0.length c0_0), (.slice A0_1 l0_1.length c0_1)] 29 (0, 0))) ∧ Aside0 (wc.heap[gb558]? = some (.cells #[.int .i64 a1] 3 (0, 0))) ∧ Aside0 (wc.heap[gb559]? = some (.cells #[.int .i64 a2] 3 (0, 0))) ∧ Aside0 (wc.heap[gb560]? = some (.cells #[(.slice none 0 0), (.slice none 0 0)] 29 (0, 0))) ∧ Aside0 (Below w.heap.size w wc))
  case first =>
   have H := HC16.out
   clear HC16
   by_cases c17 : a2 = 0
   ·rw [if_pos c17] at H
    have c17b0 : (a2 == 0) = true := beq_iff_eq.mpr c17
    have c17b1 : (a2 != 0) = false := bne_eq_false_iff_eq.mpr c17
    clear c17
    (first | rw [c17b0] | (simp only [i64_w, i32_w]; rw [c17b0]) | skip)
    (try rw [c17b1])
    have H' := Aside0.mk H
    clear H
    have hnb18 := NB559_557.out
    have hnc18 := NB557_559.out
    have hnb19 := NB559_558.out
    have hnc19 := NB558_559.out
    have hnb20 := NB559_560.out
    have hnc20 := NB560_559.out
    have hcz21_0 : w14.cell? ⟨gb559, 0, none⟩ = some (.int .i64 a2) := (blk_cell BK559.out 0).trans rfl
    have hfz21_0 := blk_frozen BK559.out 0
    go_wp2
    go_meet
    case rel => exact ⟨_, (false), zT, H', ⟨by first | omega | exact Nat.le_refl _⟩, ⟨by (with_reducible repeat (first | refine blk_drewN ?_ _ | refine blk_drew ?_ | refine blk_alloc ?_ _)); exact BK557.out⟩, ⟨by (with_reducible repeat (first | refine blk_drewN ?_ _ | refine blk_drew ?_ | refine blk_alloc ?_ _)); exact BK558.out⟩, ⟨by (with_reducible repeat (first | refine blk_drewN ?_ _ | refine blk_drew ?_ | refine blk_alloc ?_ _)); exact BK559.out⟩, ⟨by (with_reducible repeat (first | refine blk_drewN ?_ _ | refine blk_drew ?_ | refine blk_alloc ?_ _)); exact BK560.out⟩, ⟨by repeat (first | (with_reducible first | exact HB.out | apply below_alloc | apply pw_below_drewN | apply below_drew1 | refine below_set ?_ GE557.out | refine below_set ?_ GE558.out | refine below_set ?_ GE559.out | refine below_set ?_ GE560.out) | exact HB.out)⟩⟩
   ·rw [if_neg c17] at H
    have c17b0 : (a2 == 0) = false := beq_eq_false_iff_ne.mpr c17
    have c17b1 : (a2 != 0) = true := bne_iff_ne.mpr c17
    (first | rw [c17b0] | (simp only [i64_w, i32_w]; rw [c17b0]) | skip)
    (try rw [c17b1])
    have H' := Aside0.mk H
    clear H
    have hnb22 := NB559_557.out
    have hnc22 := NB557_559.out
    have hnb23 := NB559_558.out
    have hnc23 := NB558_559.out
    have hnb24 := NB559_560.out
    have hnc24 := NB560_559.out
    have hcz25_0 : w14.cell? ⟨gb559, 0, none⟩ = some (.int .i64 a2) := (blk_cell BK559.out 0).trans rfl
    have hfz25_0 := blk_frozen BK559.out 0
    go_wp2
    go_meet
    case rel => exact ⟨_, ((a2 != 1)), zT, H', ⟨by first | omega | exact Nat.le_refl _⟩, ⟨by (with_reducible repeat (first | refine blk_drewN ?_ _ | refine blk_drew ?_ | refine blk_alloc ?_ _)); exact BK557.out⟩, ⟨by (with_reducible repeat (first | refine blk_drewN ?_ _ | refine blk_drew ?_ | refine blk_alloc ?_ _)); exact BK558.out⟩, ⟨by (with_reducible repeat (first | refine blk_drewN ?_ _ | refine blk_drew ?_ | refine blk_alloc ?_ _)); exact BK559.out⟩, ⟨by (with_reducible repeat (first | refine blk_drewN ?_ _ | refine blk_drew ?_ | refine blk_alloc ?_ _)); exact BK560.out⟩, ⟨by repeat (first | (with_reducible first | exact HB.out | apply below_alloc | apply pw_below_drewN | apply below_drew1 | refine below_set ?_ GE557.out | refine below_set ?_ GE558.out | refine below_set ?_ GE559.out | refine below_set ?_ GE560.out) | exact HB.out)⟩⟩
  case rest =>
   clear HC16
   try clear c15
   try clear c15b0
   try clear c15b1
   try clear hcz13_0
   try clear hcz13_1
   try clear hfz13_0
   try clear hfz13_1
   obtain ⟨kq, x20_15, rfl, HA, HJ15, BK557, BK558, BK559, BK560, HB⟩ := hcut
   cases kq with
   | zero => exact absurd HA.out (by simp [table_Restrict.j0])
   | succ kj15 =>
    have H := HA.out
    clear HA
    simp only [table_Restrict.j0] at H
    by_cases c26 : x20_15 = true
    ·subst c26
     have H1 : (some (([] : List Int), ([] : List Int), 6)) = some (r1, r2, r3) := by rw [if_pos rfl] at H; exact H
     clear H
     have H := H1
     clear H1
     simp only [Option.some.injEq, Prod.mk.injEq] at H
     obtain ⟨rfl, rfl, rfl⟩ := H
     have hnb27 := NB560_557.out
     have hnc27 := NB557_560.out
     have hnb28 := NB560_558.out
     have hnc28 := NB558_560.out
     have hnb29 := NB560_559.out
     have hnc29 := NB559_560.out
     have hcz30_0 : wc.cell? ⟨gb560, 0, none⟩ = some (.slice none 0 0) := (blk_cell BK560.out 0).trans rfl
     have hcz30_1 : wc.cell? ⟨gb560, 1, none⟩ = some (.slice none 0 0) := (blk_cell BK560.out 1).trans rfl
     have hfz30_0 := blk_frozen BK560.out 0
     have hfz30_1 := blk_frozen BK560.out 1
     go_wp2
     refine bodyPost_ret (results_ct rfl _ _ gb560 29 #[.slice none 0 0, .slice none 0 0] (0, 0) _ rfl (by (with_reducible repeat (first | refine blk_drewN ?_ _ | refine blk_drew ?_ | refine blk_alloc ?_ _)); refine blk_put (cs := #[.slice none 0 0, .slice none 0 0]) ?_ 1 _ rfl; (with_reducible repeat (first | refine blk_drewN ?_ _ | refine blk_drew ?_ | refine blk_alloc ?_ _)); refine blk_put (cs := #[.slice none 0 0, .slice none 0 0]) ?_ 0 _ rfl; (with_reducible repeat (first | refine blk_drewN ?_ _ | refine blk_drew ?_ | refine blk_alloc ?_ _)); exact BK560.out) Try.underlying29 rfl zK) rfl ?_
     exact ⟨_, _, by first | rfl | (simp [errW_none, errW_some] <;> rfl) | (simp [*, errW_none, errW_some] <;> rfl), by first | exact Kd.R_nil _ _ _ _ _ | exact Kd.N_nil _ _ _ _ _ | exact Kd.V_nil _ _ _ _ _ | exact Kd.Q_nil _ _ _ _ _ | exact Kd.S_nil _ _ _ _ _, by first | exact Kd.R_nil _ _ _ _ _ | exact Kd.N_nil _ _ _ _ _ | exact Kd.V_nil _ _ _ _ _ | exact Kd.Q_nil _ _ _ _ _ | exact Kd.S_nil _ _ _ _ _, by repeat (first | (with_reducible first | exact HB.out | apply below_alloc | apply pw_below_drewN | apply below_drew1 | refine below_set ?_ GE557.out | refine below_set ?_ GE558.out | refine below_set ?_ GE559.out | refine below_set ?_ GE560.out) | exact HB.out)⟩
    ·replace c26 := Bool.eq_false_iff.mpr c26
     subst c26
     have H1 : ((slices_Contains_int_int.f kj15 l0_0 a1).bind fun t562 => (if t562 = true then ((table_without.f l0_0 a1).bind fun t563 => ((table_over_table_Restrict_1.f kj15 t563 l0_0 l0_1 a2 a1).bind fun bt566 => (some (bt566.1, bt566.2, 0)))) else (some (([] : List Int), ([] : List Int), 4)))) = some (r1, r2, r3) := by rw [if_neg (show ¬ (false = true) by decide)] at H; exact H
     clear H
     have H := H1
     clear H1
     replace H := Option.bind_eq_some_iff.mp H
     obtain ⟨t562, A310, H⟩ := H
     replace H : (if t562 = true then ((table_without.f l0_0 a1).bind fun t563 => ((table_over_table_Restrict_1.f kj15 t563 l0_0 l0_1 a2 a1).bind fun bt566 => (some (bt566.1, bt566.2, 0)))) else (some (([] : List Int), ([] : List Int), 4))) = some (r1, r2, r3) := H
     have A31 := Aside0.mk A310
     clear A310
     have HC32 := Aside0.mk H
     clear H
     have hnb33 := NB557_558.out
     have hnc33 := NB558_557.out
     have hnb34 := NB557_559.out
     have hnc34 := NB559_557.out
     have hnb35 := NB557_560.out
     have hnc35 := NB560_557.out
     have hcz36_0 : wc.cell? ⟨gb557, 0, none⟩ = some (.slice A0_0 l0_0.length c0_0) := (blk_cell BK557.out 0).trans rfl
     have hcz36_1 : wc.cell? ⟨gb557, 1, none⟩ = some (.slice A0_1 l0_1.length c0_1) := (blk_cell BK557.out 1).trans rfl
     have hfz36_0 := blk_frozen BK557.out 0
     have hfz36_1 := blk_frozen BK557.out 1
     have hnb37 := NB558_559.out
     have hnc37 := NB559_558.out
     have hnb38 := NB558_560.out
     have hnc38 := NB560_558.out
     have hcz39_0 : wc.cell? ⟨gb558, 0, none⟩ = some (.int .i64 a1) := (blk_cell BK558.out 0).trans rfl
     have hfz39_0 := blk_frozen BK558.out 0
     go_upto_if 26 with (first | ((with_reducible refine gate_callee (f := 38) rfl ?_); refine goesL_ (some 25) rfl rfl Try.func38 zK rfl #[.slice A0_0 l0_0.length c0_0, .int .i64 a1] rfl zM ?_; (with_reducible refine (slices_Contains_int_int.calls kj15 _ _ l0_0 a1 t562 _ ?side1 ?side2 A31.out).mono ?_); (case side1 => repeat (first | exact (Kd.C_below HR0_0.out HB.out) | (with_reducible refine Kd.C_alloc ?_ _) | (with_reducible refine Kd.C_drewN ?_ _) | (with_reducible refine Kd.C_drew ?_))); (case side2 => exact HC0_0.out); rintro e w' ⟨rfl, ⟨nd, rfl⟩⟩; refine ⟨_, rfl, ?_⟩))
     (try simp only [Act.put, List.setIfInBounds_toArray, List.set_cons_zero, List.set_cons_succ])
     have H := HC32.out
     clear HC32
     by_cases c40 : t562 = true
     ·subst c40
      have H1 : ((table_without.f l0_0 a1).bind fun t563 => ((table_over_table_Restrict_1.f kj15 t563 l0_0 l0_1 a2 a1).bind fun bt566 => (some (bt566.1, bt566.2, 0)))) = some (r1, r2, r3) := by rw [if_pos rfl] at H; exact H
      clear H
      have H := H1
      clear H1
      replace H := Option.bind_eq_some_iff.mp H
      obtain ⟨t563, A410, H⟩ := H
      replace H : ((table_over_table_Restrict_1.f kj15 t563 l0_0 l0_1 a2 a1).bind fun bt566 => (some (bt566.1, bt566.2, 0))) = some (r1, r2, r3) := H
      have A41 := Aside0.mk A410
      clear A410
      replace H := Option.bind_eq_some_iff.mp H
      obtain ⟨⟨t566, t569⟩, A420, H⟩ := H
      replace H : (some (t566, t569, 0)) = some (r1, r2, r3) := H
      have A42 := Aside0.mk A420
      clear A420
      simp only [Option.some.injEq, Prod.mk.injEq] at H
      obtain ⟨rfl, rfl, rfl⟩ := H
      have hnb43 := NB557_558.out
      have hnc43 := NB558_557.out
      have hnb44 := NB557_559.out
      have hnc44 := NB559_557.out
      have hnb45 := NB557_560.out
      have hnc45 := NB560_557.out
      have hcz46_0 : wc.cell? ⟨gb557, 0, none⟩ = some (.slice A0_0 l0_0.length c0_0) := (blk_cell BK557.out 0).trans rfl
      have hcz46_1 : wc.cell? ⟨gb557, 1, none⟩ = some (.slice A0_1 l0_1.length c0_1) := (blk_cell BK557.out 1).trans rfl
      have hfz46_0 := blk_frozen BK557.out 0
      have hfz46_1 := blk_frozen BK557.out 1
      have hnb47 := NB558_559.out
      have hnc47 := NB559_558.out
      have hnb48 := NB558_560.out
      have hnc48 := NB560_558.out
      have hcz49_0 : wc.cell? ⟨gb558, 0, none⟩ = some (.int .i64 a1) := (blk_cell BK558.out 0).trans rfl
      have hfz49_0 := blk_frozen BK558.out 0
      go_wp2_with (first | ((with_reducible refine gate_callee (f := 60) rfl ?_); refine goesL_ (some 31) rfl rfl Try.func60 zK rfl #[.slice A0_0 l0_0.length c0_0, .int .i64 a1] rfl zM ?_; (with_reducible refine (table_without.calls _ _ l0_0 a1 t563 _ ?side1 ?side2 A41.out).mono ?_); (case side1 => repeat (first | exact (Kd.C_below HR0_0.out HB.out) | (with_reducible refine Kd.C_alloc ?_ _) | (with_reducible refine Kd.C_drewN ?_ _) | (with_reducible refine Kd.C_drew ?_))); (case side2 => exact HC0_0.out); rintro e w50 ⟨v564, rfl, ho0, hb⟩; refine ⟨_, rfl, ?_⟩; have n0_ := Aside0.mk (Kd.R_lower (Kd.R_newB (Kd.R_newB ho0 (g := gb558) (o := .cells #[.int .i64 a1] 3 (0, 0)) (zk BK558)) (g := gb559) (o := .cells #[.int .i64 a2] 3 (0, 0)) (zk BK559)) (below_size zB)); have n1_ := Aside0.mk (blk_below (g := gb557) (o := .cells #[.slice A0_0 l0_0.length c0_0, .slice A0_1 l0_1.length c0_1] 29 (0, 0)) (zk BK557) hb); have n2_ := Aside0.mk (blk_below (g := gb558) (o := .cells #[.int .i64 a1] 3 (0, 0)) (zk BK558) hb); have n3_ := Aside0.mk (blk_below (g := gb559) (o := .cells #[.int .i64 a2] 3 (0, 0)) (zk BK559) hb); have n4_ := Aside0.mk (blk_below (g := gb560) (o := .cells #[.slice none 0 0, .slice none 0 0] 29 (0, 0)) (zk BK560) hb); have n5_ := Aside0.mk (below_step zB hb); clear BK557; clear BK558; clear BK559; clear BK560; clear HB; have HO565 := n0_; have BK557 := n1_; have BK558 := n2_; have BK559 := n3_; have BK560 := n4_; have HB := n5_; clear n0_ n1_ n2_ n3_ n4_ n5_; (try clear hb); (try clear hb2); (try clear hk); (try clear hi); (try clear ho0); obtain ⟨Ao51, co51, eo51⟩ := Kd.R_slice HO565.out; subst eo51) | ((with_reducible refine gate_callee (f := 59) rfl ?_); refine goesL_ (some 33) rfl rfl Try.func59 zK rfl #[.slice Ao51 t563.length co51, .func (.func 61) #[] #[.pointer (some ⟨gb557, 0, none⟩), .pointer (some ⟨gb559, 0, none⟩), .pointer (some ⟨gb558, 0, none⟩)]] rfl zM ?_; (with_reducible refine (table_over_table_Restrict_1.calls kj15 _ _ t563 gb557 gb559 gb558 A0_0 c0_0 l0_0 A0_1 c0_1 l0_1 a2 a1 t566 t569 _ ?side1 ?side2 ?side3 ?side4 ?side5 ?side6 ?side7 ?side8 ?side9 A42.out).mono ?_); (case side1 => repeat (first | exact (Kd.R_reads' HO565.out).2.2 | (with_reducible refine Kd.C_alloc ?_ _) | (with_reducible refine Kd.C_drewN ?_ _) | (with_reducible refine Kd.C_drew ?_))); (case side2 => exact (Kd.R_reads' HO565.out).2.1); (case side3 => repeat (first | exact (Kd.C_below HR0_0.out HB.out) | (with_reducible refine Kd.C_alloc ?_ _) | (with_reducible refine Kd.C_drewN ?_ _) | (with_reducible refine Kd.C_drew ?_))); (case side4 => exact HC0_0.out); (case side5 => repeat (first | exact (Kd.C_below HR0_1.out HB.out) | (with_reducible refine Kd.C_alloc ?_ _) | (with_reducible refine Kd.C_drewN ?_ _) | (with_reducible refine Kd.C_drew ?_))); (case side6 => exact HC0_1.out); (case side7 => (with_reducible repeat (first | refine blk_drewN ?_ _ | refine blk_drew ?_ | refine blk_alloc ?_ _)); exact BK557.out); (case side8 => (with_reducible repeat (first | refine blk_drewN ?_ _ | refine blk_drew ?_ | refine blk_alloc ?_ _)); exact BK559.out); (case side9 => (with_reducible repeat (first | refine blk_drewN ?_ _ | refine blk_drew ?_ | refine blk_alloc ?_ _)); exact BK558.out); rintro e w52 ⟨v567, v570, rfl, ho0, ho1, hb⟩; refine ⟨_, rfl, ?_⟩; have n0_ := Aside0.mk (Kd.R_mono (Kd.R_told (Kd.R_told (Kd.R_old (zR HO565) hb) (Kd.R_base ho0)) (Kd.R_base ho1)) (fun _ h_ => h_.1)); have n1_ := Aside0.mk (Kd.R_lower (Kd.R_newB (Kd.R_newB (Kd.R_new' ho0 (Kd.R_lt (zR HO565))) (g := gb558) (o := .cells #[.int .i64 a1] 3 (0, 0)) (zk BK558)) (g := gb559) (o := .cells #[.int .i64 a2] 3 (0, 0)) (zk BK559)) (below_size zB)); have n2_ := Aside0.mk (Kd.R_lower (Kd.R_newB (Kd.R_newB (Kd.R_new' ho1 (Kd.R_lt (zR HO565))) (g := gb558) (o := .cells #[.int .i64 a1] 3 (0, 0)) (zk BK558)) (g := gb559) (o := .cells #[.int .i64 a2] 3 (0, 0)) (zk BK559)) (below_size zB)); have n3_ := Aside0.mk (blk_below (g := gb557) (o := .cells #[.slice A0_0 l0_0.length c0_0, .slice A0_1 l0_1.length c0_1] 29 (0, 0)) (zk BK557) hb); have n4_ := Aside0.mk (blk_below (g := gb558) (o := .cells #[.int .i64 a1] 3 (0, 0)) (zk BK558) hb); have n5_ := Aside0.mk (blk_below (g := gb559) (o := .cells #[.int .i64 a2] 3 (0, 0)) (zk BK559) hb); have n6_ := Aside0.mk (blk_below (g := gb560) (o := .cells #[.slice none 0 0, .slice none 0 0] 29 (0, 0)) (zk BK560) hb); have n7_ := Aside0.mk (below_step zB hb); clear HO565; clear BK557; clear BK558; clear BK559; clear BK560; clear HB; have HO565 := n0_; have HO568 := n1_; have HO571 := n2_; have BK557 := n3_; have BK558 := n4_; have BK559 := n5_; have BK560 := n6_; have HB := n7_; clear n0_ n1_ n2_ n3_ n4_ n5_ n6_ n7_; (try clear hb); (try clear hb2); (try clear hk); (try clear hi); (try clear ho0); (try clear ho1); obtain ⟨Ao53, co53, eo53⟩ := Kd.R_slice HO568.out; subst eo53; have hnb54 := NB560_559.out; have hnc54 := NB559_560.out; have hcz55_0 : w52.cell? ⟨gb560, 0, none⟩ = some (.slice none 0 0) := (blk_cell BK560.out 0).trans rfl; have hcz55_1 : w52.cell? ⟨gb560, 1, none⟩ = some (.slice none 0 0) := (blk_cell BK560.out 1).trans rfl; have hfz55_0 := blk_frozen BK560.out 0; have hfz55_1 := blk_frozen BK560.out 1; obtain ⟨Ao56, co56, eo56⟩ := Kd.R_slice HO571.out; subst eo56))
      refine bodyPost_ret (results_ct rfl _ _ gb560 29 #[.slice Ao53 t566.length co53, .slice Ao56 t569.length co56] (0, 0) _ rfl (by (with_reducible repeat (first | refine blk_drewN ?_ _ | refine blk_drew ?_ | refine blk_alloc ?_ _)); refine blk_put (cs := #[.slice Ao53 t566.length co53, .slice none 0 0]) ?_ 1 _ rfl; (with_reducible repeat (first | refine blk_drewN ?_ _ | refine blk_drew ?_ | refine blk_alloc ?_ _)); refine blk_put (cs := #[.slice none 0 0, .slice none 0 0]) ?_ 0 _ rfl; (with_reducible repeat (first | refine blk_drewN ?_ _ | refine blk_drew ?_ | refine blk_alloc ?_ _)); exact BK560.out) Try.underlying29 rfl zK) rfl ?_
      exact ⟨_, _, by first | rfl | (simp [errW_none, errW_some] <;> rfl) | (simp [*, errW_none, errW_some] <;> rfl), by (with_reducible repeat (first | apply Kd.R_alloc | apply Kd.R_drewN | apply Kd.R_drew)); exact Kd.R_mono (Kd.R_far (p := ⟨gb560, 1, none⟩) (Kd.R_far (p := ⟨gb560, 0, none⟩) (Kd.R_types HO568.out BK560.out (by decide)) (fun _ hk => hk.2) (.slice Ao53 t566.length co53)) (fun _ hk => hk.2) (.slice Ao56 t569.length co56)) (fun _ hk => hk.1.1.1.1), by (with_reducible repeat (first | apply Kd.R_alloc | apply Kd.R_drewN | apply Kd.R_drew)); exact Kd.R_mono (Kd.R_far (p := ⟨gb560, 1, none⟩) (Kd.R_far (p := ⟨gb560, 0, none⟩) (Kd.R_types HO571.out BK560.out (by decide)) (fun _ hk => hk.2) (.slice Ao53 t566.length co53)) (fun _ hk => hk.2) (.slice Ao56 t569.length co56)) (fun _ hk => hk.1.1.1.1), by repeat (first | (with_reducible first | exact HB.out | apply below_alloc | apply pw_below_drewN | apply below_drew1 | refine below_set ?_ GE557.out | refine below_set ?_ GE558.out | refine below_set ?_ GE559.out | refine below_set ?_ GE560.out) | exact HB.out)⟩
     ·replace c40 := Bool.eq_false_iff.mpr c40
      subst c40
      have H1 : (some (([] : List Int), ([] : List Int), 4)) = some (r1, r2, r3) := by rw [if_neg (show ¬ (false = true) by decide)] at H; exact H
      clear H
      have H := H1
      clear H1
      simp only [Option.some.injEq, Prod.mk.injEq] at H
      obtain ⟨rfl, rfl, rfl⟩ := H
      have hnb57 := NB560_557.out
      have hnc57 := NB557_560.out
      have hnb58 := NB560_558.out
      have hnc58 := NB558_560.out
      have hnb59 := NB560_559.out
      have hnc59 := NB559_560.out
      have hcz60_0 : wc.cell? ⟨gb560, 0, none⟩ = some (.slice none 0 0) := (blk_cell BK560.out 0).trans rfl
      have hcz60_1 : wc.cell? ⟨gb560, 1, none⟩ = some (.slice none 0 0) := (blk_cell BK560.out 1).trans rfl
      have hfz60_0 := blk_frozen BK560.out 0
      have hfz60_1 := blk_frozen BK560.out 1
      go_wp2
      refine bodyPost_ret (results_ct rfl _ _ gb560 29 #[.slice none 0 0, .slice none 0 0] (0, 0) _ rfl (by (with_reducible repeat (first | refine blk_drewN ?_ _ | refine blk_drew ?_ | refine blk_alloc ?_ _)); refine blk_put (cs := #[.slice none 0 0, .slice none 0 0]) ?_ 1 _ rfl; (with_reducible repeat (first | refine blk_drewN ?_ _ | refine blk_drew ?_ | refine blk_alloc ?_ _)); refine blk_put (cs := #[.slice none 0 0, .slice none 0 0]) ?_ 0 _ rfl; (with_reducible repeat (first | refine blk_drewN ?_ _ | refine blk_drew ?_ | refine blk_alloc ?_ _)); exact BK560.out) Try.underlying29 rfl zK) rfl ?_
      exact ⟨_, _, by first | rfl | (simp [errW_none, errW_some] <;> rfl) | (simp [*, errW_none, errW_some] <;> rfl), by first | exact Kd.R_nil _ _ _ _ _ | exact Kd.N_nil _ _ _ _ _ | exact Kd.V_nil _ _ _ _ _ | exact Kd.Q_nil _ _ _ _ _ | exact Kd.S_nil _ _ _ _ _, by first | exact Kd.R_nil _ _ _ _ _ | exact Kd.N_nil _ _ _ _ _ | exact Kd.V_nil _ _ _ _ _ | exact Kd.Q_nil _ _ _ _ _ | exact Kd.S_nil _ _ _ _ _, by repeat (first | (with_reducible first | exact HB.out | apply below_alloc | apply pw_below_drewN | apply below_drew1 | refine below_set ?_ GE557.out | refine below_set ?_ GE558.out | refine below_set ?_ GE559.out | refine below_set ?_ GE560.out) | exact HB.out)⟩
 ·rw [if_neg c15] at H
  have c15b0 : (t561 == 0) = false := beq_eq_false_iff_ne.mpr c15
  have c15b1 : (t561 != 0) = true := bne_iff_ne.mpr c15
  (first | rw [c15b0] | (simp only [i64_w, i32_w]; rw [c15b0]) | skip)
  (try rw [c15b1])
  simp only [Option.some.injEq, Prod.mk.injEq] at H
  obtain ⟨rfl, rfl, rfl⟩ := H
  have hnb61 := NB560_557.out
  have hnc61 := NB557_560.out
  have hnb62 := NB560_558.out
  have hnc62 := NB558_560.out
  have hnb63 := NB560_559.out
  have hnc63 := NB559_560.out
  have hcz64_0 : w14.cell? ⟨gb560, 0, none⟩ = some (.slice none 0 0) := (blk_cell BK560.out 0).trans rfl
  have hcz64_1 : w14.cell? ⟨gb560, 1, none⟩ = some (.slice none 0 0) := (blk_cell BK560.out 1).trans rfl
  have hfz64_0 := blk_frozen BK560.out 0
  have hfz64_1 := blk_frozen BK560.out 1
  go_wp2
  refine bodyPost_ret (results_ct rfl _ _ gb560 29 #[.slice none 0 0, .slice none 0 0] (0, 0) _ rfl (by (with_reducible repeat (first | refine blk_drewN ?_ _ | refine blk_drew ?_ | refine blk_alloc ?_ _)); refine blk_put (cs := #[.slice none 0 0, .slice none 0 0]) ?_ 1 _ rfl; (with_reducible repeat (first | refine blk_drewN ?_ _ | refine blk_drew ?_ | refine blk_alloc ?_ _)); refine blk_put (cs := #[.slice none 0 0, .slice none 0 0]) ?_ 0 _ rfl; (with_reducible repeat (first | refine blk_drewN ?_ _ | refine blk_drew ?_ | refine blk_alloc ?_ _)); exact BK560.out) Try.underlying29 rfl zK) rfl ?_
  exact ⟨_, _, by first | rfl | (simp [errW_none, errW_some] <;> rfl) | (simp [*, errW_none, errW_some] <;> rfl), by first | exact Kd.R_nil _ _ _ _ _ | exact Kd.N_nil _ _ _ _ _ | exact Kd.V_nil _ _ _ _ _ | exact Kd.Q_nil _ _ _ _ _ | exact Kd.S_nil _ _ _ _ _, by first | exact Kd.R_nil _ _ _ _ _ | exact Kd.N_nil _ _ _ _ _ | exact Kd.V_nil _ _ _ _ _ | exact Kd.Q_nil _ _ _ _ _ | exact Kd.S_nil _ _ _ _ _, by repeat (first | (with_reducible first | exact HB.out | apply below_alloc | apply pw_below_drewN | apply below_drew1 | refine below_set ?_ GE557.out | refine below_set ?_ GE558.out | refine below_set ?_ GE559.out | refine below_set ?_ GE560.out) | exact HB.out)⟩
/-! ### ancepsref38_without: function 62 -/
def ancepsref38_without.l0 : Nat → List Int → Int → List Int → Int → Option (List Int)
 | 0, _, _, _, _ => none
 | k + 1, x0, x1, x5, x6 => if x6 < (x0.length : Int) then (if 0 ≤ x6 then (if (rd x0 x6) = x1 then (ancepsref38_without.l0 k x0 x1 x5 (wrap64 (x6 + 1))) else (if x5.length < 17592186044416 then (ancepsref38_without.l0 k x0 x1 (x5 ++ [rd x0 x6]) (wrap64 (x6 + 1))) else (none))) else (none)) else (some x5)
def ancepsref38_without.f (k : Nat) (l0 : List Int) (a1 : Int) : Option (List Int) := ancepsref38_without.l0 k l0 a1 ([] : List Int) 0
theorem ancepsref38_without.mono_l : ∀ k, (∀ y0 y1 y2 y3, LeO (ancepsref38_without.l0 k y0 y1 y2 y3) (ancepsref38_without.l0 (k + 1) y0 y1 y2 y3))
 | 0 => fun _ _ _ _ r h => by simp [ancepsref38_without.l0] at h
 | k + 1 => by
  have ih0 := ancepsref38_without.mono_l k
  ·intro y0 y1 y2 y3
   unfold ancepsref38_without.l0
   repeat' first
   | (with_reducible exact ih0 _ _ _ _)
   | (with_reducible exact LeO.refl _)
   | (with_reducible exact LeO.none _)
   | (with_reducible refine LeO.ite ?_ ?_)
   | (with_reducible refine LeO.bind ?_ (fun _ => ?_))
   | exact ih0 _ _ _ _
   | exact LeO.none _
   | refine LeO.ite ?_ ?_
   | refine LeO.bind ?_ (fun _ => ?_)
theorem ancepsref38_without.mono : ∀ a0 a1 k, LeO (ancepsref38_without.f k a0 a1) (ancepsref38_without.f (k + 1) a0 a1) := by
 intro a0 a1 k
 have ih0 := ancepsref38_without.mono_l k
 unfold ancepsref38_without.f
 repeat' first
   | (with_reducible exact ih0 _ _ _ _)
   | (with_reducible exact LeO.refl _)
   | (with_reducible exact LeO.none _)
   | (with_reducible refine LeO.ite ?_ ?_)
   | (with_reducible refine LeO.bind ?_ (fun _ => ?_))
   | exact ih0 _ _ _ _
   | exact LeO.none _
   | refine LeO.ite ?_ ?_
   | refine LeO.bind ?_ (fun _ => ?_)
set_option maxHeartbeats 8000000 in
set_option maxRecDepth 100000 in
theorem ancepsref38_without.calls (k : Nat) (A0 : Option Addr) (c0 : Nat) (l0 : List Int) (a1 : Int) (r : List Int) (w : World) (hr0 : Kd.C (Kd.int .i64) w A0 l0.length l0) (hc0 : l0.length ≤ c0) (h : ancepsref38_without.f k l0 a1 = some r) :
  Calls Try.prog 62 #[.slice A0 l0.length c0, .int .i64 a1] w fun e w' => ∃ v0_ : Value, e = .returned (v0_) ∧ Kd.R (Kd.int .i64) 3 w' w.heap.size (fun _ => True) v0_ r ∧ Below w.heap.size w w' := by
 have hu3 := Try.underlying3
 have HR0 := Aside0.mk hr0
 have HC0 := Aside0.mk hc0
 clear hr0 hc0
 have HB := Aside0.mk (Below.refl w.heap.size w)
 have H : (ancepsref38_without.l0 k l0 a1 ([] : List Int) 0) = some r := h
 clear h
 have H' := Aside0.mk H
 clear H
 go_enter Try.func62, Try.ntmps62
 go_wp2
 go_loopg [5, 6] k (fun kq v5 v6 w' => ∃ (x5_1 : List Int) (x6_1 : Int), v6 = .int .i64 x6_1 ∧ Aside0 (ancepsref38_without.l0 kq l0 a1 x5_1 x6_1 = some r) ∧ Aside0 (kq ≤ k) ∧ Aside0 (Kd.R (Kd.int .i64) 3 w' w.heap.size (fun _ => True) v5 x5_1) ∧ Aside0 (Below w.heap.size w w'))
 case atStart => exact ⟨(([] : List Int)), (0), zT, H', ⟨Nat.le_refl _⟩, ⟨by first | exact Kd.R_nil _ _ _ _ _ | exact Kd.N_nil _ _ _ _ _ | exact Kd.V_nil _ _ _ _ _ | exact Kd.Q_nil _ _ _ _ _ | exact Kd.S_nil _ _ _ _ _⟩, ⟨by repeat (first | (with_reducible first | exact HB.out | apply below_alloc | apply pw_below_drewN | apply below_drew1) | exact HB.out)⟩⟩
 case round =>
  clear H'
  obtain ⟨x5_1, x6_1, rfl, HA, HK1, HO_5, HB⟩ := hrel
  cases gk with
  | zero => exact absurd HA.out (by simp [ancepsref38_without.l0])
  | succ k1 =>
   have H := HA.out
   clear HA
   simp only [ancepsref38_without.l0] at H
   by_cases c3 : x6_1 < (l0.length : Int)
   ·rw [if_pos c3] at H
    have c3b0 : decide (x6_1 < (l0.length : Int)) = true := decide_eq_true c3
    clear c3
    by_cases c4 : 0 ≤ x6_1
    ·rw [if_pos c4] at H
     have c4b0 : decide (0 ≤ x6_1) = true := decide_eq_true c4
     clear c4
     by_cases c5 : (rd l0 x6_1) = a1
     ·rw [if_pos c5] at H
      have c5b0 : ((rd l0 x6_1) == a1) = true := beq_iff_eq.mpr c5
      have c5b1 : ((rd l0 x6_1) != a1) = false := bne_eq_false_iff_eq.mpr c5
      clear c5
      have H' := Aside0.mk H
      clear H
      have p572 : 0 ≤ (x6_1 : Int) := of_decide_eq_true zh
      have q572 : x6_1 < (l0.length : Int) := of_decide_eq_true zh
      obtain ⟨ad572, e572, hx572_0⟩ := Kd.at_int HR0.out x6_1 p572 q572
      cases e572
      replace hx572_0 := (HB.out.cell (World.block_lt_of_cell? w _ hx572_0)).trans hx572_0
      replace p572 := eq_true p572
      replace q572 := eq_true q572
      go_wp2
      go_roundg k1
      case measure => have := HK1.out; omega
      case rel => exact ⟨(x5_1), (wrap64 (x6_1 + 1)), zT, H', ⟨by have := HK1.out; omega⟩, ⟨by (with_reducible repeat (first | apply Kd.R_alloc | apply Kd.R_drewN | apply Kd.R_drew)); exact HO_5.out⟩, ⟨by repeat (first | (with_reducible first | exact HB.out | apply below_alloc | apply pw_below_drewN | apply below_drew1) | exact HB.out)⟩⟩
     ·rw [if_neg c5] at H
      have c5b0 : ((rd l0 x6_1) == a1) = false := beq_eq_false_iff_ne.mpr c5
      have c5b1 : ((rd l0 x6_1) != a1) = true := bne_iff_ne.mpr c5
      by_cases c6 : x5_1.length < 17592186044416
      ·rw [if_pos c6] at H
       have LMc6 := Aside0.mk c6
       clear c6
       obtain ⟨y574, hy574⟩ : ∃ y_ : List Int, y_ = (x5_1 ++ [rd l0 x6_1]) := ⟨_, rfl⟩
       replace H : (ancepsref38_without.l0 k1 l0 a1 y574 (wrap64 (x6_1 + 1))) = some r := by first | (rw [hy574]; with_reducible exact H) | (have H2_ := (Option.bind_some _ _).symm.trans H; rw [hy574]; with_reducible exact H2_) | (have H2_ := (Option.bind_some _ _).symm.trans H; with_reducible exact H2_) | with_reducible exact H | (rw [hy574]; exact H) | exact H
       have Ny574 := Aside0.mk hy574
       clear hy574
       have H' := Aside0.mk H
       clear H
       have p572 : 0 ≤ (x6_1 : Int) := of_decide_eq_true zh
       have q572 : x6_1 < (l0.length : Int) := of_decide_eq_true zh
       obtain ⟨ad572, e572, hx572_0⟩ := Kd.at_int HR0.out x6_1 p572 q572
       cases e572
       replace hx572_0 := (HB.out.cell (World.block_lt_of_cell? w _ hx572_0)).trans hx572_0
       replace p572 := eq_true p572
       replace q572 := eq_true q572
       have p573 : 0 ≤ (x6_1 : Int) := of_decide_eq_true zh
       have q573 : x6_1 < (l0.length : Int) := of_decide_eq_true zh
       obtain ⟨ad573, e573, hx573_0⟩ := Kd.at_int HR0.out x6_1 p573 q573
       obtain rfl : ad572 = ad573 := (by injection e573)
       replace hx573_0 := (HB.out.cell (World.block_lt_of_cell? w _ hx573_0)).trans hx573_0
       replace p573 := eq_true p573
       replace q573 := eq_true q573
       go_wp2_with (first | ((with_reducible refine gate_builtin (b := .append) (xs := #[.tmp 19, .tmp 24]) rfl ?_); at_builtin; refine Kd.R_append (Kd.int .i64) (w0 := w) w.heap.size rfl (.tmp 19) (.tmp 24) 27 3 (.int .i64 0) 8 rfl Try.underlying27 info3 rfl (by decide) (by omega) u5 x5_1 (rd l0 x6_1) [.int .i64 (rd l0 x6_1)] (fun _ => True) (fun _ => False) rfl rfl ?aP (fun _ hk => hk.elim) ?aF ?aO ?aB ?aS ?aL ?_; (case aP => exact rfl); (case aB => exact zB); (case aF => exact (fun _ _ => trivial)); (case aO => exact (zR HO_5)); (case aS => exact (below_size zB)); (case aL => have := LMc6.out; omega); intro v575 w7 ho hb hg hat; rw [← Ny574.out] at ho; have n0_ := Aside0.mk (hb); have n1_ := Aside0.mk (ho); clear HB; clear HO_5; have HB := n0_; have HO576 := n1_; clear n0_ n1_; clear ho hb hg hat))
       go_roundg k1
       case measure => have := HK1.out; omega
       case rel => exact ⟨(y574), (wrap64 (x6_1 + 1)), zT, H', ⟨by have := HK1.out; omega⟩, ⟨by (with_reducible repeat (first | apply Kd.R_alloc | apply Kd.R_drewN | apply Kd.R_drew)); exact HO576.out⟩, ⟨by repeat (first | (with_reducible first | exact HB.out | apply below_alloc | apply pw_below_drewN | apply below_drew1) | exact HB.out)⟩⟩
      ·rw [if_neg c6] at H
       exact absurd H (by simp)
    ·rw [if_neg c4] at H
     exact absurd H (by simp)
   ·rw [if_neg c3] at H
    have c3b0 : decide (x6_1 < (l0.length : Int)) = false := decide_eq_false c3
    clear c3
    obtain rfl := Option.some.inj H
    go_wp2
    go_ret
    exact ⟨_, by first | rfl | (simp [errW_none, errW_some] <;> rfl) | (simp [*, errW_none, errW_some] <;> rfl), by (with_reducible repeat (first | apply Kd.R_alloc | apply Kd.R_drewN | apply Kd.R_drew)); exact HO_5.out, by repeat (first | (with_reducible first | exact HB.out | apply below_alloc | apply pw_below_drewN | apply below_drew1) | exact HB.out)⟩
end Go.Proofs.Ythcfmdkhkikbcaa.T
