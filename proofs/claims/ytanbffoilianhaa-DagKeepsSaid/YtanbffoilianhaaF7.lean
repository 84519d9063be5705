-- Written by wip/tools/myprint.py, a program of this session's.
import Derived.Test.YtanbffoilianhaaF0
import Derived.Test.YtanbffoilianhaaF1
import Derived.Test.YtanbffoilianhaaF2
import Derived.Test.YtanbffoilianhaaF3
namespace Go.Proofs.Ytanbffoilianhaa.F
open Go.RowKit Go.Proofs.YtanbffoilianhaaW.PrintWords Go.Proofs.YtanbffoilianhaaW.PrintLast Go.Proofs.YtanbffoilianhaaW.PrintMore
attribute [local go_sem] max2_int min2_int max_two min_two max_three min_three max_four min_four   -- for this text's walks alone
set_option linter.unusedVariables false
set_option linter.unusedSimpArgs false
/-! ### dag_Trim: function 35 -/
mutual
def dag_Trim.l0 : Nat → List Bool → List Int → List Int → List Int → Int → Int → Int → List (S69) → Option (Int × (List (S69)) × List Int × Int)
 | 0, _, _, _, _, _, _, _, _ => none
 | k + 1, x6, x7, x8, x9, x35, x36, x318000, x318001 => if x36 < x35 then (if 0 ≤ x36 then (if x36 < (x9.length : Int) then ((some (x9.set (x36 : Int).toNat (-1) : List Int)).bind fun y330 => (if x36 < (x6.length : Int) then (if rdOf false x6 x36 = true then (if x36 < (x7.length : Int) then (if (rd x7 x36) > 0 then (if x8.length < 17592186044416 then (dag_Trim.l0 k x6 x7 (x8 ++ [x36]) (y330.set (x36 : Int).toNat (x8.length : Int)) x35 (wrap64 (x36 + 1)) x318000 x318001) else (none)) else (dag_Trim.l0 k x6 x7 x8 y330 x35 (wrap64 (x36 + 1)) x318000 x318001)) else (none)) else (dag_Trim.l0 k x6 x7 x8 y330 x35 (wrap64 (x36 + 1)) x318000 x318001)) else (none))) else (none)) else (none)) else (dag_Trim.l1 k x8 x9 x318001 (x318001.length : Int) 0 (x8.length : Int) ([] : List (S69)))
def dag_Trim.l1 : Nat → List Int → List Int → List (S69) → Int → Int → Int → List (S69) → Option (Int × (List (S69)) × List Int × Int)
 | 0, _, _, _, _, _, _, _ => none
 | k + 1, x8, x9, x67, x68, x69, x338000, x338001 => if x69 < x68 then (if 0 ≤ x69 then (if x69 < (x67.length : Int) then (if 0 ≤ ((rd_T69 x67 x69).f0) then (if ((rd_T69 x67 x69).f0) < (x9.length : Int) then (if 0 ≤ ((rd_T69 x67 x69).f1) then (if ((rd_T69 x67 x69).f1) < (x9.length : Int) then (if (rd x9 ((rd_T69 x67 x69).f0)) ≥ 0 then (if (rd x9 ((rd_T69 x67 x69).f1)) ≥ 0 then (if x338001.length < 5864062014805 then (dag_Trim.l1 k x8 x9 x67 x68 (wrap64 (x69 + 1)) x338000 (x338001 ++ [(⟨rd x9 ((rd_T69 x67 x69).f0), rd x9 ((rd_T69 x67 x69).f1), (rd_T69 x67 x69).f2⟩ : S69)])) else (none)) else (dag_Trim.l1 k x8 x9 x67 x68 (wrap64 (x69 + 1)) x338000 x338001)) else (dag_Trim.l1 k x8 x9 x67 x68 (wrap64 (x69 + 1)) x338000 x338001)) else (none)) else (none)) else (none)) else (none)) else (none)) else (none)) else (some (x338000, x338001, x8, 0))
end
def dag_Trim.f (k : Nat) (a0_0 : Int) (l0_1 : List (S69)) : Option (Int × (List (S69)) × List Int × Int) := (dag_Valid.f k a0_0 l0_1).bind fun t319 => (if t319 = 0 then ((dag_reached.f k a0_0 l0_1).bind fun t320 => ((dag_ways.f k a0_0 l0_1).bind fun t323 => (if 0 < (t323.length : Int) then (if (rd t323 0) = 0 then (some (0, ([] : List (S69)), ([] : List Int), 10)) else (if 0 ≤ a0_0 then (if (a0_0 : Int).toNat ≤ 35184372088832 then (dag_Trim.l0 k t320 t323 ([] : List Int) (List.replicate (a0_0 : Int).toNat 0) a0_0 0 a0_0 l0_1) else (none)) else (none))) else (none)))) else (some (0, ([] : List (S69)), ([] : List Int), t319)))
theorem dag_Trim.mono_l : ∀ k, (∀ y0 y1 y2 y3 y4 y5 y6 y7, LeO (dag_Trim.l0 k y0 y1 y2 y3 y4 y5 y6 y7) (dag_Trim.l0 (k + 1) y0 y1 y2 y3 y4 y5 y6 y7)) ∧ (∀ y0 y1 y2 y3 y4 y5 y6, LeO (dag_Trim.l1 k y0 y1 y2 y3 y4 y5 y6) (dag_Trim.l1 (k + 1) y0 y1 y2 y3 y4 y5 y6))
 | 0 => ⟨fun _ _ _ _ _ _ _ _ r h => by simp [dag_Trim.l0] at h, fun _ _ _ _ _ _ _ r h => by simp [dag_Trim.l1] at h⟩
 | k + 1 => by
  obtain ⟨ih0, ih1⟩ := dag_Trim.mono_l k
  refine ⟨?_, ?_⟩
  ·intro y0 y1 y2 y3 y4 y5 y6 y7
   unfold dag_Trim.l0
   repeat' first
   | (with_reducible exact ih0 _ _ _ _ _ _ _ _)
   | (with_reducible exact ih1 _ _ _ _ _ _ _)
   | (with_reducible exact dag_Valid.mono _ _ _)
   | (with_reducible exact dag_reached.mono _ _ _)
   | (with_reducible exact dag_ways.mono _ _ _)
   | (with_reducible exact LeO.refl _)
   | (with_reducible exact LeO.none _)
   | (with_reducible refine LeO.ite ?_ ?_)
   | (with_reducible refine LeO.bind ?_ (fun _ => ?_))
   | exact ih0 _ _ _ _ _ _ _ _
   | exact ih1 _ _ _ _ _ _ _
   | exact dag_Valid.mono _ _ _
   | exact dag_reached.mono _ _ _
   | exact dag_ways.mono _ _ _
   | exact LeO.none _
   | refine LeO.ite ?_ ?_
   | refine LeO.bind ?_ (fun _ => ?_)
  ·intro y0 y1 y2 y3 y4 y5 y6
   unfold dag_Trim.l1
   repeat' first
   | (with_reducible exact ih0 _ _ _ _ _ _ _ _)
   | (with_reducible exact ih1 _ _ _ _ _ _ _)
   | (with_reducible exact dag_Valid.mono _ _ _)
   | (with_reducible exact dag_reached.mono _ _ _)
   | (with_reducible exact dag_ways.mono _ _ _)
   | (with_reducible exact LeO.refl _)
   | (with_reducible exact LeO.none _)
   | (with_reducible refine LeO.ite ?_ ?_)
   | (with_reducible refine LeO.bind ?_ (fun _ => ?_))
   | exact ih0 _ _ _ _ _ _ _ _
   | exact ih1 _ _ _ _ _ _ _
   | exact dag_Valid.mono _ _ _
   | exact dag_reached.mono _ _ _
   | exact dag_ways.mono _ _ _
   | exact LeO.none _
   | refine LeO.ite ?_ ?_
   | refine LeO.bind ?_ (fun _ => ?_)
theorem dag_Trim.mono : ∀ a0 a1 k, LeO (dag_Trim.f k a0 a1) (dag_Trim.f (k + 1) a0 a1) := by
 intro a0 a1 k
 obtain ⟨ih0, ih1⟩ := dag_Trim.mono_l k
 unfold dag_Trim.f
 repeat' first
   | (with_reducible exact ih0 _ _ _ _ _ _ _ _)
   | (with_reducible exact ih1 _ _ _ _ _ _ _)
   | (with_reducible exact dag_Valid.mono _ _ _)
   | (with_reducible exact dag_reached.mono _ _ _)
   | (with_reducible exact dag_ways.mono _ _ _)
   | (with_reducible exact LeO.refl _)
   | (with_reducible exact LeO.none _)
   | (with_reducible refine LeO.ite ?_ ?_)
   | (with_reducible refine LeO.bind ?_ (fun _ => ?_))
   | exact ih0 _ _ _ _ _ _ _ _
   | exact ih1 _ _ _ _ _ _ _
   | exact dag_Valid.mono _ _ _
   | exact dag_reached.mono _ _ _
   | exact dag_ways.mono _ _ _
   | exact LeO.none _
   | refine LeO.ite ?_ ?_
   | refine LeO.bind ?_ (fun _ => ?_)
def dag_Trim.T21 : Bool × List (List Nat × List Nat) := (true, [([], []), ([], []), ([1], [1]), ([0, 2], [0, 2]), ([3], [3]), ([], []), ([], []), ([6], [6]), ([5, 7], [5, 7]), ([8], [8]), ([4, 0, 1, 2, 3, 4], [4]), ([9, 10, 0, 1, 2, 3, 4, 5, 6, 7, 8, 9, 10], [9])])
def dag_Trim.B21 : List Nat := [0, 0, 2, 7, 15, 0, 0, 64, 224, 480, 31, 2047]
theorem dag_Trim.tab21 : rtab .any (opsOf Try.f35 21) = dag_Trim.T21 := by kernel_rfl
theorem dag_Trim.bits21 : waitsOk dag_Trim.T21.2 dag_Trim.B21 = true := by kernel_rfl
set_option maxHeartbeats 8000000 in
set_option maxRecDepth 100000 in
theorem dag_Trim.calls (k : Nat) (a0_0 : Int) (A0_1 : Option Addr) (c0_1 : Nat) (l0_1 : List (S69)) (r1 : Int) (r2 : List (S69)) (r3 : List Int) (r4 : Int) (w : World) (hr0_1 : Kd.C k69 w A0_1 l0_1.length l0_1) (hc0_1 : l0_1.length ≤ c0_1) (h : dag_Trim.f k a0_0 l0_1 = some (r1, r2, r3, r4)) :
  Calls Try.prog 35 #[.agg #[.int .i64 a0_0, .slice A0_1 l0_1.length c0_1]] w fun e w' => ∃ v1_ v2_ : Value, e = .returned (.tuple #[.agg #[.int .i64 r1, v1_], v2_, .int .i64 r4]) ∧ Kd.R k69 69 w' w.heap.size (fun _ => True) v1_ r2 ∧ Kd.R (Kd.int .i64) 3 w' w.heap.size (fun _ => True) v2_ r3 ∧ Below w.heap.size w w' := by
 have hu24 := Try.underlying24
 have hu2 := Try.underlying2
 have hu3 := Try.underlying3
 have hu4 := Try.underlying4
 have hu22 := Try.underlying22
 have hu69 := Try.underlying69
 have HR0_1 := Aside0.mk hr0_1
 have HC0_1 := Aside0.mk hc0_1
 clear hr0_1 hc0_1
 have HB := Aside0.mk (Below.refl w.heap.size w)
 have H : ((dag_Valid.f k a0_0 l0_1).bind fun t319 => (if t319 = 0 then ((dag_reached.f k a0_0 l0_1).bind fun t320 => ((dag_ways.f k a0_0 l0_1).bind fun t323 => (if 0 < (t323.length : Int) then (if (rd t323 0) = 0 then (some (0, ([] : List (S69)), ([] : List Int), 10)) else (if 0 ≤ a0_0 then (if (a0_0 : Int).toNat ≤ 35184372088832 then (dag_Trim.l0 k t320 t323 ([] : List Int) (List.replicate (a0_0 : Int).toNat 0) a0_0 0 a0_0 l0_1) else (none)) else (none))) else (none)))) else (some (0, ([] : List (S69)), ([] : List Int), t319)))) = some (r1, r2, r3, r4) := h
 clear h
 replace H := Option.bind_eq_some_iff.mp H
 obtain ⟨t319, A20, H⟩ := H
 replace H : (if t319 = 0 then ((dag_reached.f k a0_0 l0_1).bind fun t320 => ((dag_ways.f k a0_0 l0_1).bind fun t323 => (if 0 < (t323.length : Int) then (if (rd t323 0) = 0 then (some (0, ([] : List (S69)), ([] : List Int), 10)) else (if 0 ≤ a0_0 then (if (a0_0 : Int).toNat ≤ 35184372088832 then (dag_Trim.l0 k t320 t323 ([] : List Int) (List.replicate (a0_0 : Int).toNat 0) a0_0 0 a0_0 l0_1) else (none)) else (none))) else (none)))) else (some (0, ([] : List (S69)), ([] : List Int), t319))) = some (r1, r2, r3, r4) := H
 have A2 := Aside0.mk A20
 clear A20
 have HC3 := Aside0.mk H
 clear H
 go_enter Try.func35, Try.ntmps35
 go_upto_if 19 with (first | ((with_reducible refine gate_dst (N := 1) rfl ?_); refine box_event ?hg (N := 1) ?hd (cs := #[.int .i64 a0_0, .slice A0_1 l0_1.length c0_1]) (t := 24) ?hr ?_; (case hd => rfl); (case hg => rfl); (case hr => first | (go_simp; done) | (go_simp; rfl)); intro gb317 hg w4 hbox hb; have n0_ := Aside0.mk (below_step zB hb); have n1_ := Aside0.mk (hbox); have n2_ := Aside0.mk ((by rw [hg]; exact (below_size zB) : w.heap.size ≤ gb317)); have n3_ := Aside0.mk ((by rw [hg]; exact (below_size zB) : w.heap.size ≤ gb317)); clear HB; have HB := n0_; have BK317 := n1_; have GW317 := n2_; have GE317 := n3_; clear n0_ n1_ n2_ n3_; clear hb hbox hg) | ((with_reducible refine gate_dst (N := 2) rfl ?_); refine box_event ?hg (N := 2) ?hd (cs := #[.int .i64 0, .slice none 0 0]) (t := 24) ?hr ?_; (case hd => rfl); (case hg => rfl); (case hr => first | (go_simp; done) | (go_simp; rfl)); intro gb318 hg w5 hbox hb; have n0_ := Aside0.mk (blk_below (g := gb317) (o := .cells #[.int .i64 a0_0, .slice A0_1 l0_1.length c0_1] 24 (0, 0)) (zk BK317) hb); have n1_ := Aside0.mk (below_step zB hb); have n2_ := Aside0.mk (hbox); have n3_ := Aside0.mk ((by rw [hg]; exact (below_size zB) : w.heap.size ≤ gb318)); have n4_ := Aside0.mk ((by rw [hg]; exact (below_size zB) : w.heap.size ≤ gb318)); have n5_ := Aside0.mk ((by rw [hg]; exact Nat.ne_of_lt (blk_lt (g := gb317) (o := .cells #[.int .i64 a0_0, .slice A0_1 l0_1.length c0_1] 24 (0, 0)) (zk BK317)) : gb317 ≠ gb318)); have n6_ := Aside0.mk ((by rw [hg]; exact Nat.ne_of_gt (blk_lt (g := gb317) (o := .cells #[.int .i64 a0_0, .slice A0_1 l0_1.length c0_1] 24 (0, 0)) (zk BK317)) : gb318 ≠ gb317)); clear BK317; clear HB; have BK317 := n0_; have HB := n1_; have BK318 := n2_; have GW318 := n3_; have GE318 := n4_; have NB317_318 := n5_; have NB318_317 := n6_; clear n0_ n1_ n2_ n3_ n4_ n5_ n6_; clear hb hbox hg; have hnb6 := NB317_318.out; have hnc6 := NB318_317.out; have hcz7_0 : w5.cell? ⟨gb317, 0, none⟩ = some (.int .i64 a0_0) := (blk_cell BK317.out 0).trans rfl; have hcz7_1 : w5.cell? ⟨gb317, 1, none⟩ = some (.slice A0_1 l0_1.length c0_1) := (blk_cell BK317.out 1).trans rfl; have hfz7_0 := blk_frozen BK317.out 0; have hfz7_1 := blk_frozen BK317.out 1) | ((with_reducible refine gate_callee (f := 27) rfl ?_); refine goesL_ (some 17) rfl rfl Try.func27 zK rfl #[.agg #[.int .i64 a0_0, .slice A0_1 l0_1.length c0_1]] rfl zM ?_; (with_reducible refine (dag_Valid.calls k a0_0 _ _ l0_1 t319 _ ?side1 ?side2 A2.out).mono ?_); (case side1 => repeat (first | exact (Kd.C_below HR0_1.out HB.out) | (with_reducible refine Kd.C_alloc ?_ _) | (with_reducible refine Kd.C_drewN ?_ _) | (with_reducible refine Kd.C_drew ?_))); (case side2 => exact HC0_1.out); rintro e w8 ⟨rfl, hb⟩; refine ⟨_, rfl, ?_⟩; have n0_ := Aside0.mk (blk_below (g := gb317) (o := .cells #[.int .i64 a0_0, .slice A0_1 l0_1.length c0_1] 24 (0, 0)) (zk BK317) hb); have n1_ := Aside0.mk (blk_below (g := gb318) (o := .cells #[.int .i64 0, .slice none 0 0] 24 (0, 0)) (zk BK318) hb); have n2_ := Aside0.mk (below_step zB hb); clear BK317; clear BK318; clear HB; have BK317 := n0_; have BK318 := n1_; have HB := n2_; clear n0_ n1_ n2_; (try clear hb); (try clear hb2); (try clear hk); (try clear hi)))
 (try simp only [Act.put, List.setIfInBounds_toArray, List.set_cons_zero, List.set_cons_succ])
 have H := HC3.out
 clear HC3
 by_cases c9 : t319 = 0
 ·rw [if_pos c9] at H
  have c9b0 : (t319 == 0) = true := beq_iff_eq.mpr c9
  have c9b1 : (t319 != 0) = false := bne_eq_false_iff_eq.mpr c9
  clear c9
  (first | rw [c9b0] | (simp only [i64_w, i32_w]; rw [c9b0]) | skip)
  (try rw [c9b1])
  replace H := Option.bind_eq_some_iff.mp H
  obtain ⟨t320, A100, H⟩ := H
  replace H : ((dag_ways.f k a0_0 l0_1).bind fun t323 => (if 0 < (t323.length : Int) then (if (rd t323 0) = 0 then (some (0, ([] : List (S69)), ([] : List Int), 10)) else (if 0 ≤ a0_0 then (if (a0_0 : Int).toNat ≤ 35184372088832 then (dag_Trim.l0 k t320 t323 ([] : List Int) (List.replicate (a0_0 : Int).toNat 0) a0_0 0 a0_0 l0_1) else (none)) else (none))) else (none))) = some (r1, r2, r3, r4) := H
  have A10 := Aside0.mk A100
  clear A100
  replace H := Option.bind_eq_some_iff.mp H
  obtain ⟨t323, A110, H⟩ := H
  replace H : (if 0 < (t323.length : Int) then (if (rd t323 0) = 0 then (some (0, ([] : List (S69)), ([] : List Int), 10)) else (if 0 ≤ a0_0 then (if (a0_0 : Int).toNat ≤ 35184372088832 then (dag_Trim.l0 k t320 t323 ([] : List Int) (List.replicate (a0_0 : Int).toNat 0) a0_0 0 a0_0 l0_1) else (none)) else (none))) else (none)) = some (r1, r2, r3, r4) := H
  have A11 := Aside0.mk A110
  clear A110
  by_cases c12 : 0 < (t323.length : Int)
  ·rw [if_pos c12] at H
   have c12b0 : decide (0 < (t323.length : Int)) = true := decide_eq_true c12
   have c12b1 : decide (0 < t323.length) = true := decide_eq_true (by omega)
   clear c12
   have HC13 := Aside0.mk H
   clear H
   try go_wp2
   have n0_ := Aside0.mk (blk_drew BK317.out)
   have n1_ := Aside0.mk (blk_drew BK318.out)
   have n2_ := Aside0.mk (below_drew1 HB.out)
   clear BK317
   clear BK318
   clear HB
   have BK317 := n0_
   have BK318 := n1_
   have HB := n2_
   clear n0_ n1_ n2_
   refine start_ (n := 6) (S := fun w' => w'.cell? ⟨gb317, 0, none⟩ = some (.int .i64 a0_0) ∧ w'.cell? ⟨gb317, 1, none⟩ = some (.slice A0_1 l0_1.length c0_1)) (ds := []) #[false, false, false, false, false, false] zK rfl rfl ⟨(blk_cell BK317.out 0).trans rfl, (blk_cell BK317.out 1).trans rfl⟩ (fun hHeld => ?_)
   generalize w8.drew = w14 at BK317 BK318 HB hHeld ⊢
   refine take_ (i := 0) (N := some 22) (v := ?_) (a' := ?_) #[true, false, false, false, false, false] rfl rfl zK (fun _ _ _ h => h) (Or.inl ⟨by rfl, ?_⟩) hHeld ?_ ?_
   rotate_left
   ·rintro w' ⟨s0, s1⟩
    go_simp
    with_reducible rfl
   rotate_left
   ·simp only [Act.put, List.setIfInBounds_toArray, List.set_cons_zero, List.set_cons_succ, i64_w, i32_w]
    rfl
   refine take_ (i := 2) (N := some 24) (v := ?_) (a' := ?_) #[true, false, true, false, false, false] rfl rfl zK (fun _ _ _ h => h) (Or.inl ⟨by rfl, ?_⟩) hHeld ?_ ?_
   rotate_left
   ·rintro w' ⟨s0, s1⟩
    go_simp
    with_reducible rfl
   rotate_left
   ·simp only [Act.put, List.setIfInBounds_toArray, List.set_cons_zero, List.set_cons_succ, i64_w, i32_w]
    rfl
   refine one_ (i := 1) (N := some 23) #[true, true, true, false, false, false] rfl rfl zK (by decide) (fun K hK => ?_)
   refine goes_ Try.func65 zK rfl #[.agg #[.int .i64 a0_0, .slice A0_1 l0_1.length c0_1]] (by rfl) rfl rfl zM ?_
   with_reducible refine (dag_reached.calls k a0_0 _ _ l0_1 t320 _ ?side1 ?side2 A10.out).mono ?_
   (case side1 => repeat (first | exact (Kd.C_below HR0_1.out HB.out) | (with_reducible refine Kd.C_alloc ?_ _) | (with_reducible refine Kd.C_drewN ?_ _) | (with_reducible refine Kd.C_drew ?_)))
   (case side2 => exact HC0_1.out)
   rintro e w15 ⟨v321, rfl, ho0, hb⟩
   refine ⟨_, rfl, ?_⟩
   have n0_ := Aside0.mk (Kd.R_lower ho0 (below_size zB))
   have n1_ := Aside0.mk (blk_below (g := gb317) (o := .cells #[.int .i64 a0_0, .slice A0_1 l0_1.length c0_1] 24 (0, 0)) (zk BK317) hb)
   have n2_ := Aside0.mk (blk_below (g := gb318) (o := .cells #[.int .i64 0, .slice none 0 0] 24 (0, 0)) (zk BK318) hb)
   have n3_ := Aside0.mk (below_step zB hb)
   clear BK317
   clear BK318
   clear HB
   have HO322 := n0_
   have BK317 := n1_
   have BK318 := n2_
   have HB := n3_
   clear n0_ n1_ n2_ n3_
   (try clear hb)
   (try clear hb2)
   (try clear hk)
   (try clear hi)
   (try clear ho0)
   refine hK.out _ _ ⟨(blk_cell BK317.out 0).trans rfl, (blk_cell BK317.out 1).trans rfl⟩ (fun hHeld => ?_)
   clear hK K
   refine norm_ (a' := ?_) ?_ ?_
   rotate_left
   ·show Act.put _ (some 23) _ = _
    simp only [Act.put, List.setIfInBounds_toArray, List.set_cons_zero, List.set_cons_succ, i64_w, i32_w]
    rfl
   refine one_ (i := 3) (N := some 25) #[true, true, true, true, false, false] rfl rfl zK (by decide) (fun K hK => ?_)
   refine goes_ Try.func56 zK rfl #[.agg #[.int .i64 a0_0, .slice A0_1 l0_1.length c0_1]] (by rfl) rfl rfl zM ?_
   with_reducible refine (dag_ways.calls k a0_0 _ _ l0_1 t323 _ ?side1 ?side2 A11.out).mono ?_
   (case side1 => repeat (first | exact (Kd.C_below HR0_1.out HB.out) | (with_reducible refine Kd.C_alloc ?_ _) | (with_reducible refine Kd.C_drewN ?_ _) | (with_reducible refine Kd.C_drew ?_)))
   (case side2 => exact HC0_1.out)
   rintro e w16 ⟨v324, rfl, ho0, hb⟩
   refine ⟨_, rfl, ?_⟩
   have n0_ := Aside0.mk (Kd.R_below (zR HO322) hb)
   have n1_ := Aside0.mk (Kd.R_lower ho0 (below_size zB))
   have n2_ := Aside0.mk (blk_below (g := gb317) (o := .cells #[.int .i64 a0_0, .slice A0_1 l0_1.length c0_1] 24 (0, 0)) (zk BK317) hb)
   have n3_ := Aside0.mk (blk_below (g := gb318) (o := .cells #[.int .i64 0, .slice none 0 0] 24 (0, 0)) (zk BK318) hb)
   have n4_ := Aside0.mk (below_step zB hb)
   clear HO322
   clear BK317
   clear BK318
   clear HB
   have HO322 := n0_
   have HO325 := n1_
   have BK317 := n2_
   have BK318 := n3_
   have HB := n4_
   clear n0_ n1_ n2_ n3_ n4_
   (try clear hb)
   (try clear hb2)
   (try clear hk)
   (try clear hi)
   (try clear ho0)
   refine hK.out _ _ ⟨(blk_cell BK317.out 0).trans rfl, (blk_cell BK317.out 1).trans rfl⟩ (fun hHeld => ?_)
   clear hK K
   refine norm_ (a' := ?_) ?_ ?_
   rotate_left
   ·show Act.put _ (some 25) _ = _
    simp only [Act.put, List.setIfInBounds_toArray, List.set_cons_zero, List.set_cons_succ, i64_w, i32_w]
    rfl
   refine pure_ (i := 4) (N := some 6) (v := ?_) (a' := ?_) #[true, true, true, true, true, false] rfl rfl zK (fun _ _ _ h => h) (Or.inl ⟨by rfl, ?_⟩) ?_ ?_
   rotate_left
   ·intro w'
    go_simp
    with_reducible rfl
   rotate_left
   ·simp only [Act.put, List.setIfInBounds_toArray, List.set_cons_zero, List.set_cons_succ, i64_w, i32_w]
    rfl
   refine pure_ (i := 5) (N := some 7) (v := ?_) (a' := ?_) #[true, true, true, true, true, true] rfl rfl zK (fun _ _ _ h => h) (Or.inl ⟨by rfl, ?_⟩) ?_ ?_
   rotate_left
   ·intro w'
    go_simp
    with_reducible rfl
   rotate_left
   ·simp only [Act.put, List.setIfInBounds_toArray, List.set_cons_zero, List.set_cons_succ, i64_w, i32_w]
    rfl
   refine done_ zK ?_
   obtain ⟨Ao17, co17, eo17⟩ := Kd.R_slice HO325.out
   subst eo17
   have p326 : 0 ≤ (0 : Int) := (by omega)
   have q326 : 0 < (t323.length : Int) := of_decide_eq_true zh
   obtain ⟨ad326, e326, hx326_0⟩ := Kd.at_int (Kd.R_reads' HO325.out).2.2 0 p326 q326
   cases e326
   have qi326 : (0 < t323.length) = True := eq_true (by omega)
   (try rw [show ((0 : Int)).toNat = 0 from rfl] at hx326_0)
   (try rw [Addr.add_zero'] at hx326_0)
   replace p326 := eq_true p326
   replace q326 := eq_true q326
   go_upto_if 29 with (fail)
   (try simp only [Act.put, List.setIfInBounds_toArray, List.set_cons_zero, List.set_cons_succ])
   have H := HC13.out
   clear HC13
   by_cases c18 : (rd t323 0) = 0
   ·rw [if_pos c18] at H
    have c18b0 : ((rd t323 0) == 0) = true := beq_iff_eq.mpr c18
    have c18b1 : ((rd t323 0) != 0) = false := bne_eq_false_iff_eq.mpr c18
    clear c18
    (first | rw [c18b0] | (simp only [i64_w, i32_w]; rw [c18b0]) | skip)
    (try rw [c18b1])
    simp only [Option.some.injEq, Prod.mk.injEq] at H
    obtain ⟨rfl, rfl, rfl, rfl⟩ := H
    have hnb19 := NB318_317.out
    have hnc19 := NB317_318.out
    have hcz20_0 : w16.cell? ⟨gb318, 0, none⟩ = some (.int .i64 0) := (blk_cell BK318.out 0).trans rfl
    have hcz20_1 : w16.cell? ⟨gb318, 1, none⟩ = some (.slice none 0 0) := (blk_cell BK318.out 1).trans rfl
    have hfz20_0 := blk_frozen BK318.out 0
    have hfz20_1 := blk_frozen BK318.out 1
    go_wp2
    refine bodyPost_ret (results_ctt rfl _ _ gb318 24 #[.int .i64 0, .slice none 0 0] (0, 0) _ rfl (by (with_reducible repeat (first | refine blk_drewN ?_ _ | refine blk_drew ?_ | refine blk_alloc ?_ _)); refine blk_put (cs := #[.int .i64 0, .slice none 0 0]) ?_ 1 _ rfl; (with_reducible repeat (first | refine blk_drewN ?_ _ | refine blk_drew ?_ | refine blk_alloc ?_ _)); refine blk_put (cs := #[.int .i64 0, .slice none 0 0]) ?_ 0 _ rfl; (with_reducible repeat (first | refine blk_drewN ?_ _ | refine blk_drew ?_ | refine blk_alloc ?_ _)); exact BK318.out) Try.underlying24 rfl zK) rfl ?_
    exact ⟨_, _, by first | rfl | (simp [errW_none, errW_some] <;> rfl) | (simp [*, errW_none, errW_some] <;> rfl), by first | exact Kd.R_nil _ _ _ _ _ | exact Kd.N_nil _ _ _ _ _ | exact Kd.V_nil _ _ _ _ _ | exact Kd.Q_nil _ _ _ _ _ | exact Kd.S_nil _ _ _ _ _, by first | exact Kd.R_nil _ _ _ _ _ | exact Kd.N_nil _ _ _ _ _ | exact Kd.V_nil _ _ _ _ _ | exact Kd.Q_nil _ _ _ _ _ | exact Kd.S_nil _ _ _ _ _, by repeat (first | (with_reducible first | exact HB.out | apply below_alloc | apply pw_below_drewN | apply below_drew1 | refine below_set ?_ GE317.out | refine below_set ?_ GE318.out) | exact HB.out)⟩
   ·rw [if_neg c18] at H
    have c18b0 : ((rd t323 0) == 0) = false := beq_eq_false_iff_ne.mpr c18
    have c18b1 : ((rd t323 0) != 0) = true := bne_iff_ne.mpr c18
    (first | rw [c18b0] | (simp only [i64_w, i32_w]; rw [c18b0]) | skip)
    (try rw [c18b1])
    by_cases c21 : 0 ≤ a0_0
    ·rw [if_pos c21] at H
     have c21b0 := eq_true c21
     have c21b1 : decide (0 ≤ a0_0) = true := decide_eq_true c21
     clear c21
     by_cases c22 : (a0_0 : Int).toNat ≤ 35184372088832
     ·rw [if_pos c22] at H
      have c22b0 := eq_true c22
      have c22b1 : decide ((a0_0 : Int).toNat ≤ 35184372088832) = true := decide_eq_true c22
      clear c22
      obtain ⟨y327, hy327⟩ : ∃ y_ : List Int, y_ = (List.replicate (a0_0 : Int).toNat 0) := ⟨_, rfl⟩
      replace H : (dag_Trim.l0 k t320 t323 ([] : List Int) y327 a0_0 0 a0_0 l0_1) = some (r1, r2, r3, r4) := by first | (rw [hy327]; with_reducible exact H) | (have H2_ := (Option.bind_some _ _).symm.trans H; rw [hy327]; with_reducible exact H2_) | (have H2_ := (Option.bind_some _ _).symm.trans H; with_reducible exact H2_) | with_reducible exact H | (rw [hy327]; exact H) | exact H
      have Ny327 := Aside0.mk hy327
      clear hy327
      have H' := Aside0.mk H
      clear H
      have hnb23 := NB317_318.out
      have hnc23 := NB318_317.out
      have hcz24_0 : w16.cell? ⟨gb317, 0, none⟩ = some (.int .i64 a0_0) := (blk_cell BK317.out 0).trans rfl
      have hcz24_1 : w16.cell? ⟨gb317, 1, none⟩ = some (.slice A0_1 l0_1.length c0_1) := (blk_cell BK317.out 1).trans rfl
      have hfz24_0 := blk_frozen BK317.out 0
      have hfz24_1 := blk_frozen BK317.out 1
      go_wp2_with (first | ((with_reducible refine gate_dst (N := 33) rfl ?_); refine Kd.R_make (Kd.int .i64) _ 3 rfl (N := 33) rfl 25 _ _ rfl a0_0 rfl rfl Try.underlying25 (.int .i64 0) 8 info3 rfl (by decide) (by omega) 0 (ok := fun _ => True) (okp := fun _ => True) rfl (fun _ hk => hk) trivial (of_decide_eq_true zh) (Nat.le_trans (Nat.mul_le_mul_right _ (of_decide_eq_true zh : a0_0.toNat ≤ 35184372088832)) (by omega)) (Below.refl _ _) (Nat.le_refl _) ?_; intro v328 w25 ho26 hb hg_ hnew_; clear hg_ hnew_; (first | rw [← Ny327.out] at ho26 | (simp only [Int.reduceToNat] at ho26; rw [← Ny327.out] at ho26)); have n0_ := Aside0.mk (Kd.R_below (zR HO322) hb); have n1_ := Aside0.mk (Kd.R_below (zR HO325) hb); have n2_ := Aside0.mk (Kd.R_lower ho26 (below_size zB)); have n3_ := Aside0.mk (blk_below (g := gb317) (o := .cells #[.int .i64 a0_0, .slice A0_1 l0_1.length c0_1] 24 (0, 0)) (zk BK317) hb); have n4_ := Aside0.mk (blk_below (g := gb318) (o := .cells #[.int .i64 0, .slice none 0 0] 24 (0, 0)) (zk BK318) hb); have n5_ := Aside0.mk (below_step zB hb); clear HO322; clear HO325; clear BK317; clear BK318; clear HB; have HO322 := n0_; have HO325 := n1_; have HO329 := n2_; have BK317 := n3_; have BK318 := n4_; have HB := n5_; clear n0_ n1_ n2_ n3_ n4_ n5_; clear hb ho26; have hcz27_0 : w25.cell? ⟨gb317, 0, none⟩ = some (.int .i64 a0_0) := (blk_cell BK317.out 0).trans rfl; have hcz27_1 : w25.cell? ⟨gb317, 1, none⟩ = some (.slice A0_1 l0_1.length c0_1) := (blk_cell BK317.out 1).trans rfl; have hfz27_0 := blk_frozen BK317.out 0; have hfz27_1 := blk_frozen BK317.out 1))
      go_loopg [8, 36] k (fun kq v8 v36 w' => ∃ (x8_1 : List Int) (x9_1 : List Int) (x36_1 : Int), v36 = .int .i64 x36_1 ∧ Aside0 (dag_Trim.l0 kq t320 t323 x8_1 x9_1 a0_0 x36_1 a0_0 l0_1 = some (r1, r2, r3, r4)) ∧ Aside0 (kq ≤ k) ∧ Aside0 (Kd.R Kd.bool 4 w' w.heap.size (fun _ => True) v321 t320) ∧ Aside0 (Kd.R (Kd.int .i64) 2 w' w.heap.size (fun _ => True) (.slice (some ad326) t323.length co17) t323) ∧ Aside0 (Kd.R (Kd.int .i64) 3 w' w.heap.size (fun k_ => some k_ ≠ (v328 : Value).ownBlock) v8 x8_1) ∧ Aside0 (Kd.R (Kd.int .i64) 3 w' w.heap.size (fun k_ => some k_ ≠ (v8 : Value).ownBlock) v328 x9_1) ∧ Aside0 (w'.heap[gb317]? = some (.cells #[.int .i64 a0_0, (.slice A0_1 l0_1.length c0_1)] 24 (0, 0))) ∧ Aside0 (w'.heap[gb318]? = some (.cells #[.int .i64 0, (.slice none 0 0)] 24 (0, 0))) ∧ Aside0 (Below w.heap.size w w'))
      case atStart => exact ⟨(([] : List Int)), (y327), (0), zT, H', ⟨Nat.le_refl _⟩, ⟨by (with_reducible repeat (first | apply Kd.R_alloc | apply Kd.R_drewN | apply Kd.R_drew)); exact HO322.out⟩, ⟨by (with_reducible repeat (first | apply Kd.R_alloc | apply Kd.R_drewN | apply Kd.R_drew)); exact HO325.out⟩, ⟨by first | exact Kd.R_nil _ _ _ _ _ | exact Kd.N_nil _ _ _ _ _ | exact Kd.V_nil _ _ _ _ _ | exact Kd.Q_nil _ _ _ _ _ | exact Kd.S_nil _ _ _ _ _⟩, ⟨by (with_reducible repeat (first | apply Kd.R_alloc | apply Kd.R_drewN | apply Kd.R_drew)); exact Kd.R_mono HO329.out (fun _ hk => (by simp [Value.ownBlock]))⟩, ⟨by (with_reducible repeat (first | refine blk_drewN ?_ _ | refine blk_drew ?_ | refine blk_alloc ?_ _)); exact BK317.out⟩, ⟨by (with_reducible repeat (first | refine blk_drewN ?_ _ | refine blk_drew ?_ | refine blk_alloc ?_ _)); exact BK318.out⟩, ⟨by repeat (first | (with_reducible first | exact HB.out | apply below_alloc | apply pw_below_drewN | apply below_drew1 | refine below_set ?_ GE317.out | refine below_set ?_ GE318.out) | exact HB.out)⟩⟩
      case round =>
       clear H'
       try clear c9
       try clear c9b0
       try clear c9b1
       try clear c12
       try clear c12b0
       try clear c12b1
       try clear c18
       try clear c18b0
       try clear c18b1
       try clear c21
       try clear c21b0
       try clear c21b1
       try clear c22
       try clear c22b0
       try clear c22b1
       try clear hcz24_0
       try clear hcz24_1
       try clear hcz27_0
       try clear hcz27_1
       try clear hcz7_0
       try clear hcz7_1
       try clear hfz24_0
       try clear hfz24_1
       try clear hfz27_0
       try clear hfz27_1
       try clear hfz7_0
       try clear hfz7_1
       try clear hx326_0
       try clear p326
       try clear q326
       obtain ⟨x8_1, x9_1, x36_1, rfl, HA, HK1, HO_6, HO_7, HO_8, HO_9, BK317, BK318, HB⟩ := hrel
       cases gk with
       | zero => exact absurd HA.out (by simp [dag_Trim.l0])
       | succ k1 =>
        have H := HA.out
        clear HA
        simp only [dag_Trim.l0] at H
        by_cases c28 : x36_1 < a0_0
        ·rw [if_pos c28] at H
         have c28b0 : decide (x36_1 < a0_0) = true := decide_eq_true c28
         clear c28
         by_cases c29 : 0 ≤ x36_1
         ·rw [if_pos c29] at H
          have c29b0 : decide (0 ≤ x36_1) = true := decide_eq_true c29
          clear c29
          by_cases c30 : x36_1 < (x9_1.length : Int)
          ·rw [if_pos c30] at H
           have c30b0 : decide (x36_1 < (x9_1.length : Int)) = true := decide_eq_true c30
           clear c30
           obtain ⟨y330, hy330⟩ : ∃ y_ : List Int, y_ = (x9_1.set (x36_1 : Int).toNat (-1)) := ⟨_, rfl⟩
           replace H : (if x36_1 < (t320.length : Int) then (if rdOf false t320 x36_1 = true then (if x36_1 < (t323.length : Int) then (if (rd t323 x36_1) > 0 then (if x8_1.length < 17592186044416 then (dag_Trim.l0 k1 t320 t323 (x8_1 ++ [x36_1]) (y330.set (x36_1 : Int).toNat (x8_1.length : Int)) a0_0 (wrap64 (x36_1 + 1)) a0_0 l0_1) else (none)) else (dag_Trim.l0 k1 t320 t323 x8_1 y330 a0_0 (wrap64 (x36_1 + 1)) a0_0 l0_1)) else (none)) else (dag_Trim.l0 k1 t320 t323 x8_1 y330 a0_0 (wrap64 (x36_1 + 1)) a0_0 l0_1)) else (none)) = some (r1, r2, r3, r4) := by first | (rw [hy330]; with_reducible exact H) | (have H2_ := (Option.bind_some _ _).symm.trans H; rw [hy330]; with_reducible exact H2_) | (have H2_ := (Option.bind_some _ _).symm.trans H; with_reducible exact H2_) | with_reducible exact H | (rw [hy330]; exact H) | exact H
           have Ny330 := Aside0.mk hy330
           clear hy330
           have HC32 := Aside0.mk H
           clear H
           have p31 : 0 ≤ (x36_1 : Int) := of_decide_eq_true zh
           have q31 : (x36_1 : Int) < ((x9_1.length : Int) : Int) := of_decide_eq_true zh
           obtain ⟨go31, co31, eo31, gb31, gl31, cl31, HG31⟩ := Kd.R_form HO_9.out (by omega)
           (first | cases eo31 | (injection eo31 with ea_ en_ ec_; (first | subst ea_ | (injection ea_ with ea_; subst ea_)); subst ec_; clear en_))
           have GB31 := Aside0.mk gb31
           have GG31 := Aside0.mk HG31
           clear gb31 gl31 HG31
           obtain ⟨hx31_0, hf31_0⟩ := Kd.R_celln 0 HO_9.out (x36_1 : Int) p31 q31
           replace p31 := eq_true p31
           replace q31 := eq_true q31
           have HP33 := Kd.R_putg HO_9.out (x36_1 : Int) (-1)
           go_upto_region 13 with (first | ((with_reducible refine gate_store (t := 3) (p := 41) rfl ?_); refine store_event (t := 3) (p := 41) (v := ?vo_w34) (w1 := (wr.setCell ⟨go31, (x36_1 : Int).toNat, none⟩ (.int .i64 (-1)))) ?hg ?ho ?hn ?hr ?_; (case ho => rfl); (case hg => rfl); (case hn => rfl); (case hr => first | (go_simp; done) | (go_simp; rfl)); intro w34 hw; have hg : wr.grownBy w34 (some go31) := (by rw [hw]; exact HP33.2); have hp_ : Kd.R (Kd.int .i64) 3 w34 w.heap.size (fun k_ => some k_ ≠ (u8 : Value).ownBlock) (.slice (some ⟨go31, 0, none⟩) x9_1.length co31) y330 := (by rw [hw, Ny330.out]; exact HP33.1); clear HP33; have n0_ := Aside0.mk (Kd.R_over' (v := (.slice (some ⟨go31, 0, none⟩) x9_1.length co31)) (zR HO_6) (Kd.R_typed HO_9.out) (by decide) hg); have n1_ := Aside0.mk (Kd.R_over' (v := (.slice (some ⟨go31, 0, none⟩) x9_1.length co31)) (zR HO_7) (Kd.R_typed HO_9.out) (by decide) hg); have n2_ := Aside0.mk (Kd.R_after (v := (.slice (some ⟨go31, 0, none⟩) x9_1.length co31)) (v1 := (.slice (some ⟨go31, 0, none⟩) x9_1.length co31)) (ok := (fun _ => True)) (by (with_reducible repeat (first | apply Kd.R_alloc | apply Kd.R_drewN | apply Kd.R_drew)); exact Kd.R_mono HO_8.out (fun _ hk => ⟨trivial, hk⟩)) hg (.inl rfl)); have n3_ := Aside0.mk (hp_); have n4_ := Aside0.mk (blk_grown (g := gb317) (o := .cells #[.int .i64 a0_0, .slice A0_1 l0_1.length c0_1] 24 (0, 0)) (zk BK317) hg (Kd.R_ne HO_9.out BK317.out (by decide))); have n5_ := Aside0.mk (blk_grown (g := gb318) (o := .cells #[.int .i64 0, .slice none 0 0] 24 (0, 0)) (zk BK318) hg (Kd.R_ne HO_9.out BK318.out (by decide))); have n6_ := Aside0.mk ((by rw [hw]; exact below_set (HB.out) GB31.out : Below w.heap.size w w34)); clear HO_6; clear HO_7; clear HO_8; clear HO_9; clear BK317; clear BK318; clear HB; have HO_6 := n0_; have HO_7 := n1_; have HO_8 := n2_; have HO_9 := n3_; have BK317 := n4_; have BK318 := n5_; have HB := n6_; clear n0_ n1_ n2_ n3_ n4_ n5_ n6_; clear hg hw hp_))
           (try simp only [Act.put, List.setIfInBounds_toArray, List.set_cons_zero, List.set_cons_succ])
           have H := HC32.out
           clear HC32
           by_cases c35 : x36_1 < (t320.length : Int)
           ·rw [if_pos c35] at H
            have c35b0 : decide (x36_1 < (t320.length : Int)) = true := decide_eq_true c35
            clear c35
            (first | rw [c35b0] | (simp only [i64_w, i32_w]; rw [c35b0]) | skip)
            obtain ⟨bq36, hbq36⟩ : ∃ b_ : Bool, b_ = (rdOf false t320 x36_1) := ⟨_, rfl⟩
            replace H : (if bq36 = true then (if x36_1 < (t323.length : Int) then (if (rd t323 x36_1) > 0 then (if x8_1.length < 17592186044416 then (dag_Trim.l0 k1 t320 t323 (x8_1 ++ [x36_1]) (y330.set (x36_1 : Int).toNat (x8_1.length : Int)) a0_0 (wrap64 (x36_1 + 1)) a0_0 l0_1) else (none)) else (dag_Trim.l0 k1 t320 t323 x8_1 y330 a0_0 (wrap64 (x36_1 + 1)) a0_0 l0_1)) else (none)) else (dag_Trim.l0 k1 t320 t323 x8_1 y330 a0_0 (wrap64 (x36_1 + 1)) a0_0 l0_1)) = some (r1, r2, r3, r4) := by rw [← hbq36] at H; exact H
            have Nbq36 := Aside0.mk hbq36
            clear hbq36
            by_cases c37 : bq36 = true
            ·subst c37
             have H1 : (if x36_1 < (t323.length : Int) then (if (rd t323 x36_1) > 0 then (if x8_1.length < 17592186044416 then (dag_Trim.l0 k1 t320 t323 (x8_1 ++ [x36_1]) (y330.set (x36_1 : Int).toNat (x8_1.length : Int)) a0_0 (wrap64 (x36_1 + 1)) a0_0 l0_1) else (none)) else (dag_Trim.l0 k1 t320 t323 x8_1 y330 a0_0 (wrap64 (x36_1 + 1)) a0_0 l0_1)) else (none)) = some (r1, r2, r3, r4) := by rw [if_pos rfl] at H; exact H
             clear H
             have H := H1
             clear H1
             by_cases c38 : x36_1 < (t323.length : Int)
             ·rw [if_pos c38] at H
              have c38b0 : decide (x36_1 < (t323.length : Int)) = true := decide_eq_true c38
              clear c38
              by_cases c39 : (rd t323 x36_1) > 0
              ·rw [if_pos c39] at H
               have c39b0 : decide (0 < (rd t323 x36_1)) = true := decide_eq_true c39
               clear c39
               obtain ⟨y333, hy333⟩ : ∃ y_ : List Int, y_ = (y330.set (x36_1 : Int).toNat (x8_1.length : Int)) := ⟨_, rfl⟩
               replace H : (if x8_1.length < 17592186044416 then (dag_Trim.l0 k1 t320 t323 (x8_1 ++ [x36_1]) y333 a0_0 (wrap64 (x36_1 + 1)) a0_0 l0_1) else (none)) = some (r1, r2, r3, r4) := by first | (rw [hy333]; with_reducible exact H) | (have H2_ := (Option.bind_some _ _).symm.trans H; rw [hy333]; with_reducible exact H2_) | (have H2_ := (Option.bind_some _ _).symm.trans H; with_reducible exact H2_) | with_reducible exact H | (rw [hy333]; exact H) | exact H
               have Ny333 := Aside0.mk hy333
               clear hy333
               by_cases c41 : x8_1.length < 17592186044416
               ·rw [if_pos c41] at H
                have LMc41 := Aside0.mk c41
                clear c41
                obtain ⟨y334, hy334⟩ : ∃ y_ : List Int, y_ = (x8_1 ++ [x36_1]) := ⟨_, rfl⟩
                replace H : (dag_Trim.l0 k1 t320 t323 y334 y333 a0_0 (wrap64 (x36_1 + 1)) a0_0 l0_1) = some (r1, r2, r3, r4) := by first | (rw [hy334]; with_reducible exact H) | (have H2_ := (Option.bind_some _ _).symm.trans H; rw [hy334]; with_reducible exact H2_) | (have H2_ := (Option.bind_some _ _).symm.trans H; with_reducible exact H2_) | with_reducible exact H | (rw [hy334]; exact H) | exact H
                have Ny334 := Aside0.mk hy334
                clear hy334
                have H' := Aside0.mk H
                clear H
                obtain ⟨Ao42, co42, eo42⟩ := Kd.R_slice HO_6.out
                subst eo42
                have p331 : 0 ≤ (x36_1 : Int) := of_decide_eq_true zh
                have q331 : x36_1 < (t320.length : Int) := of_decide_eq_true zh
                obtain ⟨ad331, e331, hx331_0⟩ := Kd.at_bool (Kd.R_reads' HO_6.out).2.2 x36_1 p331 q331
                (try rw [← Nbq36.out] at hx331_0)
                cases e331
                replace p331 := eq_true p331
                replace q331 := eq_true q331
                have p332 : 0 ≤ (x36_1 : Int) := of_decide_eq_true zh
                have q332 : x36_1 < (t323.length : Int) := of_decide_eq_true zh
                obtain ⟨ad332, e332, hx332_0⟩ := Kd.at_int (Kd.R_reads' HO_7.out).2.2 x36_1 p332 q332
                obtain rfl : ad326 = ad332 := (by injection e332)
                replace p332 := eq_true p332
                replace q332 := eq_true q332
                obtain ⟨Ao43, co43, eo43⟩ := Kd.R_slice HO_8.out
                subst eo43
                have p40 : 0 ≤ (x36_1 : Int) := of_decide_eq_true zh
                have q40 : (x36_1 : Int) < ((x9_1.length : Int) : Int) := of_decide_eq_true zh
                obtain ⟨hx40_0, hf40_0⟩ := Kd.R_celln 0 HO_9.out (x36_1 : Int) p40 q40
                replace p40 := eq_true p40
                replace q40 := eq_true q40
                have HP44 := Kd.R_putg HO_9.out (x36_1 : Int) (x8_1.length : Int)
                go_wp2_with (first | ((with_reducible refine gate_store (t := 3) (p := 57) rfl ?_); refine store_event (t := 3) (p := 57) (v := ?vo_w45) (w1 := (w34.setCell ⟨go31, (x36_1 : Int).toNat, none⟩ (.int .i64 (x8_1.length : Int)))) ?hg ?ho ?hn ?hr ?_; (case ho => rfl); (case hg => rfl); (case hn => rfl); (case hr => first | (go_simp; done) | (go_simp; rfl)); intro w45 hw; have hg : w34.grownBy w45 (some go31) := (by rw [hw]; exact HP44.2); have hp_ : Kd.R (Kd.int .i64) 3 w45 w.heap.size (fun k_ => some k_ ≠ (.slice Ao43 x8_1.length co43 : Value).ownBlock) (.slice (some ⟨go31, 0, none⟩) x9_1.length co31) y333 := (by rw [hw, Ny333.out]; exact HP44.1); clear HP44; have n0_ := Aside0.mk (Kd.R_over' (v := (.slice (some ⟨go31, 0, none⟩) x9_1.length co31)) (zR HO_6) (Kd.R_typed HO_9.out) (by decide) hg); have n1_ := Aside0.mk (Kd.R_over' (v := (.slice (some ⟨go31, 0, none⟩) x9_1.length co31)) (zR HO_7) (Kd.R_typed HO_9.out) (by decide) hg); have n2_ := Aside0.mk (Kd.R_after (v := (.slice (some ⟨go31, 0, none⟩) x9_1.length co31)) (v1 := (.slice (some ⟨go31, 0, none⟩) x9_1.length co31)) (ok := (fun _ => True)) (zR HO_8) hg (.inl rfl)); have n3_ := Aside0.mk (hp_); have n4_ := Aside0.mk (blk_grown (g := gb317) (o := .cells #[.int .i64 a0_0, .slice A0_1 l0_1.length c0_1] 24 (0, 0)) (zk BK317) hg (Kd.R_ne HO_9.out BK317.out (by decide))); have n5_ := Aside0.mk (blk_grown (g := gb318) (o := .cells #[.int .i64 0, .slice none 0 0] 24 (0, 0)) (zk BK318) hg (Kd.R_ne HO_9.out BK318.out (by decide))); have n6_ := Aside0.mk ((by rw [hw]; exact below_set (HB.out) GB31.out : Below w.heap.size w w45)); clear HO_6; clear HO_7; clear HO_8; clear HO_9; clear BK317; clear BK318; clear HB; have HO_6 := n0_; have HO_7 := n1_; have HO_8 := n2_; have HO_9 := n3_; have BK317 := n4_; have BK318 := n5_; have HB := n6_; clear n0_ n1_ n2_ n3_ n4_ n5_ n6_; clear hg hw hp_) | ((with_reducible refine gate_builtin (b := .append) (xs := #[.tmp 58, .tmp 60]) rfl ?_); at_builtin; refine Kd.R_append (Kd.int .i64) (w0 := w) w.heap.size rfl (.tmp 58) (.tmp 60) 25 3 (.int .i64 0) 8 rfl Try.underlying25 info3 rfl (by decide) (by omega) (.slice Ao43 x8_1.length co43) x8_1 x36_1 [.int .i64 x36_1] (fun k_ => some k_ ≠ (.slice (some ⟨go31, 0, none⟩) x9_1.length co31 : Value).ownBlock) (fun _ => False) rfl rfl ?aP (fun _ hk => hk.elim) ?aF ?aO ?aB ?aS ?aL ?_; (case aP => exact rfl); (case aB => exact zB); (case aF => exact (fun k_ hk => Kd.fresh' (Kd.R_lt (zR HO_9)) k_ hk)); (case aO => exact (by (with_reducible repeat (first | apply Kd.R_alloc | apply Kd.R_drewN | apply Kd.R_drew)); exact Kd.R_mono HO_8.out (fun _ hk => hk.2))); (case aS => exact (below_size zB)); (case aL => have := LMc41.out; omega); intro v335 w46 ho hb hg hat; rw [← Ny334.out] at ho; have n0_ := Aside0.mk (Kd.R_over' (zR HO_6) (Kd.R_typed (zR HO_8)) (by decide) hg); have n1_ := Aside0.mk (Kd.R_over' (zR HO_7) (Kd.R_typed (zR HO_8)) (by decide) hg); have n2_ := Aside0.mk (Kd.R_after (ok := (fun _ => True)) (by (with_reducible repeat (first | apply Kd.R_alloc | apply Kd.R_drewN | apply Kd.R_drew)); exact Kd.R_mono HO_9.out (fun _ hk => ⟨trivial, hk⟩)) hg hat); have n3_ := Aside0.mk (blk_grown (g := gb317) (o := .cells #[.int .i64 a0_0, .slice A0_1 l0_1.length c0_1] 24 (0, 0)) (zk BK317) hg (Kd.R_ne HO_8.out BK317.out (by decide))); have n4_ := Aside0.mk (blk_grown (g := gb318) (o := .cells #[.int .i64 0, .slice none 0 0] 24 (0, 0)) (zk BK318) hg (Kd.R_ne HO_8.out BK318.out (by decide))); have n5_ := Aside0.mk (hb); have n6_ := Aside0.mk (ho); clear HO_6; clear HO_7; clear HO_9; clear BK317; clear BK318; clear HB; clear HO_8; have HO_6 := n0_; have HO_7 := n1_; have HO_9 := n2_; have BK317 := n3_; have BK318 := n4_; have HB := n5_; have HO336 := n6_; clear n0_ n1_ n2_ n3_ n4_ n5_ n6_; clear ho hb hg hat))
                go_roundg k1
                case measure => have := HK1.out; omega
                case rel => exact ⟨(y334), (y333), (wrap64 (x36_1 + 1)), zT, H', ⟨by have := HK1.out; omega⟩, ⟨by (with_reducible repeat (first | apply Kd.R_alloc | apply Kd.R_drewN | apply Kd.R_drew)); exact HO_6.out⟩, ⟨by (with_reducible repeat (first | apply Kd.R_alloc | apply Kd.R_drewN | apply Kd.R_drew)); exact HO_7.out⟩, ⟨by (with_reducible repeat (first | apply Kd.R_alloc | apply Kd.R_drewN | apply Kd.R_drew)); exact HO336.out⟩, ⟨by (with_reducible repeat (first | apply Kd.R_alloc | apply Kd.R_drewN | apply Kd.R_drew)); exact Kd.R_mono HO_9.out (fun _ hk => hk.2)⟩, ⟨by (with_reducible repeat (first | refine blk_drewN ?_ _ | refine blk_drew ?_ | refine blk_alloc ?_ _)); exact BK317.out⟩, ⟨by (with_reducible repeat (first | refine blk_drewN ?_ _ | refine blk_drew ?_ | refine blk_alloc ?_ _)); exact BK318.out⟩, ⟨by repeat (first | (with_reducible first | exact HB.out | apply below_alloc | apply pw_below_drewN | apply below_drew1 | refine below_set ?_ GE317.out | refine below_set ?_ GE318.out) | exact HB.out)⟩⟩
               ·rw [if_neg c41] at H
                exact absurd H (by simp)
              ·rw [if_neg c39] at H
               have c39b0 : decide (0 < (rd t323 x36_1)) = false := decide_eq_false c39
               clear c39
               have H' := Aside0.mk H
               clear H
               obtain ⟨Ao47, co47, eo47⟩ := Kd.R_slice HO_6.out
               subst eo47
               have p331 : 0 ≤ (x36_1 : Int) := of_decide_eq_true zh
               have q331 : x36_1 < (t320.length : Int) := of_decide_eq_true zh
               obtain ⟨ad331, e331, hx331_0⟩ := Kd.at_bool (Kd.R_reads' HO_6.out).2.2 x36_1 p331 q331
               (try rw [← Nbq36.out] at hx331_0)
               cases e331
               replace p331 := eq_true p331
               replace q331 := eq_true q331
               have p332 : 0 ≤ (x36_1 : Int) := of_decide_eq_true zh
               have q332 : x36_1 < (t323.length : Int) := of_decide_eq_true zh
               obtain ⟨ad332, e332, hx332_0⟩ := Kd.at_int (Kd.R_reads' HO_7.out).2.2 x36_1 p332 q332
               obtain rfl : ad326 = ad332 := (by injection e332)
               replace p332 := eq_true p332
               replace q332 := eq_true q332
               go_wp2
               go_roundg k1
               case measure => have := HK1.out; omega
               case rel => exact ⟨(x8_1), (y330), (wrap64 (x36_1 + 1)), zT, H', ⟨by have := HK1.out; omega⟩, ⟨by (with_reducible repeat (first | apply Kd.R_alloc | apply Kd.R_drewN | apply Kd.R_drew)); exact HO_6.out⟩, ⟨by (with_reducible repeat (first | apply Kd.R_alloc | apply Kd.R_drewN | apply Kd.R_drew)); exact HO_7.out⟩, ⟨by (with_reducible repeat (first | apply Kd.R_alloc | apply Kd.R_drewN | apply Kd.R_drew)); exact Kd.R_mono HO_8.out (fun _ hk => hk.2)⟩, ⟨by (with_reducible repeat (first | apply Kd.R_alloc | apply Kd.R_drewN | apply Kd.R_drew)); exact HO_9.out⟩, ⟨by (with_reducible repeat (first | refine blk_drewN ?_ _ | refine blk_drew ?_ | refine blk_alloc ?_ _)); exact BK317.out⟩, ⟨by (with_reducible repeat (first | refine blk_drewN ?_ _ | refine blk_drew ?_ | refine blk_alloc ?_ _)); exact BK318.out⟩, ⟨by repeat (first | (with_reducible first | exact HB.out | apply below_alloc | apply pw_below_drewN | apply below_drew1 | refine below_set ?_ GE317.out | refine below_set ?_ GE318.out) | exact HB.out)⟩⟩
             ·rw [if_neg c38] at H
              exact absurd H (by simp)
            ·replace c37 := Bool.eq_false_iff.mpr c37
             subst c37
             have H1 : (dag_Trim.l0 k1 t320 t323 x8_1 y330 a0_0 (wrap64 (x36_1 + 1)) a0_0 l0_1) = some (r1, r2, r3, r4) := by rw [if_neg (show ¬ (false = true) by decide)] at H; exact H
             clear H
             have H := H1
             clear H1
             have H' := Aside0.mk H
             clear H
             obtain ⟨Ao48, co48, eo48⟩ := Kd.R_slice HO_6.out
             subst eo48
             have p331 : 0 ≤ (x36_1 : Int) := of_decide_eq_true zh
             have q331 : x36_1 < (t320.length : Int) := of_decide_eq_true zh
             obtain ⟨ad331, e331, hx331_0⟩ := Kd.at_bool (Kd.R_reads' HO_6.out).2.2 x36_1 p331 q331
             (try rw [← Nbq36.out] at hx331_0)
             cases e331
             replace p331 := eq_true p331
             replace q331 := eq_true q331
             go_wp2
             go_roundg k1
             case measure => have := HK1.out; omega
             case rel => exact ⟨(x8_1), (y330), (wrap64 (x36_1 + 1)), zT, H', ⟨by have := HK1.out; omega⟩, ⟨by (with_reducible repeat (first | apply Kd.R_alloc | apply Kd.R_drewN | apply Kd.R_drew)); exact HO_6.out⟩, ⟨by (with_reducible repeat (first | apply Kd.R_alloc | apply Kd.R_drewN | apply Kd.R_drew)); exact HO_7.out⟩, ⟨by (with_reducible repeat (first | apply Kd.R_alloc | apply Kd.R_drewN | apply Kd.R_drew)); exact Kd.R_mono HO_8.out (fun _ hk => hk.2)⟩, ⟨by (with_reducible repeat (first | apply Kd.R_alloc | apply Kd.R_drewN | apply Kd.R_drew)); exact HO_9.out⟩, ⟨by (with_reducible repeat (first | refine blk_drewN ?_ _ | refine blk_drew ?_ | refine blk_alloc ?_ _)); exact BK317.out⟩, ⟨by (with_reducible repeat (first | refine blk_drewN ?_ _ | refine blk_drew ?_ | refine blk_alloc ?_ _)); exact BK318.out⟩, ⟨by repeat (first | (with_reducible first | exact HB.out | apply below_alloc | apply pw_below_drewN | apply below_drew1 | refine below_set ?_ GE317.out | refine below_set ?_ GE318.out) | exact HB.out)⟩⟩
           ·rw [if_neg c35] at H
            exact absurd H (by simp)
          ·rw [if_neg c30] at H
           exact absurd H (by simp)
         ·rw [if_neg c29] at H
          exact absurd H (by simp)
        ·rw [if_neg c28] at H
         have c28b0 : decide (x36_1 < a0_0) = false := decide_eq_false c28
         clear c28
         have H' := Aside0.mk H
         clear H
         obtain ⟨Ao49, co49, eo49⟩ := Kd.R_slice HO_8.out
         subst eo49
         go_wp2_with (first | ((with_reducible refine gate_dst (N := 11) rfl ?_); refine box_event ?hg (N := 11) ?hd (cs := #[.int .i64 0, .slice none 0 0]) (t := 24) ?hr ?_; (case hd => rfl); (case hg => rfl); (case hr => first | (go_simp; done) | (go_simp; rfl)); intro gb337 hg w50 hbox hb; have n0_ := Aside0.mk (Kd.R_below (zR HO_6) hb); have n1_ := Aside0.mk (Kd.R_below (zR HO_7) hb); have n2_ := Aside0.mk (Kd.R_below (zR HO_8) hb); have n3_ := Aside0.mk (Kd.R_below (zR HO_9) hb); have n4_ := Aside0.mk (blk_below (g := gb317) (o := .cells #[.int .i64 a0_0, .slice A0_1 l0_1.length c0_1] 24 (0, 0)) (zk BK317) hb); have n5_ := Aside0.mk (blk_below (g := gb318) (o := .cells #[.int .i64 0, .slice none 0 0] 24 (0, 0)) (zk BK318) hb); have n6_ := Aside0.mk (below_step zB hb); have n7_ := Aside0.mk (hbox); have n8_ := Aside0.mk ((by rw [hg]; exact (below_size zB) : w.heap.size ≤ gb337)); have n9_ := Aside0.mk ((by rw [hg]; exact (below_size zB) : w.heap.size ≤ gb337)); have n10_ := Aside0.mk ((by rw [hg]; exact Nat.ne_of_lt (blk_lt (g := gb317) (o := .cells #[.int .i64 a0_0, .slice A0_1 l0_1.length c0_1] 24 (0, 0)) (zk BK317)) : gb317 ≠ gb337)); have n11_ := Aside0.mk ((by rw [hg]; exact Nat.ne_of_gt (blk_lt (g := gb317) (o := .cells #[.int .i64 a0_0, .slice A0_1 l0_1.length c0_1] 24 (0, 0)) (zk BK317)) : gb337 ≠ gb317)); have n12_ := Aside0.mk ((by rw [hg]; exact Nat.ne_of_lt (blk_lt (g := gb318) (o := .cells #[.int .i64 0, .slice none 0 0] 24 (0, 0)) (zk BK318)) : gb318 ≠ gb337)); have n13_ := Aside0.mk ((by rw [hg]; exact Nat.ne_of_gt (blk_lt (g := gb318) (o := .cells #[.int .i64 0, .slice none 0 0] 24 (0, 0)) (zk BK318)) : gb337 ≠ gb318)); clear HO_6; clear HO_7; clear HO_8; clear HO_9; clear BK317; clear BK318; clear HB; have HO_6 := n0_; have HO_7 := n1_; have HO_8 := n2_; have HO_9 := n3_; have BK317 := n4_; have BK318 := n5_; have HB := n6_; have BK337 := n7_; have GW337 := n8_; have GE337 := n9_; have NB317_337 := n10_; have NB337_317 := n11_; have NB318_337 := n12_; have NB337_318 := n13_; clear n0_ n1_ n2_ n3_ n4_ n5_ n6_ n7_ n8_ n9_ n10_ n11_ n12_ n13_; clear hb hbox hg; have hnb51 := NB337_317.out; have hnc51 := NB317_337.out; have hnb52 := NB337_318.out; have hnc52 := NB318_337.out; have hcz53_0 : w50.cell? ⟨gb337, 0, none⟩ = some (.int .i64 0) := (blk_cell BK337.out 0).trans rfl; have hcz53_1 : w50.cell? ⟨gb337, 1, none⟩ = some (.slice none 0 0) := (blk_cell BK337.out 1).trans rfl; have hfz53_0 := blk_frozen BK337.out 0; have hfz53_1 := blk_frozen BK337.out 1; have hnb54 := NB317_318.out; have hnc54 := NB318_317.out; have hcz55_0 : w50.cell? ⟨gb317, 0, none⟩ = some (.int .i64 a0_0) := (blk_cell BK317.out 0).trans rfl; have hcz55_1 : w50.cell? ⟨gb317, 1, none⟩ = some (.slice A0_1 l0_1.length c0_1) := (blk_cell BK317.out 1).trans rfl; have hfz55_0 := blk_frozen BK317.out 0; have hfz55_1 := blk_frozen BK317.out 1))
         go_loopg [69] k1 (fun kq v69 w' => ∃ (x69_2 : Int) (x338001_2 : List (S69)) (u338001 : Value), v69 = .int .i64 x69_2 ∧ Aside0 (dag_Trim.l1 kq x8_1 x9_1 l0_1 (l0_1.length : Int) x69_2 (x8_1.length : Int) x338001_2 = some (r1, r2, r3, r4)) ∧ Aside0 (kq ≤ k1) ∧ Aside0 (Kd.R (Kd.int .i64) 3 w' w.heap.size (fun k_ => some k_ ≠ (v328 : Value).ownBlock) (.slice Ao49 x8_1.length co49) x8_1) ∧ Aside0 (Kd.R (Kd.int .i64) 3 w' w.heap.size (fun k_ => some k_ ≠ ((.slice Ao49 x8_1.length co49) : Value).ownBlock) v328 x9_1) ∧ Aside0 (Kd.R k69 69 w' w.heap.size (fun _ => True) u338001 x338001_2) ∧ Aside0 (w'.heap[gb317]? = some (.cells #[.int .i64 a0_0, (.slice A0_1 l0_1.length c0_1)] 24 (0, 0))) ∧ Aside0 (w'.heap[gb318]? = some (.cells #[.int .i64 0, (.slice none 0 0)] 24 (0, 0))) ∧ Aside0 (w'.heap[gb337]? = some (.cells #[.int .i64 (x8_1.length : Int), u338001] 24 (0, 0))) ∧ Aside0 (Below w.heap.size w w'))
         case atStart => exact ⟨(0), (([] : List (S69))), (.slice none 0 0), zT, H', ⟨Nat.le_refl _⟩, ⟨by (with_reducible repeat (first | apply Kd.R_alloc | apply Kd.R_drewN | apply Kd.R_drew)); exact Kd.R_mono (Kd.R_far (p := ⟨gb337, 1, none⟩) (Kd.R_far (p := ⟨gb337, 0, none⟩) (Kd.R_types HO_8.out BK337.out (by decide)) (fun _ hk => hk.2) (.int .i64 (x8_1.length : Int))) (fun _ hk => hk.2) (.slice none 0 0)) (fun _ hk => hk.1)⟩, ⟨by (with_reducible repeat (first | apply Kd.R_alloc | apply Kd.R_drewN | apply Kd.R_drew)); exact Kd.R_mono (Kd.R_far (p := ⟨gb337, 1, none⟩) (Kd.R_far (p := ⟨gb337, 0, none⟩) (Kd.R_types HO_9.out BK337.out (by decide)) (fun _ hk => hk.2) (.int .i64 (x8_1.length : Int))) (fun _ hk => hk.2) (.slice none 0 0)) (fun _ hk => hk.1)⟩, ⟨by first | exact Kd.R_nil _ _ _ _ _ | exact Kd.N_nil _ _ _ _ _ | exact Kd.V_nil _ _ _ _ _ | exact Kd.Q_nil _ _ _ _ _ | exact Kd.S_nil _ _ _ _ _⟩, ⟨by (with_reducible repeat (first | refine blk_drewN ?_ _ | refine blk_drew ?_ | refine blk_alloc ?_ _)); refine blk_far ?_ NB317_337.out _; (with_reducible repeat (first | refine blk_drewN ?_ _ | refine blk_drew ?_ | refine blk_alloc ?_ _)); refine blk_far ?_ NB317_337.out _; (with_reducible repeat (first | refine blk_drewN ?_ _ | refine blk_drew ?_ | refine blk_alloc ?_ _)); exact BK317.out⟩, ⟨by (with_reducible repeat (first | refine blk_drewN ?_ _ | refine blk_drew ?_ | refine blk_alloc ?_ _)); refine blk_far ?_ NB318_337.out _; (with_reducible repeat (first | refine blk_drewN ?_ _ | refine blk_drew ?_ | refine blk_alloc ?_ _)); refine blk_far ?_ NB318_337.out _; (with_reducible repeat (first | refine blk_drewN ?_ _ | refine blk_drew ?_ | refine blk_alloc ?_ _)); exact BK318.out⟩, ⟨by (with_reducible repeat (first | refine blk_drewN ?_ _ | refine blk_drew ?_ | refine blk_alloc ?_ _)); refine blk_put (cs := #[.int .i64 (x8_1.length : Int), .slice none 0 0]) ?_ 1 _ rfl; (with_reducible repeat (first | refine blk_drewN ?_ _ | refine blk_drew ?_ | refine blk_alloc ?_ _)); refine blk_put (cs := #[.int .i64 0, .slice none 0 0]) ?_ 0 _ rfl; (with_reducible repeat (first | refine blk_drewN ?_ _ | refine blk_drew ?_ | refine blk_alloc ?_ _)); exact BK337.out⟩, ⟨by repeat (first | (with_reducible first | exact HB.out | apply below_alloc | apply pw_below_drewN | apply below_drew1 | refine below_set ?_ GE317.out | refine below_set ?_ GE318.out | refine below_set ?_ GE337.out) | exact HB.out)⟩⟩
         case round =>
          clear H'
          try clear c9
          try clear c9b0
          try clear c9b1
          try clear c12
          try clear c12b0
          try clear c12b1
          try clear c18
          try clear c18b0
          try clear c18b1
          try clear c21
          try clear c21b0
          try clear c21b1
          try clear c22
          try clear c22b0
          try clear c22b1
          try clear c28
          try clear c28b0
          try clear hcz24_0
          try clear hcz24_1
          try clear hcz27_0
          try clear hcz27_1
          try clear hcz53_0
          try clear hcz53_1
          try clear hcz55_0
          try clear hcz55_1
          try clear hcz7_0
          try clear hcz7_1
          try clear hfz24_0
          try clear hfz24_1
          try clear hfz27_0
          try clear hfz27_1
          try clear hfz53_0
          try clear hfz53_1
          try clear hfz55_0
          try clear hfz55_1
          try clear hfz7_0
          try clear hfz7_1
          try clear hx326_0
          try clear p326
          try clear q326
          obtain ⟨x69_2, x338001_2, u338001, rfl, HA, HK2, HO_8, HO_9, HO_338001, BK317, BK318, BK337, HB⟩ := hrel
          cases gk with
          | zero => exact absurd HA.out (by simp [dag_Trim.l1])
          | succ k2 =>
           have H := HA.out
           clear HA
           simp only [dag_Trim.l1] at H
           by_cases c56 : x69_2 < (l0_1.length : Int)
           ·rw [if_pos c56] at H
            have c56b0 : decide (x69_2 < (l0_1.length : Int)) = true := decide_eq_true c56
            clear c56
            by_cases c57 : 0 ≤ x69_2
            ·rw [if_pos c57] at H
             have c57b0 : decide (0 ≤ x69_2) = true := decide_eq_true c57
             clear c57
             by_cases c58 : x69_2 < (l0_1.length : Int)
             ·rw [if_pos c58] at H
              have c58b0 : decide (x69_2 < (l0_1.length : Int)) = true := decide_eq_true c58
              clear c58
              by_cases c59 : 0 ≤ ((rd_T69 l0_1 x69_2).f0)
              ·rw [if_pos c59] at H
               have c59b0 : decide (0 ≤ ((rd_T69 l0_1 x69_2).f0)) = true := decide_eq_true c59
               clear c59
               by_cases c60 : ((rd_T69 l0_1 x69_2).f0) < (x9_1.length : Int)
               ·rw [if_pos c60] at H
                have c60b0 : decide (((rd_T69 l0_1 x69_2).f0) < (x9_1.length : Int)) = true := decide_eq_true c60
                clear c60
                by_cases c61 : 0 ≤ ((rd_T69 l0_1 x69_2).f1)
                ·rw [if_pos c61] at H
                 have c61b0 : decide (0 ≤ ((rd_T69 l0_1 x69_2).f1)) = true := decide_eq_true c61
                 clear c61
                 by_cases c62 : ((rd_T69 l0_1 x69_2).f1) < (x9_1.length : Int)
                 ·rw [if_pos c62] at H
                  have c62b0 : decide (((rd_T69 l0_1 x69_2).f1) < (x9_1.length : Int)) = true := decide_eq_true c62
                  clear c62
                  have HC63 := Aside0.mk H
                  clear H
                  have p338 : 0 ≤ (x69_2 : Int) := of_decide_eq_true zh
                  have q338 : x69_2 < (l0_1.length : Int) := of_decide_eq_true zh
                  obtain ⟨ad338, e338, hx338_0, hx338_1, hx338_2⟩ := at_T69 HR0_1.out x69_2 p338 q338
                  cases e338
                  replace hx338_0 := (HB.out.cell (World.block_lt_of_cell? w _ hx338_0)).trans hx338_0
                  replace hx338_1 := (HB.out.cell (World.block_lt_of_cell? w _ hx338_1)).trans hx338_1
                  replace hx338_2 := (HB.out.cell (World.block_lt_of_cell? w _ hx338_2)).trans hx338_2
                  replace p338 := eq_true p338
                  replace q338 := eq_true q338
                  try go_wp2_with (first | ((with_reducible refine gate_dst (N := 13) rfl ?_); refine box_event ?hg (N := 13) ?hd (cs := #[.int .i64 0, .int .i64 0, .int .i64 0]) (t := 69) ?hr ?_; (case hd => rfl); (case hg => rfl); (case hr => first | (go_simp; done) | (go_simp; rfl)); intro gb339 hg w64 hbox hb; have n0_ := Aside0.mk (Kd.R_below (zR HO_8) hb); have n1_ := Aside0.mk (Kd.R_below (zR HO_9) hb); have n2_ := Aside0.mk (Kd.R_below (Kd.R_elderB (zR HO_338001) gb339 (Nat.le_of_eq hg.symm)) hb); have n3_ := Aside0.mk (blk_below (g := gb317) (o := .cells #[.int .i64 a0_0, .slice (some ad338) l0_1.length c0_1] 24 (0, 0)) (zk BK317) hb); have n4_ := Aside0.mk (blk_below (g := gb318) (o := .cells #[.int .i64 0, .slice none 0 0] 24 (0, 0)) (zk BK318) hb); have n5_ := Aside0.mk (blk_below (g := gb337) (o := .cells #[.int .i64 (x8_1.length : Int), u338001] 24 (0, 0)) (zk BK337) hb); have n6_ := Aside0.mk (below_step zB hb); have n7_ := Aside0.mk (hbox); have n8_ := Aside0.mk ((by rw [hg]; exact (below_size zB) : w.heap.size ≤ gb339)); have n9_ := Aside0.mk ((by rw [hg]; exact (below_size zB) : w.heap.size ≤ gb339)); have n10_ := Aside0.mk ((by rw [hg]; exact Nat.ne_of_lt (blk_lt (g := gb317) (o := .cells #[.int .i64 a0_0, .slice (some ad338) l0_1.length c0_1] 24 (0, 0)) (zk BK317)) : gb317 ≠ gb339)); have n11_ := Aside0.mk ((by rw [hg]; exact Nat.ne_of_gt (blk_lt (g := gb317) (o := .cells #[.int .i64 a0_0, .slice (some ad338) l0_1.length c0_1] 24 (0, 0)) (zk BK317)) : gb339 ≠ gb317)); have n12_ := Aside0.mk ((by rw [hg]; exact Nat.ne_of_lt (blk_lt (g := gb318) (o := .cells #[.int .i64 0, .slice none 0 0] 24 (0, 0)) (zk BK318)) : gb318 ≠ gb339)); have n13_ := Aside0.mk ((by rw [hg]; exact Nat.ne_of_gt (blk_lt (g := gb318) (o := .cells #[.int .i64 0, .slice none 0 0] 24 (0, 0)) (zk BK318)) : gb339 ≠ gb318)); have n14_ := Aside0.mk ((by rw [hg]; exact Nat.ne_of_lt (blk_lt (g := gb337) (o := .cells #[.int .i64 (x8_1.length : Int), u338001] 24 (0, 0)) (zk BK337)) : gb337 ≠ gb339)); have n15_ := Aside0.mk ((by rw [hg]; exact Nat.ne_of_gt (blk_lt (g := gb337) (o := .cells #[.int .i64 (x8_1.length : Int), u338001] 24 (0, 0)) (zk BK337)) : gb339 ≠ gb337)); clear HO_8; clear HO_9; clear HO_338001; clear BK317; clear BK318; clear BK337; clear HB; have HO_8 := n0_; have HO_9 := n1_; have HO_338001 := n2_; have BK317 := n3_; have BK318 := n4_; have BK337 := n5_; have HB := n6_; have BK339 := n7_; have GW339 := n8_; have GE339 := n9_; have NB317_339 := n10_; have NB339_317 := n11_; have NB318_339 := n12_; have NB339_318 := n13_; have NB337_339 := n14_; have NB339_337 := n15_; clear n0_ n1_ n2_ n3_ n4_ n5_ n6_ n7_ n8_ n9_ n10_ n11_ n12_ n13_ n14_ n15_; clear hb hbox hg; have hnb65 := NB339_317.out; have hnc65 := NB317_339.out; have hnb66 := NB339_318.out; have hnc66 := NB318_339.out; have hnb67 := NB339_337.out; have hnc67 := NB337_339.out; have hcz68_0 : w64.cell? ⟨gb339, 0, none⟩ = some (.int .i64 0) := (blk_cell BK339.out 0).trans rfl; have hcz68_1 : w64.cell? ⟨gb339, 1, none⟩ = some (.int .i64 0) := (blk_cell BK339.out 1).trans rfl; have hcz68_2 : w64.cell? ⟨gb339, 2, none⟩ = some (.int .i64 0) := (blk_cell BK339.out 2).trans rfl; have hfz68_0 := blk_frozen BK339.out 0; have hfz68_1 := blk_frozen BK339.out 1; have hfz68_2 := blk_frozen BK339.out 2))
                  have n0_ : Aside0 (Kd.R (Kd.int .i64) 3 (((w64.setCell ⟨gb339, 0, none⟩ (.int .i64 ((rd_T69 l0_1 x69_2).f0))).setCell ⟨gb339, 1, none⟩ (.int .i64 ((rd_T69 l0_1 x69_2).f1))).setCell ⟨gb339, 2, none⟩ (.int .i64 ((rd_T69 l0_1 x69_2).f2))) w.heap.size (fun k_ => some k_ ≠ (v328 : Value).ownBlock) (.slice Ao49 x8_1.length co49) x8_1) := ⟨by (with_reducible repeat (first | apply Kd.R_alloc | apply Kd.R_drewN | apply Kd.R_drew)); exact Kd.R_mono (Kd.R_far (p := ⟨gb339, 2, none⟩) (Kd.R_far (p := ⟨gb339, 1, none⟩) (Kd.R_far (p := ⟨gb339, 0, none⟩) (Kd.R_types HO_8.out BK339.out (by decide)) (fun _ hk => hk.2) (.int .i64 ((rd_T69 l0_1 x69_2).f0))) (fun _ hk => hk.2) (.int .i64 ((rd_T69 l0_1 x69_2).f1))) (fun _ hk => hk.2) (.int .i64 ((rd_T69 l0_1 x69_2).f2))) (fun _ hk => hk.1)⟩
                  have n1_ : Aside0 (Kd.R (Kd.int .i64) 3 (((w64.setCell ⟨gb339, 0, none⟩ (.int .i64 ((rd_T69 l0_1 x69_2).f0))).setCell ⟨gb339, 1, none⟩ (.int .i64 ((rd_T69 l0_1 x69_2).f1))).setCell ⟨gb339, 2, none⟩ (.int .i64 ((rd_T69 l0_1 x69_2).f2))) w.heap.size (fun k_ => some k_ ≠ (.slice Ao49 x8_1.length co49 : Value).ownBlock) v328 x9_1) := ⟨by (with_reducible repeat (first | apply Kd.R_alloc | apply Kd.R_drewN | apply Kd.R_drew)); exact Kd.R_mono (Kd.R_far (p := ⟨gb339, 2, none⟩) (Kd.R_far (p := ⟨gb339, 1, none⟩) (Kd.R_far (p := ⟨gb339, 0, none⟩) (Kd.R_types HO_9.out BK339.out (by decide)) (fun _ hk => hk.2) (.int .i64 ((rd_T69 l0_1 x69_2).f0))) (fun _ hk => hk.2) (.int .i64 ((rd_T69 l0_1 x69_2).f1))) (fun _ hk => hk.2) (.int .i64 ((rd_T69 l0_1 x69_2).f2))) (fun _ hk => hk.1)⟩
                  have n2_ : Aside0 (Kd.R k69 69 (((w64.setCell ⟨gb339, 0, none⟩ (.int .i64 ((rd_T69 l0_1 x69_2).f0))).setCell ⟨gb339, 1, none⟩ (.int .i64 ((rd_T69 l0_1 x69_2).f1))).setCell ⟨gb339, 2, none⟩ (.int .i64 ((rd_T69 l0_1 x69_2).f2))) w.heap.size (fun k_ => k_ ≠ gb339) u338001 x338001_2) := ⟨by (with_reducible repeat (first | apply Kd.R_alloc | apply Kd.R_drewN | apply Kd.R_drew)); exact Kd.R_mono (Kd.R_far (p := ⟨gb339, 2, none⟩) (Kd.R_far (p := ⟨gb339, 1, none⟩) (Kd.R_far (p := ⟨gb339, 0, none⟩) (Kd.R_mono HO_338001.out (fun k_ hk => (⟨hk, hk.2⟩ : _ ∧ k_ ≠ gb339))) (fun _ hk => hk.2) (.int .i64 ((rd_T69 l0_1 x69_2).f0))) (fun _ hk => hk.2) (.int .i64 ((rd_T69 l0_1 x69_2).f1))) (fun _ hk => hk.2) (.int .i64 ((rd_T69 l0_1 x69_2).f2))) (fun _ hk => hk.1.2)⟩
                  have n3_ : Aside0 ((((w64.setCell ⟨gb339, 0, none⟩ (.int .i64 ((rd_T69 l0_1 x69_2).f0))).setCell ⟨gb339, 1, none⟩ (.int .i64 ((rd_T69 l0_1 x69_2).f1))).setCell ⟨gb339, 2, none⟩ (.int .i64 ((rd_T69 l0_1 x69_2).f2))).heap[gb317]? = some (.cells #[.int .i64 a0_0, .slice (some ad338) l0_1.length c0_1] 24 (0, 0))) := ⟨by (with_reducible repeat (first | refine blk_drewN ?_ _ | refine blk_drew ?_ | refine blk_alloc ?_ _)); refine blk_far ?_ NB317_339.out _; (with_reducible repeat (first | refine blk_drewN ?_ _ | refine blk_drew ?_ | refine blk_alloc ?_ _)); refine blk_far ?_ NB317_339.out _; (with_reducible repeat (first | refine blk_drewN ?_ _ | refine blk_drew ?_ | refine blk_alloc ?_ _)); refine blk_far ?_ NB317_339.out _; (with_reducible repeat (first | refine blk_drewN ?_ _ | refine blk_drew ?_ | refine blk_alloc ?_ _)); exact BK317.out⟩
                  have n4_ : Aside0 ((((w64.setCell ⟨gb339, 0, none⟩ (.int .i64 ((rd_T69 l0_1 x69_2).f0))).setCell ⟨gb339, 1, none⟩ (.int .i64 ((rd_T69 l0_1 x69_2).f1))).setCell ⟨gb339, 2, none⟩ (.int .i64 ((rd_T69 l0_1 x69_2).f2))).heap[gb318]? = some (.cells #[.int .i64 0, .slice none 0 0] 24 (0, 0))) := ⟨by (with_reducible repeat (first | refine blk_drewN ?_ _ | refine blk_drew ?_ | refine blk_alloc ?_ _)); refine blk_far ?_ NB318_339.out _; (with_reducible repeat (first | refine blk_drewN ?_ _ | refine blk_drew ?_ | refine blk_alloc ?_ _)); refine blk_far ?_ NB318_339.out _; (with_reducible repeat (first | refine blk_drewN ?_ _ | refine blk_drew ?_ | refine blk_alloc ?_ _)); refine blk_far ?_ NB318_339.out _; (with_reducible repeat (first | refine blk_drewN ?_ _ | refine blk_drew ?_ | refine blk_alloc ?_ _)); exact BK318.out⟩
                  have n5_ : Aside0 ((((w64.setCell ⟨gb339, 0, none⟩ (.int .i64 ((rd_T69 l0_1 x69_2).f0))).setCell ⟨gb339, 1, none⟩ (.int .i64 ((rd_T69 l0_1 x69_2).f1))).setCell ⟨gb339, 2, none⟩ (.int .i64 ((rd_T69 l0_1 x69_2).f2))).heap[gb337]? = some (.cells #[.int .i64 (x8_1.length : Int), u338001] 24 (0, 0))) := ⟨by (with_reducible repeat (first | refine blk_drewN ?_ _ | refine blk_drew ?_ | refine blk_alloc ?_ _)); refine blk_far ?_ NB337_339.out _; (with_reducible repeat (first | refine blk_drewN ?_ _ | refine blk_drew ?_ | refine blk_alloc ?_ _)); refine blk_far ?_ NB337_339.out _; (with_reducible repeat (first | refine blk_drewN ?_ _ | refine blk_drew ?_ | refine blk_alloc ?_ _)); refine blk_far ?_ NB337_339.out _; (with_reducible repeat (first | refine blk_drewN ?_ _ | refine blk_drew ?_ | refine blk_alloc ?_ _)); exact BK337.out⟩
                  have n6_ : Aside0 ((((w64.setCell ⟨gb339, 0, none⟩ (.int .i64 ((rd_T69 l0_1 x69_2).f0))).setCell ⟨gb339, 1, none⟩ (.int .i64 ((rd_T69 l0_1 x69_2).f1))).setCell ⟨gb339, 2, none⟩ (.int .i64 ((rd_T69 l0_1 x69_2).f2))).heap[gb339]? = some (.cells #[.int .i64 ((rd_T69 l0_1 x69_2).f0), .int .i64 ((rd_T69 l0_1 x69_2).f1), .int .i64 ((rd_T69 l0_1 x69_2).f2)] 69 (0, 0))) := ⟨by (with_reducible repeat (first | refine blk_drewN ?_ _ | refine blk_drew ?_ | refine blk_alloc ?_ _)); refine blk_put (cs := #[.int .i64 ((rd_T69 l0_1 x69_2).f0), .int .i64 ((rd_T69 l0_1 x69_2).f1), .int .i64 0]) ?_ 2 _ rfl; (with_reducible repeat (first | refine blk_drewN ?_ _ | refine blk_drew ?_ | refine blk_alloc ?_ _)); refine blk_put (cs := #[.int .i64 ((rd_T69 l0_1 x69_2).f0), .int .i64 0, .int .i64 0]) ?_ 1 _ rfl; (with_reducible repeat (first | refine blk_drewN ?_ _ | refine blk_drew ?_ | refine blk_alloc ?_ _)); refine blk_put (cs := #[.int .i64 0, .int .i64 0, .int .i64 0]) ?_ 0 _ rfl; (with_reducible repeat (first | refine blk_drewN ?_ _ | refine blk_drew ?_ | refine blk_alloc ?_ _)); exact BK339.out⟩
                  have n7_ : Aside0 (Below w.heap.size w (((w64.setCell ⟨gb339, 0, none⟩ (.int .i64 ((rd_T69 l0_1 x69_2).f0))).setCell ⟨gb339, 1, none⟩ (.int .i64 ((rd_T69 l0_1 x69_2).f1))).setCell ⟨gb339, 2, none⟩ (.int .i64 ((rd_T69 l0_1 x69_2).f2)))) := ⟨by repeat (first | (with_reducible first | exact HB.out | apply below_alloc | apply pw_below_drewN | apply below_drew1 | refine below_set ?_ GE317.out | refine below_set ?_ GE318.out | refine below_set ?_ GE337.out | refine below_set ?_ GE339.out) | exact HB.out)⟩
                  (try clear HO_8)
                  (try clear HO_9)
                  (try clear HO_338001)
                  (try clear BK317)
                  (try clear BK318)
                  (try clear BK337)
                  (try clear BK339)
                  (try clear HB)
                  generalize (((w64.setCell ⟨gb339, 0, none⟩ (.int .i64 ((rd_T69 l0_1 x69_2).f0))).setCell ⟨gb339, 1, none⟩ (.int .i64 ((rd_T69 l0_1 x69_2).f1))).setCell ⟨gb339, 2, none⟩ (.int .i64 ((rd_T69 l0_1 x69_2).f2))) = w69 at n0_ n1_ n2_ n3_ n4_ n5_ n6_ n7_ ⊢
                  have HO_8 := n0_
                  have HO_9 := n1_
                  have HO_338001 := n2_
                  have BK317 := n3_
                  have BK318 := n4_
                  have BK337 := n5_
                  have BK339 := n6_
                  have HB := n7_
                  clear n0_ n1_ n2_ n3_ n4_ n5_ n6_ n7_
                  have n0_ := Aside0.mk (Kd.R_drew HO_8.out)
                  have n1_ := Aside0.mk (Kd.R_drew HO_9.out)
                  have n2_ := Aside0.mk (Kd.R_drew HO_338001.out)
                  have n3_ := Aside0.mk (blk_drew BK317.out)
                  have n4_ := Aside0.mk (blk_drew BK318.out)
                  have n5_ := Aside0.mk (blk_drew BK337.out)
                  have n6_ := Aside0.mk (blk_drew BK339.out)
                  have n7_ := Aside0.mk (below_drew1 HB.out)
                  clear HO_8
                  clear HO_9
                  clear HO_338001
                  clear BK317
                  clear BK318
                  clear BK337
                  clear BK339
                  clear HB
                  have HO_8 := n0_
                  have HO_9 := n1_
                  have HO_338001 := n2_
                  have BK317 := n3_
                  have BK318 := n4_
                  have BK337 := n5_
                  have BK339 := n6_
                  have HB := n7_
                  clear n0_ n1_ n2_ n3_ n4_ n5_ n6_ n7_
                  obtain ⟨Ao71, co71, eo71⟩ := Kd.R_slice HO_9.out
                  (first | subst eo71 | (injection eo71 with f1_ f2_ f3_; have f4_ := f1_.symm; have f5_ := f3_.symm; clear f1_ f2_ f3_; subst f4_; subst f5_))
                  have p340 : 0 ≤ (((rd_T69 l0_1 x69_2).f0) : Int) := of_decide_eq_true zh
                  have q340 : ((rd_T69 l0_1 x69_2).f0) < (x9_1.length : Int) := of_decide_eq_true zh
                  obtain ⟨ad340, e340, hx340_0⟩ := Kd.at_int (Kd.R_reads' HO_9.out).2.2 ((rd_T69 l0_1 x69_2).f0) p340 q340
                  cases e340
                  replace p340 := eq_true p340
                  replace q340 := eq_true q340
                  have p341 : 0 ≤ (((rd_T69 l0_1 x69_2).f1) : Int) := of_decide_eq_true zh
                  have q341 : ((rd_T69 l0_1 x69_2).f1) < (x9_1.length : Int) := of_decide_eq_true zh
                  obtain ⟨ad341, e341, hx341_0⟩ := Kd.at_int (Kd.R_reads' HO_9.out).2.2 ((rd_T69 l0_1 x69_2).f1) p341 q341
                  obtain rfl : ad340 = ad341 := (by injection e341)
                  replace p341 := eq_true p341
                  replace q341 := eq_true q341
                  refine start_ (n := 12) (S := fun w' => w'.cell? ⟨gb339, 0, none⟩ = some (.int .i64 ((rd_T69 l0_1 x69_2).f0)) ∧ w'.cell? ⟨gb339, 1, none⟩ = some (.int .i64 ((rd_T69 l0_1 x69_2).f1)) ∧ w'.cell? ⟨gb339, 2, none⟩ = some (.int .i64 ((rd_T69 l0_1 x69_2).f2)) ∧ w'.cell? (ad340.add (((rd_T69 l0_1 x69_2).f0)).toNat) = some (.int .i64 (rd x9_1 ((rd_T69 l0_1 x69_2).f0))) ∧ w'.cell? (ad340.add (((rd_T69 l0_1 x69_2).f1)).toNat) = some (.int .i64 (rd x9_1 ((rd_T69 l0_1 x69_2).f1)))) (ds := []) #[false, false, false, false, false, false, false, false, false, false, false, false] zK rfl rfl ⟨(blk_cell BK339.out 0).trans rfl, (blk_cell BK339.out 1).trans rfl, (blk_cell BK339.out 2).trans rfl, hx340_0, hx341_0⟩ (fun hHeld => ?_); refine with_tabW dag_Trim.tab21 dag_Trim.bits21 (fun HT_ HW_ => ?_)
                  generalize w69.drew = w70 at HO_8 HO_9 HO_338001 BK317 BK318 BK337 BK339 HB hx340_0 hx341_0 hHeld ⊢
                  refine pure_ (i := 0) (N := some 73) (v := ?_) (a' := ?_) #[true, false, false, false, false, false, false, false, false, false, false, false] rfl rfl (any_of HT_.out zK) (fun _ _ _ h => h) (Or.inl ⟨by rfl, ?_⟩) ?_ ?_
                  rotate_left
                  ·intro w'
                   go_simp
                   with_reducible rfl
                  rotate_left
                  ·simp only [Act.put, List.setIfInBounds_toArray, List.set_cons_zero, List.set_cons_succ, i64_w, i32_w]
                   rfl
                  refine pure_ (i := 1) (N := some 74) (v := ?_) (a' := ?_) #[true, true, false, false, false, false, false, false, false, false, false, false] rfl rfl (any_of HT_.out zK) (fun _ _ _ h => h) (Or.inl ⟨by rfl, ?_⟩) ?_ ?_
                  rotate_left
                  ·intro w'
                   go_simp
                   with_reducible rfl
                  rotate_left
                  ·simp only [Act.put, List.setIfInBounds_toArray, List.set_cons_zero, List.set_cons_succ, i64_w, i32_w]
                   rfl
                  refine pure_ (i := 5) (N := some 78) (v := ?_) (a' := ?_) #[true, true, false, false, false, true, false, false, false, false, false, false] rfl rfl (any_of HT_.out zK) (fun _ _ _ h => h) (Or.inl ⟨by rfl, ?_⟩) ?_ ?_
                  rotate_left
                  ·intro w'
                   go_simp
                   with_reducible rfl
                  rotate_left
                  ·simp only [Act.put, List.setIfInBounds_toArray, List.set_cons_zero, List.set_cons_succ, i64_w, i32_w]
                   rfl
                  refine pure_ (i := 6) (N := some 79) (v := ?_) (a' := ?_) #[true, true, false, false, false, true, true, false, false, false, false, false] rfl rfl (any_of HT_.out zK) (fun _ _ _ h => h) (Or.inl ⟨by rfl, ?_⟩) ?_ ?_
                  rotate_left
                  ·intro w'
                   go_simp
                   with_reducible rfl
                  rotate_left
                  ·simp only [Act.put, List.setIfInBounds_toArray, List.set_cons_zero, List.set_cons_succ, i64_w, i32_w]
                   rfl
                  refine take_ (i := 2) (N := some 75) (v := ?_) (a' := ?_) #[true, true, true, false, false, true, true, false, false, false, false, false] rfl rfl (take_ofW HT_.out HW_.out zK) (fun _ _ _ h => h) (Or.inl ⟨by rfl, ?_⟩) hHeld ?_ ?_
                  rotate_left
                  ·rintro w' ⟨s0, s1, s2, s3, s4⟩
                   go_simp
                   with_reducible rfl
                  rotate_left
                  ·simp only [Act.put, List.setIfInBounds_toArray, List.set_cons_zero, List.set_cons_succ, i64_w, i32_w]
                   rfl
                  refine pure_ (i := 3) (N := some 76) (v := ?_) (a' := ?_) #[true, true, true, true, false, true, true, false, false, false, false, false] rfl rfl (any_of HT_.out zK) (fun _ _ _ h => h) (Or.inl ⟨by rfl, ?_⟩) ?_ ?_
                  rotate_left
                  ·intro w'
                   go_simp
                   with_reducible rfl
                  rotate_left
                  ·simp only [Act.put, List.setIfInBounds_toArray, List.set_cons_zero, List.set_cons_succ, i64_w, i32_w]
                   rfl
                  refine take_ (i := 4) (N := some 77) (v := ?_) (a' := ?_) #[true, true, true, true, true, true, true, false, false, false, false, false] rfl rfl (take_ofW HT_.out HW_.out zK) (fun _ _ _ h => h) (Or.inl ⟨by rfl, ?_⟩) hHeld ?_ ?_
                  rotate_left
                  ·rintro w' ⟨s0, s1, s2, s3, s4⟩
                   go_simp
                   with_reducible rfl
                  rotate_left
                  ·simp only [Act.put, List.setIfInBounds_toArray, List.set_cons_zero, List.set_cons_succ, i64_w, i32_w]
                   rfl
                  refine pure_ (i := 10) (N := some 14) (v := ?_) (a' := ?_) #[true, true, true, true, true, true, true, false, false, false, true, false] rfl rfl (any_of HT_.out zK) (fun _ _ _ h => h) (Or.inl ⟨by rfl, ?_⟩) ?_ ?_
                  rotate_left
                  ·intro w'
                   go_simp
                   with_reducible rfl
                  rotate_left
                  ·simp only [Act.put, List.setIfInBounds_toArray, List.set_cons_zero, List.set_cons_succ, i64_w, i32_w]
                   rfl
                  refine take_ (i := 7) (N := some 80) (v := ?_) (a' := ?_) #[true, true, true, true, true, true, true, true, false, false, true, false] rfl rfl (take_ofW HT_.out HW_.out zK) (fun _ _ _ h => h) (Or.inl ⟨by rfl, ?_⟩) hHeld ?_ ?_
                  rotate_left
                  ·rintro w' ⟨s0, s1, s2, s3, s4⟩
                   go_simp
                   with_reducible rfl
                  rotate_left
                  ·simp only [Act.put, List.setIfInBounds_toArray, List.set_cons_zero, List.set_cons_succ, i64_w, i32_w]
                   rfl
                  refine pure_ (i := 8) (N := some 81) (v := ?_) (a' := ?_) #[true, true, true, true, true, true, true, true, true, false, true, false] rfl rfl (any_of HT_.out zK) (fun _ _ _ h => h) (Or.inl ⟨by rfl, ?_⟩) ?_ ?_
                  rotate_left
                  ·intro w'
                   go_simp
                   with_reducible rfl
                  rotate_left
                  ·simp only [Act.put, List.setIfInBounds_toArray, List.set_cons_zero, List.set_cons_succ, i64_w, i32_w]
                   rfl
                  refine take_ (i := 9) (N := some 82) (v := ?_) (a' := ?_) #[true, true, true, true, true, true, true, true, true, true, true, false] rfl rfl (take_ofW HT_.out HW_.out zK) (fun _ _ _ h => h) (Or.inl ⟨by rfl, ?_⟩) hHeld ?_ ?_
                  rotate_left
                  ·rintro w' ⟨s0, s1, s2, s3, s4⟩
                   go_simp
                   with_reducible rfl
                  rotate_left
                  ·simp only [Act.put, List.setIfInBounds_toArray, List.set_cons_zero, List.set_cons_succ, i64_w, i32_w]
                   rfl
                  refine pure_ (i := 11) (N := some 15) (v := ?_) (a' := ?_) #[true, true, true, true, true, true, true, true, true, true, true, true] rfl rfl (any_of HT_.out zK) (fun _ _ _ h => h) (Or.inl ⟨by rfl, ?_⟩) ?_ ?_
                  rotate_left
                  ·intro w'
                   go_simp
                   with_reducible rfl
                  rotate_left
                  ·simp only [Act.put, List.setIfInBounds_toArray, List.set_cons_zero, List.set_cons_succ, i64_w, i32_w]
                   rfl
                  refine done_ (done_of HT_.out zK) ?_
                  go_upto_region 22 with (fail)
                  (try simp only [Act.put, List.setIfInBounds_toArray, List.set_cons_zero, List.set_cons_succ])
                  have H := HC63.out
                  clear HC63
                  by_cases c72 : (rd x9_1 ((rd_T69 l0_1 x69_2).f0)) ≥ 0
                  ·rw [if_pos c72] at H
                   have c72b0 : decide (0 ≤ (rd x9_1 ((rd_T69 l0_1 x69_2).f0))) = true := decide_eq_true c72
                   clear c72
                   (first | rw [c72b0] | (simp only [i64_w, i32_w]; rw [c72b0]) | skip)
                   by_cases c73 : (rd x9_1 ((rd_T69 l0_1 x69_2).f1)) ≥ 0
                   ·rw [if_pos c73] at H
                    have c73b0 : decide (0 ≤ (rd x9_1 ((rd_T69 l0_1 x69_2).f1))) = true := decide_eq_true c73
                    clear c73
                    by_cases c74 : x338001_2.length < 5864062014805
                    ·rw [if_pos c74] at H
                     have LMc74 := Aside0.mk c74
                     clear c74
                     obtain ⟨y342, hy342⟩ : ∃ y_ : List (S69), y_ = (x338001_2 ++ [(⟨rd x9_1 ((rd_T69 l0_1 x69_2).f0), rd x9_1 ((rd_T69 l0_1 x69_2).f1), (rd_T69 l0_1 x69_2).f2⟩ : S69)]) := ⟨_, rfl⟩
                     replace H : (dag_Trim.l1 k2 x8_1 x9_1 l0_1 (l0_1.length : Int) (wrap64 (x69_2 + 1)) (x8_1.length : Int) y342) = some (r1, r2, r3, r4) := by first | (rw [hy342]; with_reducible exact H) | (have H2_ := (Option.bind_some _ _).symm.trans H; rw [hy342]; with_reducible exact H2_) | (have H2_ := (Option.bind_some _ _).symm.trans H; with_reducible exact H2_) | with_reducible exact H | (rw [hy342]; exact H) | exact H
                     have Ny342 := Aside0.mk hy342
                     clear hy342
                     have H' := Aside0.mk H
                     clear H
                     have hnb75 := NB337_317.out
                     have hnc75 := NB317_337.out
                     have hnb76 := NB337_318.out
                     have hnc76 := NB318_337.out
                     have hnb77 := NB337_339.out
                     have hnc77 := NB339_337.out
                     have hcz78_0 : w70.cell? ⟨gb337, 0, none⟩ = some (.int .i64 (x8_1.length : Int)) := (blk_cell BK337.out 0).trans rfl
                     have hcz78_1 : w70.cell? ⟨gb337, 1, none⟩ = some (u338001) := (blk_cell BK337.out 1).trans rfl
                     have hfz78_0 := blk_frozen BK337.out 0
                     have hfz78_1 := blk_frozen BK337.out 1
                     have hnb79 := NB339_317.out
                     have hnc79 := NB317_339.out
                     have hnb80 := NB339_318.out
                     have hnc80 := NB318_339.out
                     have hcz81_0 : w70.cell? ⟨gb339, 0, none⟩ = some (.int .i64 ((rd_T69 l0_1 x69_2).f0)) := (blk_cell BK339.out 0).trans rfl
                     have hcz81_1 : w70.cell? ⟨gb339, 1, none⟩ = some (.int .i64 ((rd_T69 l0_1 x69_2).f1)) := (blk_cell BK339.out 1).trans rfl
                     have hcz81_2 : w70.cell? ⟨gb339, 2, none⟩ = some (.int .i64 ((rd_T69 l0_1 x69_2).f2)) := (blk_cell BK339.out 2).trans rfl
                     have hfz81_0 := blk_frozen BK339.out 0
                     have hfz81_1 := blk_frozen BK339.out 1
                     have hfz81_2 := blk_frozen BK339.out 2
                     go_wp2_with (first | ((with_reducible refine gate_builtin (b := .append) (xs := #[.tmp 90, .tmp 96]) rfl ?_); at_builtin; refine Kd.R_append k69 (w0 := w) w.heap.size rfl (.tmp 90) (.tmp 96) 22 69 (.agg #[(.int .i64 0), (.int .i64 0), (.int .i64 0)]) 24 rfl Try.underlying22 info69 rfl (by decide) (by omega) u338001 x338001_2 (⟨rd x9_1 ((rd_T69 l0_1 x69_2).f0), rd x9_1 ((rd_T69 l0_1 x69_2).f1), (rd_T69 l0_1 x69_2).f2⟩ : S69) [.int .i64 (rd x9_1 ((rd_T69 l0_1 x69_2).f0)), .int .i64 (rd x9_1 ((rd_T69 l0_1 x69_2).f1)), .int .i64 ((rd_T69 l0_1 x69_2).f2)] (fun k_ => k_ ≠ gb339) (fun _ => False) rfl rfl ?aP (fun _ hk => hk.elim) ?aF ?aO ?aB ?aS ?aL ?_; (case aP => exact k69_mkM _ _ _ (⟨rd x9_1 ((rd_T69 l0_1 x69_2).f0), rd x9_1 ((rd_T69 l0_1 x69_2).f1), (rd_T69 l0_1 x69_2).f2⟩ : S69)); (case aB => exact zB); (case aF => exact (fun k_ hk => Kd.freshB (g := gb339) (o := .cells #[.int .i64 ((rd_T69 l0_1 x69_2).f0), .int .i64 ((rd_T69 l0_1 x69_2).f1), .int .i64 ((rd_T69 l0_1 x69_2).f2)] 69 (0, 0)) (zk BK339) k_ hk)); (case aO => exact (zR HO_338001)); (case aS => exact (below_size zB)); (case aL => have := LMc74.out; omega); intro v343 w82 ho hb hg hat; rw [← Ny342.out] at ho; have n0_ := Aside0.mk (Kd.R_over' (zR HO_8) (Kd.R_typed (zR HO_338001)) (by decide) hg); have n1_ := Aside0.mk (Kd.R_over' (zR HO_9) (Kd.R_typed (zR HO_338001)) (by decide) hg); have n2_ := Aside0.mk (blk_grown (g := gb317) (o := .cells #[.int .i64 a0_0, .slice (some ad338) l0_1.length c0_1] 24 (0, 0)) (zk BK317) hg (Kd.R_ne HO_338001.out BK317.out (by decide))); have n3_ := Aside0.mk (blk_grown (g := gb318) (o := .cells #[.int .i64 0, .slice none 0 0] 24 (0, 0)) (zk BK318) hg (Kd.R_ne HO_338001.out BK318.out (by decide))); have n4_ := Aside0.mk (blk_grown (g := gb337) (o := .cells #[.int .i64 (x8_1.length : Int), u338001] 24 (0, 0)) (zk BK337) hg (Kd.R_ne HO_338001.out BK337.out (by decide))); have n5_ := Aside0.mk (blk_grown (g := gb339) (o := .cells #[.int .i64 ((rd_T69 l0_1 x69_2).f0), .int .i64 ((rd_T69 l0_1 x69_2).f1), .int .i64 ((rd_T69 l0_1 x69_2).f2)] 69 (0, 0)) (zk BK339) hg (Kd.R_away HO_338001.out (fun _ hk => hk))); have n6_ := Aside0.mk (hb); have n7_ := Aside0.mk (ho); clear HO_8; clear HO_9; clear BK317; clear BK318; clear BK337; clear BK339; clear HB; clear HO_338001; have HO_8 := n0_; have HO_9 := n1_; have BK317 := n2_; have BK318 := n3_; have BK337 := n4_; have BK339 := n5_; have HB := n6_; have HO344 := n7_; clear n0_ n1_ n2_ n3_ n4_ n5_ n6_ n7_; clear ho hb hg hat; obtain ⟨Ao83, co83, eo83⟩ := Kd.R_slice HO344.out; subst eo83; have hcz84_0 : w82.cell? ⟨gb337, 0, none⟩ = some (.int .i64 (x8_1.length : Int)) := (blk_cell BK337.out 0).trans rfl; have hcz84_1 : w82.cell? ⟨gb337, 1, none⟩ = some (u338001) := (blk_cell BK337.out 1).trans rfl; have hfz84_0 := blk_frozen BK337.out 0; have hfz84_1 := blk_frozen BK337.out 1))
                     go_roundg k2
                     case measure => have := HK1.out; have := HK2.out; omega
                     case rel => exact ⟨(wrap64 (x69_2 + 1)), (y342), (.slice Ao83 y342.length co83), zT, H', ⟨by have := HK1.out; have := HK2.out; omega⟩, ⟨by (with_reducible repeat (first | apply Kd.R_alloc | apply Kd.R_drewN | apply Kd.R_drew)); exact Kd.R_mono (Kd.R_far (p := ⟨gb337, 1, none⟩) (Kd.R_types HO_8.out BK337.out (by decide)) (fun _ hk => hk.2) (.slice Ao83 y342.length co83)) (fun _ hk => hk.1)⟩, ⟨by (with_reducible repeat (first | apply Kd.R_alloc | apply Kd.R_drewN | apply Kd.R_drew)); exact Kd.R_mono (Kd.R_far (p := ⟨gb337, 1, none⟩) (Kd.R_types HO_9.out BK337.out (by decide)) (fun _ hk => hk.2) (.slice Ao83 y342.length co83)) (fun _ hk => hk.1)⟩, ⟨by (with_reducible repeat (first | apply Kd.R_alloc | apply Kd.R_drewN | apply Kd.R_drew)); exact Kd.R_mono (Kd.R_far (p := ⟨gb337, 1, none⟩) (Kd.R_types HO344.out BK337.out (by decide)) (fun _ hk => hk.2) (.slice Ao83 y342.length co83)) (fun _ hk => trivial)⟩, ⟨by (with_reducible repeat (first | refine blk_drewN ?_ _ | refine blk_drew ?_ | refine blk_alloc ?_ _)); refine blk_far ?_ NB317_337.out _; (with_reducible repeat (first | refine blk_drewN ?_ _ | refine blk_drew ?_ | refine blk_alloc ?_ _)); exact BK317.out⟩, ⟨by (with_reducible repeat (first | refine blk_drewN ?_ _ | refine blk_drew ?_ | refine blk_alloc ?_ _)); refine blk_far ?_ NB318_337.out _; (with_reducible repeat (first | refine blk_drewN ?_ _ | refine blk_drew ?_ | refine blk_alloc ?_ _)); exact BK318.out⟩, ⟨by (with_reducible repeat (first | refine blk_drewN ?_ _ | refine blk_drew ?_ | refine blk_alloc ?_ _)); refine blk_put (cs := #[.int .i64 (x8_1.length : Int), u338001]) ?_ 1 _ rfl; (with_reducible repeat (first | refine blk_drewN ?_ _ | refine blk_drew ?_ | refine blk_alloc ?_ _)); exact BK337.out⟩, ⟨by repeat (first | (with_reducible first | exact HB.out | apply below_alloc | apply pw_below_drewN | apply below_drew1 | refine below_set ?_ GE317.out | refine below_set ?_ GE318.out | refine below_set ?_ GE337.out | refine below_set ?_ GE339.out) | exact HB.out)⟩⟩
                    ·rw [if_neg c74] at H
                     exact absurd H (by simp)
                   ·rw [if_neg c73] at H
                    have c73b0 : decide (0 ≤ (rd x9_1 ((rd_T69 l0_1 x69_2).f1))) = false := decide_eq_false c73
                    clear c73
                    have H' := Aside0.mk H
                    clear H
                    go_wp2
                    go_roundg k2
                    case measure => have := HK1.out; have := HK2.out; omega
                    case rel => exact ⟨(wrap64 (x69_2 + 1)), (x338001_2), (u338001), zT, H', ⟨by have := HK1.out; have := HK2.out; omega⟩, ⟨by (with_reducible repeat (first | apply Kd.R_alloc | apply Kd.R_drewN | apply Kd.R_drew)); exact HO_8.out⟩, ⟨by (with_reducible repeat (first | apply Kd.R_alloc | apply Kd.R_drewN | apply Kd.R_drew)); exact HO_9.out⟩, ⟨by (with_reducible repeat (first | apply Kd.R_alloc | apply Kd.R_drewN | apply Kd.R_drew)); exact Kd.R_mono HO_338001.out (fun _ hk => trivial)⟩, ⟨by (with_reducible repeat (first | refine blk_drewN ?_ _ | refine blk_drew ?_ | refine blk_alloc ?_ _)); exact BK317.out⟩, ⟨by (with_reducible repeat (first | refine blk_drewN ?_ _ | refine blk_drew ?_ | refine blk_alloc ?_ _)); exact BK318.out⟩, ⟨by (with_reducible repeat (first | refine blk_drewN ?_ _ | refine blk_drew ?_ | refine blk_alloc ?_ _)); exact BK337.out⟩, ⟨by repeat (first | (with_reducible first | exact HB.out | apply below_alloc | apply pw_below_drewN | apply below_drew1 | refine below_set ?_ GE317.out | refine below_set ?_ GE318.out | refine below_set ?_ GE337.out | refine below_set ?_ GE339.out) | exact HB.out)⟩⟩
                  ·rw [if_neg c72] at H
                   have c72b0 : decide (0 ≤ (rd x9_1 ((rd_T69 l0_1 x69_2).f0))) = false := decide_eq_false c72
                   clear c72
                   (first | rw [c72b0] | (simp only [i64_w, i32_w]; rw [c72b0]) | skip)
                   have H' := Aside0.mk H
                   clear H
                   go_wp2
                   go_roundg k2
                   case measure => have := HK1.out; have := HK2.out; omega
                   case rel => exact ⟨(wrap64 (x69_2 + 1)), (x338001_2), (u338001), zT, H', ⟨by have := HK1.out; have := HK2.out; omega⟩, ⟨by (with_reducible repeat (first | apply Kd.R_alloc | apply Kd.R_drewN | apply Kd.R_drew)); exact HO_8.out⟩, ⟨by (with_reducible repeat (first | apply Kd.R_alloc | apply Kd.R_drewN | apply Kd.R_drew)); exact HO_9.out⟩, ⟨by (with_reducible repeat (first | apply Kd.R_alloc | apply Kd.R_drewN | apply Kd.R_drew)); exact Kd.R_mono HO_338001.out (fun _ hk => trivial)⟩, ⟨by (with_reducible repeat (first | refine blk_drewN ?_ _ | refine blk_drew ?_ | refine blk_alloc ?_ _)); exact BK317.out⟩, ⟨by (with_reducible repeat (first | refine blk_drewN ?_ _ | refine blk_drew ?_ | refine blk_alloc ?_ _)); exact BK318.out⟩, ⟨by (with_reducible repeat (first | refine blk_drewN ?_ _ | refine blk_drew ?_ | refine blk_alloc ?_ _)); exact BK337.out⟩, ⟨by repeat (first | (with_reducible first | exact HB.out | apply below_alloc | apply pw_below_drewN | apply below_drew1 | refine below_set ?_ GE317.out | refine below_set ?_ GE318.out | refine below_set ?_ GE337.out | refine below_set ?_ GE339.out) | exact HB.out)⟩⟩
                 ·rw [if_neg c62] at H
                  exact absurd H (by simp)
                ·rw [if_neg c61] at H
                 exact absurd H (by simp)
               ·rw [if_neg c60] at H
                exact absurd H (by simp)
              ·rw [if_neg c59] at H
               exact absurd H (by simp)
             ·rw [if_neg c58] at H
              exact absurd H (by simp)
            ·rw [if_neg c57] at H
             exact absurd H (by simp)
           ·rw [if_neg c56] at H
            have c56b0 : decide (x69_2 < (l0_1.length : Int)) = false := decide_eq_false c56
            clear c56
            simp only [Option.some.injEq, Prod.mk.injEq] at H
            obtain ⟨rfl, rfl, rfl, rfl⟩ := H
            have hnb85 := NB337_317.out
            have hnc85 := NB317_337.out
            have hnb86 := NB337_318.out
            have hnc86 := NB318_337.out
            have hcz87_0 : wr.cell? ⟨gb337, 0, none⟩ = some (.int .i64 (x8_1.length : Int)) := (blk_cell BK337.out 0).trans rfl
            have hcz87_1 : wr.cell? ⟨gb337, 1, none⟩ = some (u338001) := (blk_cell BK337.out 1).trans rfl
            have hfz87_0 := blk_frozen BK337.out 0
            have hfz87_1 := blk_frozen BK337.out 1
            have hnb88 := NB318_317.out
            have hnc88 := NB317_318.out
            have hcz89_0 : wr.cell? ⟨gb318, 0, none⟩ = some (.int .i64 0) := (blk_cell BK318.out 0).trans rfl
            have hcz89_1 : wr.cell? ⟨gb318, 1, none⟩ = some (.slice none 0 0) := (blk_cell BK318.out 1).trans rfl
            have hfz89_0 := blk_frozen BK318.out 0
            have hfz89_1 := blk_frozen BK318.out 1
            obtain ⟨Ao90, co90, eo90⟩ := Kd.R_slice HO_338001.out
            subst eo90
            go_wp2
            refine bodyPost_ret (results_ctt rfl _ _ gb318 24 #[.int .i64 (x8_1.length : Int), .slice Ao90 x338001_2.length co90] (0, 0) _ rfl (by (with_reducible repeat (first | refine blk_drewN ?_ _ | refine blk_drew ?_ | refine blk_alloc ?_ _)); refine blk_put (cs := #[.int .i64 (x8_1.length : Int), .slice none 0 0]) ?_ 1 _ rfl; (with_reducible repeat (first | refine blk_drewN ?_ _ | refine blk_drew ?_ | refine blk_alloc ?_ _)); refine blk_put (cs := #[.int .i64 0, .slice none 0 0]) ?_ 0 _ rfl; (with_reducible repeat (first | refine blk_drewN ?_ _ | refine blk_drew ?_ | refine blk_alloc ?_ _)); exact BK318.out) Try.underlying24 rfl zK) rfl ?_
            exact ⟨_, _, by first | rfl | (simp [errW_none, errW_some] <;> rfl) | (simp [*, errW_none, errW_some] <;> rfl), by (with_reducible repeat (first | apply Kd.R_alloc | apply Kd.R_drewN | apply Kd.R_drew)); exact Kd.R_mono (Kd.R_far (p := ⟨gb318, 1, none⟩) (Kd.R_far (p := ⟨gb318, 0, none⟩) (Kd.R_types HO_338001.out BK318.out (by decide)) (fun _ hk => hk.2) (.int .i64 (x8_1.length : Int))) (fun _ hk => hk.2) (.slice Ao90 x338001_2.length co90)) (fun _ hk => trivial), by (with_reducible repeat (first | apply Kd.R_alloc | apply Kd.R_drewN | apply Kd.R_drew)); exact Kd.R_mono (Kd.R_far (p := ⟨gb318, 1, none⟩) (Kd.R_far (p := ⟨gb318, 0, none⟩) (Kd.R_types HO_8.out BK318.out (by decide)) (fun _ hk => hk.2) (.int .i64 (x8_1.length : Int))) (fun _ hk => hk.2) (.slice Ao90 x338001_2.length co90)) (fun _ hk => trivial), by repeat (first | (with_reducible first | exact HB.out | apply below_alloc | apply pw_below_drewN | apply below_drew1 | refine below_set ?_ GE317.out | refine below_set ?_ GE318.out | refine below_set ?_ GE337.out) | exact HB.out)⟩
     ·rw [if_neg c22] at H
      exact absurd H (by simp)
    ·rw [if_neg c21] at H
     exact absurd H (by simp)
  ·rw [if_neg c12] at H
   exact absurd H (by simp)
 ·rw [if_neg c9] at H
  have c9b0 : (t319 == 0) = false := beq_eq_false_iff_ne.mpr c9
  have c9b1 : (t319 != 0) = true := bne_iff_ne.mpr c9
  (first | rw [c9b0] | (simp only [i64_w, i32_w]; rw [c9b0]) | skip)
  (try rw [c9b1])
  simp only [Option.some.injEq, Prod.mk.injEq] at H
  obtain ⟨rfl, rfl, rfl, rfl⟩ := H
  have hnb91 := NB318_317.out
  have hnc91 := NB317_318.out
  have hcz92_0 : w8.cell? ⟨gb318, 0, none⟩ = some (.int .i64 0) := (blk_cell BK318.out 0).trans rfl
  have hcz92_1 : w8.cell? ⟨gb318, 1, none⟩ = some (.slice none 0 0) := (blk_cell BK318.out 1).trans rfl
  have hfz92_0 := blk_frozen BK318.out 0
  have hfz92_1 := blk_frozen BK318.out 1
  go_wp2
  refine bodyPost_ret (results_ctt rfl _ _ gb318 24 #[.int .i64 0, .slice none 0 0] (0, 0) _ rfl (by (with_reducible repeat (first | refine blk_drewN ?_ _ | refine blk_drew ?_ | refine blk_alloc ?_ _)); refine blk_put (cs := #[.int .i64 0, .slice none 0 0]) ?_ 1 _ rfl; (with_reducible repeat (first | refine blk_drewN ?_ _ | refine blk_drew ?_ | refine blk_alloc ?_ _)); refine blk_put (cs := #[.int .i64 0, .slice none 0 0]) ?_ 0 _ rfl; (with_reducible repeat (first | refine blk_drewN ?_ _ | refine blk_drew ?_ | refine blk_alloc ?_ _)); exact BK318.out) Try.underlying24 rfl zK) rfl ?_
  exact ⟨_, _, by first | rfl | (simp [errW_none, errW_some] <;> rfl) | (simp [*, errW_none, errW_some] <;> rfl), by first | exact Kd.R_nil _ _ _ _ _ | exact Kd.N_nil _ _ _ _ _ | exact Kd.V_nil _ _ _ _ _ | exact Kd.Q_nil _ _ _ _ _ | exact Kd.S_nil _ _ _ _ _, by first | exact Kd.R_nil _ _ _ _ _ | exact Kd.N_nil _ _ _ _ _ | exact Kd.V_nil _ _ _ _ _ | exact Kd.Q_nil _ _ _ _ _ | exact Kd.S_nil _ _ _ _ _, by repeat (first | (with_reducible first | exact HB.out | apply below_alloc | apply pw_below_drewN | apply below_drew1 | refine below_set ?_ GE317.out | refine below_set ?_ GE318.out) | exact HB.out)⟩
end Go.Proofs.Ytanbffoilianhaa.F
