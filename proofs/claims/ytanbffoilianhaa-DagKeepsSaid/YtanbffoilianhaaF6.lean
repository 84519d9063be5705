-- Written by wip/tools/myprint.py, a program of this session's.
import Derived.Test.YtanbffoilianhaaF0
import Derived.Test.YtanbffoilianhaaF1
import Derived.Test.YtanbffoilianhaaF5
namespace Go.Proofs.Ytanbffoilianhaa.F
open Go.RowKit Go.Proofs.YtanbffoilianhaaW.PrintWords Go.Proofs.YtanbffoilianhaaW.PrintLast Go.Proofs.YtanbffoilianhaaW.PrintMore
attribute [local go_sem] max2_int min2_int max_two min_two max_three min_three max_four min_four   -- for this text's walks alone
set_option linter.unusedVariables false
set_option linter.unusedSimpArgs false
/-! ### ancepsref09_Paths: function 22 -/
def ancepsref09_Paths.f (k : Nat) (a0_0 : Int) (l0_1 : List (S69)) : Option ((List (List Int)) × Int) := (ancepsref09_Valid.f k a0_0 l0_1).bind fun t299 => (if t299 = 0 then ((ancepsref09_ways.f k a0_0 l0_1).bind fun t300 => (if 0 < (t300.length : Int) then (if (rd t300 0) > 2000 then (some (([] : List (List Int)), 3)) else (if (rd t300 0) = 0 then (some (([] : List (List Int)), 0)) else ((ancepsref09_from.f k a0_0 l0_1 t300 0).bind fun t305 => (some (t305, 0))))) else (none))) else (some (([] : List (List Int)), t299)))
theorem ancepsref09_Paths.mono : ∀ a0 a1 k, LeO (ancepsref09_Paths.f k a0 a1) (ancepsref09_Paths.f (k + 1) a0 a1) := by
 intro a0 a1 k
 unfold ancepsref09_Paths.f
 repeat' first
   | (with_reducible exact ancepsref09_Valid.mono _ _ _)
   | (with_reducible exact ancepsref09_from.mono _ _ _ _ _)
   | (with_reducible exact ancepsref09_ways.mono _ _ _)
   | (with_reducible exact LeO.refl _)
   | (with_reducible exact LeO.none _)
   | (with_reducible refine LeO.ite ?_ ?_)
   | (with_reducible refine LeO.bind ?_ (fun _ => ?_))
   | exact ancepsref09_Valid.mono _ _ _
   | exact ancepsref09_from.mono _ _ _ _ _
   | exact ancepsref09_ways.mono _ _ _
   | exact LeO.none _
   | refine LeO.ite ?_ ?_
   | refine LeO.bind ?_ (fun _ => ?_)
set_option maxHeartbeats 8000000 in
set_option maxRecDepth 100000 in
theorem ancepsref09_Paths.calls (k : Nat) (a0_0 : Int) (A0_1 : Option Addr) (c0_1 : Nat) (l0_1 : List (S69)) (r1 : List (List Int)) (r2 : Int) (w : World) (hr0_1 : Kd.C k69 w A0_1 l0_1.length l0_1) (hc0_1 : l0_1.length ≤ c0_1) (h : ancepsref09_Paths.f k a0_0 l0_1 = some (r1, r2)) :
  Calls Try.prog 22 #[.agg #[.int .i64 a0_0, .slice A0_1 l0_1.length c0_1]] w fun e w' => ∃ v0_ : Value, e = .returned (.tuple #[v0_, .int .i64 r2]) ∧ Kd.N (Kd.slice 3 (Kd.int .i64)) 25 w' w.heap.size (fun k_ => (w.heap.size ≤ k_)) v0_ r1 ∧ Below w.heap.size w w' := by
 have hu24 := Try.underlying24
 have hu2 := Try.underlying2
 have HR0_1 := Aside0.mk hr0_1
 have HC0_1 := Aside0.mk hc0_1
 clear hr0_1 hc0_1
 have HB := Aside0.mk (Below.refl w.heap.size w)
 have H : ((ancepsref09_Valid.f k a0_0 l0_1).bind fun t299 => (if t299 = 0 then ((ancepsref09_ways.f k a0_0 l0_1).bind fun t300 => (if 0 < (t300.length : Int) then (if (rd t300 0) > 2000 then (some (([] : List (List Int)), 3)) else (if (rd t300 0) = 0 then (some (([] : List (List Int)), 0)) else ((ancepsref09_from.f k a0_0 l0_1 t300 0).bind fun t305 => (some (t305, 0))))) else (none))) else (some (([] : List (List Int)), t299)))) = some (r1, r2) := h
 clear h
 replace H := Option.bind_eq_some_iff.mp H
 obtain ⟨t299, A20, H⟩ := H
 replace H : (if t299 = 0 then ((ancepsref09_ways.f k a0_0 l0_1).bind fun t300 => (if 0 < (t300.length : Int) then (if (rd t300 0) > 2000 then (some (([] : List (List Int)), 3)) else (if (rd t300 0) = 0 then (some (([] : List (List Int)), 0)) else ((ancepsref09_from.f k a0_0 l0_1 t300 0).bind fun t305 => (some (t305, 0))))) else (none))) else (some (([] : List (List Int)), t299))) = some (r1, r2) := H
 have A2 := Aside0.mk A20
 clear A20
 have HC3 := Aside0.mk H
 clear H
 go_enter Try.func22, Try.ntmps22
 go_upto_if 9 with (first | ((with_reducible refine gate_dst (N := 1) rfl ?_); refine box_event ?hg (N := 1) ?hd (cs := #[.int .i64 a0_0, .slice A0_1 l0_1.length c0_1]) (t := 24) ?hr ?_; (case hd => rfl); (case hg => rfl); (case hr => first | (go_simp; done) | (go_simp; rfl)); intro gb298 hg w4 hbox hb; have n0_ := Aside0.mk (below_step zB hb); have n1_ := Aside0.mk (hbox); have n2_ := Aside0.mk ((by rw [hg]; exact (below_size zB) : w.heap.size ≤ gb298)); have n3_ := Aside0.mk ((by rw [hg]; exact (below_size zB) : w.heap.size ≤ gb298)); clear HB; have HB := n0_; have BK298 := n1_; have GW298 := n2_; have GE298 := n3_; clear n0_ n1_ n2_ n3_; clear hb hbox hg; have hcz5_0 : w4.cell? ⟨gb298, 0, none⟩ = some (.int .i64 a0_0) := (blk_cell BK298.out 0).trans rfl; have hcz5_1 : w4.cell? ⟨gb298, 1, none⟩ = some (.slice A0_1 l0_1.length c0_1) := (blk_cell BK298.out 1).trans rfl; have hfz5_0 := blk_frozen BK298.out 0; have hfz5_1 := blk_frozen BK298.out 1) | ((with_reducible refine gate_callee (f := 28) rfl ?_); refine goesL_ (some 7) rfl rfl Try.func28 zK rfl #[.agg #[.int .i64 a0_0, .slice A0_1 l0_1.length c0_1]] rfl zM ?_; (with_reducible refine (ancepsref09_Valid.calls k a0_0 _ _ l0_1 t299 _ ?side1 ?side2 A2.out).mono ?_); (case side1 => repeat (first | exact (Kd.C_below HR0_1.out HB.out) | (with_reducible refine Kd.C_alloc ?_ _) | (with_reducible refine Kd.C_drewN ?_ _) | (with_reducible refine Kd.C_drew ?_))); (case side2 => exact HC0_1.out); rintro e w6 ⟨rfl, hb⟩; refine ⟨_, rfl, ?_⟩; have n0_ := Aside0.mk (blk_below (g := gb298) (o := .cells #[.int .i64 a0_0, .slice A0_1 l0_1.length c0_1] 24 (0, 0)) (zk BK298) hb); have n1_ := Aside0.mk (below_step zB hb); clear BK298; clear HB; have BK298 := n0_; have HB := n1_; clear n0_ n1_; (try clear hb); (try clear hb2); (try clear hk); (try clear hi)))
 (try simp only [Act.put, List.setIfInBounds_toArray, List.set_cons_zero, List.set_cons_succ])
 have H := HC3.out
 clear HC3
 by_cases c7 : t299 = 0
 ·rw [if_pos c7] at H
  have c7b0 : (t299 == 0) = true := beq_iff_eq.mpr c7
  have c7b1 : (t299 != 0) = false := bne_eq_false_iff_eq.mpr c7
  clear c7
  (first | rw [c7b0] | (simp only [i64_w, i32_w]; rw [c7b0]) | skip)
  (try rw [c7b1])
  replace H := Option.bind_eq_some_iff.mp H
  obtain ⟨t300, A80, H⟩ := H
  replace H : (if 0 < (t300.length : Int) then (if (rd t300 0) > 2000 then (some (([] : List (List Int)), 3)) else (if (rd t300 0) = 0 then (some (([] : List (List Int)), 0)) else ((ancepsref09_from.f k a0_0 l0_1 t300 0).bind fun t305 => (some (t305, 0))))) else (none)) = some (r1, r2) := H
  have A8 := Aside0.mk A80
  clear A80
  by_cases c9 : 0 < (t300.length : Int)
  ·rw [if_pos c9] at H
   have c9b0 : decide (0 < (t300.length : Int)) = true := decide_eq_true c9
   have c9b1 : decide (0 < t300.length) = true := decide_eq_true (by omega)
   clear c9
   have HC10 := Aside0.mk H
   clear H
   have hcz11_0 : w6.cell? ⟨gb298, 0, none⟩ = some (.int .i64 a0_0) := (blk_cell BK298.out 0).trans rfl
   have hcz11_1 : w6.cell? ⟨gb298, 1, none⟩ = some (.slice A0_1 l0_1.length c0_1) := (blk_cell BK298.out 1).trans rfl
   have hfz11_0 := blk_frozen BK298.out 0
   have hfz11_1 := blk_frozen BK298.out 1
   go_upto_if 16 with (first | ((with_reducible refine gate_callee (f := 57) rfl ?_); refine goesL_ (some 12) rfl rfl Try.func57 zK rfl #[.agg #[.int .i64 a0_0, .slice A0_1 l0_1.length c0_1]] rfl zM ?_; (with_reducible refine (ancepsref09_ways.calls k a0_0 _ _ l0_1 t300 _ ?side1 ?side2 A8.out).mono ?_); (case side1 => repeat (first | exact (Kd.C_below HR0_1.out HB.out) | (with_reducible refine Kd.C_alloc ?_ _) | (with_reducible refine Kd.C_drewN ?_ _) | (with_reducible refine Kd.C_drew ?_))); (case side2 => exact HC0_1.out); rintro e w12 ⟨v301, rfl, ho0, hb⟩; refine ⟨_, rfl, ?_⟩; have n0_ := Aside0.mk (Kd.R_lower (Kd.R_newM (M := fun k_ => (w.heap.size ≤ k_)) ho0 (below_size zB) (fun k_ h_ => h_)) (below_size zB)); have n1_ := Aside0.mk (blk_below (g := gb298) (o := .cells #[.int .i64 a0_0, .slice A0_1 l0_1.length c0_1] 24 (0, 0)) (zk BK298) hb); have n2_ := Aside0.mk (below_step zB hb); clear BK298; clear HB; have HO302 := n0_; have BK298 := n1_; have HB := n2_; clear n0_ n1_ n2_; (try clear hb); (try clear hb2); (try clear hk); (try clear hi); (try clear ho0); obtain ⟨Ao13, co13, eo13⟩ := Kd.R_slice HO302.out; subst eo13; have p303 : 0 ≤ (0 : Int) := (by omega); have q303 : 0 < (t300.length : Int) := of_decide_eq_true zh; obtain ⟨ad303, e303, hx303_0⟩ := Kd.at_int (Kd.R_reads' HO302.out).2.2 0 p303 q303; cases e303; have qi303 : (0 < t300.length) = True := eq_true (by omega); (try rw [show ((0 : Int)).toNat = 0 from rfl] at hx303_0); (try rw [Addr.add_zero'] at hx303_0); replace p303 := eq_true p303; replace q303 := eq_true q303))
   (try simp only [Act.put, List.setIfInBounds_toArray, List.set_cons_zero, List.set_cons_succ])
   have H := HC10.out
   clear HC10
   by_cases c14 : (rd t300 0) > 2000
   ·rw [if_pos c14] at H
    have c14b0 : decide (2000 < (rd t300 0)) = true := decide_eq_true c14
    clear c14
    (first | rw [c14b0] | (simp only [i64_w, i32_w]; rw [c14b0]) | skip)
    simp only [Option.some.injEq, Prod.mk.injEq] at H
    obtain ⟨rfl, rfl⟩ := H
    go_wp2
    go_ret2
    exact ⟨_, by first | rfl | (simp [errW_none, errW_some] <;> rfl) | (simp [*, errW_none, errW_some] <;> rfl), by first | exact Kd.S_nil _ _ _ _ _ | exact Kd.N_nil _ _ _ _ _ | exact Kd.V_nil _ _ _ _ _ | exact Kd.Q_nil _ _ _ _ _ | exact Kd.R_nil _ _ _ _ _, by repeat (first | (with_reducible first | exact HB.out | apply below_alloc | apply pw_below_drewN | apply below_drew1 | refine below_set ?_ GE298.out) | exact HB.out)⟩
   ·rw [if_neg c14] at H
    have c14b0 : decide (2000 < (rd t300 0)) = false := decide_eq_false c14
    clear c14
    (first | rw [c14b0] | (simp only [i64_w, i32_w]; rw [c14b0]) | skip)
    by_cases c15 : (rd t300 0) = 0
    ·rw [if_pos c15] at H
     have c15b0 : ((rd t300 0) == 0) = true := beq_iff_eq.mpr c15
     have c15b1 : ((rd t300 0) != 0) = false := bne_eq_false_iff_eq.mpr c15
     clear c15
     simp only [Option.some.injEq, Prod.mk.injEq] at H
     obtain ⟨rfl, rfl⟩ := H
     have p304 : 0 ≤ (0 : Int) := (by omega)
     have q304 : 0 < (t300.length : Int) := of_decide_eq_true zh
     obtain ⟨ad304, e304, hx304_0⟩ := Kd.at_int (Kd.R_reads' HO302.out).2.2 0 p304 q304
     obtain rfl : ad303 = ad304 := (by injection e304)
     have qi304 : (0 < t300.length) = True := eq_true (by omega)
     (try rw [show ((0 : Int)).toNat = 0 from rfl] at hx304_0)
     (try rw [Addr.add_zero'] at hx304_0)
     replace p304 := eq_true p304
     replace q304 := eq_true q304
     go_wp2
     go_ret2
     exact ⟨_, by first | rfl | (simp [errW_none, errW_some] <;> rfl) | (simp [*, errW_none, errW_some] <;> rfl), by first | exact Kd.S_nil _ _ _ _ _ | exact Kd.N_nil _ _ _ _ _ | exact Kd.V_nil _ _ _ _ _ | exact Kd.Q_nil _ _ _ _ _ | exact Kd.R_nil _ _ _ _ _, by repeat (first | (with_reducible first | exact HB.out | apply below_alloc | apply pw_below_drewN | apply below_drew1 | refine below_set ?_ GE298.out) | exact HB.out)⟩
    ·rw [if_neg c15] at H
     have c15b0 : ((rd t300 0) == 0) = false := beq_eq_false_iff_ne.mpr c15
     have c15b1 : ((rd t300 0) != 0) = true := bne_iff_ne.mpr c15
     replace H := Option.bind_eq_some_iff.mp H
     obtain ⟨t305, A160, H⟩ := H
     replace H : (some (t305, 0)) = some (r1, r2) := H
     have A16 := Aside0.mk A160
     clear A160
     simp only [Option.some.injEq, Prod.mk.injEq] at H
     obtain ⟨rfl, rfl⟩ := H
     have p304 : 0 ≤ (0 : Int) := (by omega)
     have q304 : 0 < (t300.length : Int) := of_decide_eq_true zh
     obtain ⟨ad304, e304, hx304_0⟩ := Kd.at_int (Kd.R_reads' HO302.out).2.2 0 p304 q304
     obtain rfl : ad303 = ad304 := (by injection e304)
     have qi304 : (0 < t300.length) = True := eq_true (by omega)
     (try rw [show ((0 : Int)).toNat = 0 from rfl] at hx304_0)
     (try rw [Addr.add_zero'] at hx304_0)
     replace p304 := eq_true p304
     replace q304 := eq_true q304
     have hcz17_0 : w12.cell? ⟨gb298, 0, none⟩ = some (.int .i64 a0_0) := (blk_cell BK298.out 0).trans rfl
     have hcz17_1 : w12.cell? ⟨gb298, 1, none⟩ = some (.slice A0_1 l0_1.length c0_1) := (blk_cell BK298.out 1).trans rfl
     have hfz17_0 := blk_frozen BK298.out 0
     have hfz17_1 := blk_frozen BK298.out 1
     go_wp2_with (first | ((with_reducible refine gate_callee (f := 61) rfl ?_); refine goesL_ (some 23) rfl rfl Try.func61 zK rfl #[.agg #[.int .i64 a0_0, .slice A0_1 l0_1.length c0_1], .slice (some ad303) t300.length co13, .int .i64 0] rfl zM ?_; (with_reducible refine (ancepsref09_from.calls k a0_0 _ _ l0_1 _ _ t300 0 t305 _ ?side1 ?side2 ?side3 ?side4 A16.out).mono ?_); (case side1 => repeat (first | exact (Kd.C_below HR0_1.out HB.out) | (with_reducible refine Kd.C_alloc ?_ _) | (with_reducible refine Kd.C_drewN ?_ _) | (with_reducible refine Kd.C_drew ?_))); (case side2 => exact HC0_1.out); (case side3 => repeat (first | exact (Kd.R_reads' HO302.out).2.2 | (with_reducible refine Kd.C_alloc ?_ _) | (with_reducible refine Kd.C_drewN ?_ _) | (with_reducible refine Kd.C_drew ?_))); (case side4 => exact (Kd.R_reads' HO302.out).2.1); rintro e w18 ⟨v306, rfl, ho0, hb⟩; refine ⟨_, rfl, ?_⟩; have n0_ := Aside0.mk (Kd.R_below (zR HO302) hb); have n1_ := Aside0.mk (Kd.N_lower (Kd.N_mono (ok' := fun k_ => (w.heap.size ≤ k_) ∧ some k_ ≠ (.slice (some ad303) t300.length co13 : Value).ownBlock ∧ k_ ≠ gb298) ho0 (fun k_ hk_ => ⟨(Nat.le_trans (below_size zB) hk_), (Kd.fresh' (Kd.R_lt (zR HO302)) k_ hk_), (Kd.freshB (g := gb298) (o := .cells #[.int .i64 a0_0, .slice A0_1 l0_1.length c0_1] 24 (0, 0)) (zk BK298) k_ hk_)⟩)) (below_size zB)); have n2_ := Aside0.mk (blk_below (g := gb298) (o := .cells #[.int .i64 a0_0, .slice A0_1 l0_1.length c0_1] 24 (0, 0)) (zk BK298) hb); have n3_ := Aside0.mk (below_step zB hb); clear HO302; clear BK298; clear HB; have HO302 := n0_; have HO307 := n1_; have BK298 := n2_; have HB := n3_; clear n0_ n1_ n2_ n3_; (try clear hb); (try clear hb2); (try clear hk); (try clear hi); (try clear ho0)))
     go_ret2
     exact ⟨_, by first | rfl | (simp [errW_none, errW_some] <;> rfl) | (simp [*, errW_none, errW_some] <;> rfl), by (with_reducible repeat (first | apply Kd.N_alloc | apply Kd.N_drewN | apply Kd.N_drew)); exact Kd.N_mono HO307.out (fun _ hk => hk.1), by repeat (first | (with_reducible first | exact HB.out | apply below_alloc | apply pw_below_drewN | apply below_drew1 | refine below_set ?_ GE298.out) | exact HB.out)⟩
  ·rw [if_neg c9] at H
   exact absurd H (by simp)
 ·rw [if_neg c7] at H
  have c7b0 : (t299 == 0) = false := beq_eq_false_iff_ne.mpr c7
  have c7b1 : (t299 != 0) = true := bne_iff_ne.mpr c7
  (first | rw [c7b0] | (simp only [i64_w, i32_w]; rw [c7b0]) | skip)
  (try rw [c7b1])
  simp only [Option.some.injEq, Prod.mk.injEq] at H
  obtain ⟨rfl, rfl⟩ := H
  go_wp2
  go_ret2
  exact ⟨_, by first | rfl | (simp [errW_none, errW_some] <;> rfl) | (simp [*, errW_none, errW_some] <;> rfl), by first | exact Kd.S_nil _ _ _ _ _ | exact Kd.N_nil _ _ _ _ _ | exact Kd.V_nil _ _ _ _ _ | exact Kd.Q_nil _ _ _ _ _ | exact Kd.R_nil _ _ _ _ _, by repeat (first | (with_reducible first | exact HB.out | apply below_alloc | apply pw_below_drewN | apply below_drew1 | refine below_set ?_ GE298.out) | exact HB.out)⟩
/-! ### dag_Reverse: function 24 -/
def dag_Reverse.l0 : Nat → Int → List (S69) → Int → Int → Int → List (S69) → Option (Int × (List (S69)) × Int)
 | 0, _, _, _, _, _, _ => none
 | k + 1, x6, x22, x23, x24, x312000, x312001 => if x24 < x23 then (if 0 ≤ x24 then (if x24 < (x22.length : Int) then (if x312001.length < 5864062014805 then (dag_Reverse.l0 k x6 x22 x23 (wrap64 (x24 + 1)) x312000 (x312001 ++ [(⟨wrap64 (x6 - ((rd_T69 x22 x24).f1)), wrap64 (x6 - ((rd_T69 x22 x24).f0)), (rd_T69 x22 x24).f2⟩ : S69)])) else (none)) else (none)) else (none)) else (some (x312000, x312001, 0))
def dag_Reverse.f (k : Nat) (a0_0 : Int) (l0_1 : List (S69)) : Option (Int × (List (S69)) × Int) := (dag_Valid.f k a0_0 l0_1).bind fun t310 => (if t310 = 0 then (dag_Reverse.l0 k (wrap64 (a0_0 - 1)) l0_1 (l0_1.length : Int) 0 a0_0 ([] : List (S69))) else (some (0, ([] : List (S69)), t310)))
theorem dag_Reverse.mono_l : ∀ k, (∀ y0 y1 y2 y3 y4 y5, LeO (dag_Reverse.l0 k y0 y1 y2 y3 y4 y5) (dag_Reverse.l0 (k + 1) y0 y1 y2 y3 y4 y5))
 | 0 => fun _ _ _ _ _ _ r h => by simp [dag_Reverse.l0] at h
 | k + 1 => by
  have ih0 := dag_Reverse.mono_l k
  ·intro y0 y1 y2 y3 y4 y5
   unfold dag_Reverse.l0
   repeat' first
   | (with_reducible exact ih0 _ _ _ _ _ _)
   | (with_reducible exact dag_Valid.mono _ _ _)
   | (with_reducible exact LeO.refl _)
   | (with_reducible exact LeO.none _)
   | (with_reducible refine LeO.ite ?_ ?_)
   | (with_reducible refine LeO.bind ?_ (fun _ => ?_))
   | exact ih0 _ _ _ _ _ _
   | exact dag_Valid.mono _ _ _
   | exact LeO.none _
   | refine LeO.ite ?_ ?_
   | refine LeO.bind ?_ (fun _ => ?_)
theorem dag_Reverse.mono : ∀ a0 a1 k, LeO (dag_Reverse.f k a0 a1) (dag_Reverse.f (k + 1) a0 a1) := by
 intro a0 a1 k
 have ih0 := dag_Reverse.mono_l k
 unfold dag_Reverse.f
 repeat' first
   | (with_reducible exact ih0 _ _ _ _ _ _)
   | (with_reducible exact dag_Valid.mono _ _ _)
   | (with_reducible exact LeO.refl _)
   | (with_reducible exact LeO.none _)
   | (with_reducible refine LeO.ite ?_ ?_)
   | (with_reducible refine LeO.bind ?_ (fun _ => ?_))
   | exact ih0 _ _ _ _ _ _
   | exact dag_Valid.mono _ _ _
   | exact LeO.none _
   | refine LeO.ite ?_ ?_
   | refine LeO.bind ?_ (fun _ => ?_)
set_option maxHeartbeats 8000000 in
set_option maxRecDepth 100000 in
theorem dag_Reverse.calls (k : Nat) (a0_0 : Int) (A0_1 : Option Addr) (c0_1 : Nat) (l0_1 : List (S69)) (r1 : Int) (r2 : List (S69)) (r3 : Int) (w : World) (hr0_1 : Kd.C k69 w A0_1 l0_1.length l0_1) (hc0_1 : l0_1.length ≤ c0_1) (h : dag_Reverse.f k a0_0 l0_1 = some (r1, r2, r3)) :
  Calls Try.prog 24 #[.agg #[.int .i64 a0_0, .slice A0_1 l0_1.length c0_1]] w fun e w' => ∃ v1_ : Value, e = .returned (.tuple #[.agg #[.int .i64 r1, v1_], .int .i64 r3]) ∧ Kd.R k69 69 w' w.heap.size (fun _ => True) v1_ r2 ∧ Below w.heap.size w w' := by
 have hu24 := Try.underlying24
 have hu3 := Try.underlying3
 have hu22 := Try.underlying22
 have hu69 := Try.underlying69
 have HR0_1 := Aside0.mk hr0_1
 have HC0_1 := Aside0.mk hc0_1
 clear hr0_1 hc0_1
 have HB := Aside0.mk (Below.refl w.heap.size w)
 have H : ((dag_Valid.f k a0_0 l0_1).bind fun t310 => (if t310 = 0 then (dag_Reverse.l0 k (wrap64 (a0_0 - 1)) l0_1 (l0_1.length : Int) 0 a0_0 ([] : List (S69))) else (some (0, ([] : List (S69)), t310)))) = some (r1, r2, r3) := h
 clear h
 replace H := Option.bind_eq_some_iff.mp H
 obtain ⟨t310, A20, H⟩ := H
 replace H : (if t310 = 0 then (dag_Reverse.l0 k (wrap64 (a0_0 - 1)) l0_1 (l0_1.length : Int) 0 a0_0 ([] : List (S69))) else (some (0, ([] : List (S69)), t310))) = some (r1, r2, r3) := H
 have A2 := Aside0.mk A20
 clear A20
 have HC3 := Aside0.mk H
 clear H
 go_enter Try.func24, Try.ntmps24
 go_upto_if 12 with (first | ((with_reducible refine gate_dst (N := 1) rfl ?_); refine box_event ?hg (N := 1) ?hd (cs := #[.int .i64 a0_0, .slice A0_1 l0_1.length c0_1]) (t := 24) ?hr ?_; (case hd => rfl); (case hg => rfl); (case hr => first | (go_simp; done) | (go_simp; rfl)); intro gb308 hg w4 hbox hb; have n0_ := Aside0.mk (below_step zB hb); have n1_ := Aside0.mk (hbox); have n2_ := Aside0.mk ((by rw [hg]; exact (below_size zB) : w.heap.size ≤ gb308)); have n3_ := Aside0.mk ((by rw [hg]; exact (below_size zB) : w.heap.size ≤ gb308)); clear HB; have HB := n0_; have BK308 := n1_; have GW308 := n2_; have GE308 := n3_; clear n0_ n1_ n2_ n3_; clear hb hbox hg) | ((with_reducible refine gate_dst (N := 2) rfl ?_); refine box_event ?hg (N := 2) ?hd (cs := #[.int .i64 0, .slice none 0 0]) (t := 24) ?hr ?_; (case hd => rfl); (case hg => rfl); (case hr => first | (go_simp; done) | (go_simp; rfl)); intro gb309 hg w5 hbox hb; have n0_ := Aside0.mk (blk_below (g := gb308) (o := .cells #[.int .i64 a0_0, .slice A0_1 l0_1.length c0_1] 24 (0, 0)) (zk BK308) hb); have n1_ := Aside0.mk (below_step zB hb); have n2_ := Aside0.mk (hbox); have n3_ := Aside0.mk ((by rw [hg]; exact (below_size zB) : w.heap.size ≤ gb309)); have n4_ := Aside0.mk ((by rw [hg]; exact (below_size zB) : w.heap.size ≤ gb309)); have n5_ := Aside0.mk ((by rw [hg]; exact Nat.ne_of_lt (blk_lt (g := gb308) (o := .cells #[.int .i64 a0_0, .slice A0_1 l0_1.length c0_1] 24 (0, 0)) (zk BK308)) : gb308 ≠ gb309)); have n6_ := Aside0.mk ((by rw [hg]; exact Nat.ne_of_gt (blk_lt (g := gb308) (o := .cells #[.int .i64 a0_0, .slice A0_1 l0_1.length c0_1] 24 (0, 0)) (zk BK308)) : gb309 ≠ gb308)); clear BK308; clear HB; have BK308 := n0_; have HB := n1_; have BK309 := n2_; have GW309 := n3_; have GE309 := n4_; have NB308_309 := n5_; have NB309_308 := n6_; clear n0_ n1_ n2_ n3_ n4_ n5_ n6_; clear hb hbox hg; have hnb6 := NB308_309.out; have hnc6 := NB309_308.out; have hcz7_0 : w5.cell? ⟨gb308, 0, none⟩ = some (.int .i64 a0_0) := (blk_cell BK308.out 0).trans rfl; have hcz7_1 : w5.cell? ⟨gb308, 1, none⟩ = some (.slice A0_1 l0_1.length c0_1) := (blk_cell BK308.out 1).trans rfl; have hfz7_0 := blk_frozen BK308.out 0; have hfz7_1 := blk_frozen BK308.out 1) | ((with_reducible refine gate_callee (f := 27) rfl ?_); refine goesL_ (some 10) rfl rfl Try.func27 zK rfl #[.agg #[.int .i64 a0_0, .slice A0_1 l0_1.length c0_1]] rfl zM ?_; (with_reducible refine (dag_Valid.calls k a0_0 _ _ l0_1 t310 _ ?side1 ?side2 A2.out).mono ?_); (case side1 => repeat (first | exact (Kd.C_below HR0_1.out HB.out) | (with_reducible refine Kd.C_alloc ?_ _) | (with_reducible refine Kd.C_drewN ?_ _) | (with_reducible refine Kd.C_drew ?_))); (case side2 => exact HC0_1.out); rintro e w8 ⟨rfl, hb⟩; refine ⟨_, rfl, ?_⟩; have n0_ := Aside0.mk (blk_below (g := gb308) (o := .cells #[.int .i64 a0_0, .slice A0_1 l0_1.length c0_1] 24 (0, 0)) (zk BK308) hb); have n1_ := Aside0.mk (blk_below (g := gb309) (o := .cells #[.int .i64 0, .slice none 0 0] 24 (0, 0)) (zk BK309) hb); have n2_ := Aside0.mk (below_step zB hb); clear BK308; clear BK309; clear HB; have BK308 := n0_; have BK309 := n1_; have HB := n2_; clear n0_ n1_ n2_; (try clear hb); (try clear hb2); (try clear hk); (try clear hi)))
 (try simp only [Act.put, List.setIfInBounds_toArray, List.set_cons_zero, List.set_cons_succ])
 have H := HC3.out
 clear HC3
 by_cases c9 : t310 = 0
 ·rw [if_pos c9] at H
  have c9b0 : (t310 == 0) = true := beq_iff_eq.mpr c9
  have c9b1 : (t310 != 0) = false := bne_eq_false_iff_eq.mpr c9
  clear c9
  (first | rw [c9b0] | (simp only [i64_w, i32_w]; rw [c9b0]) | skip)
  (try rw [c9b1])
  have H' := Aside0.mk H
  clear H
  have hnb10 := NB308_309.out
  have hnc10 := NB309_308.out
  have hcz11_0 : w8.cell? ⟨gb308, 0, none⟩ = some (.int .i64 a0_0) := (blk_cell BK308.out 0).trans rfl
  have hcz11_1 : w8.cell? ⟨gb308, 1, none⟩ = some (.slice A0_1 l0_1.length c0_1) := (blk_cell BK308.out 1).trans rfl
  have hfz11_0 := blk_frozen BK308.out 0
  have hfz11_1 := blk_frozen BK308.out 1
  go_wp2_with (first | ((with_reducible refine gate_dst (N := 5) rfl ?_); refine box_event ?hg (N := 5) ?hd (cs := #[.int .i64 0, .slice none 0 0]) (t := 24) ?hr ?_; (case hd => rfl); (case hg => rfl); (case hr => first | (go_simp; done) | (go_simp; rfl)); intro gb311 hg w12 hbox hb; have n0_ := Aside0.mk (blk_below (g := gb308) (o := .cells #[.int .i64 a0_0, .slice A0_1 l0_1.length c0_1] 24 (0, 0)) (zk BK308) hb); have n1_ := Aside0.mk (blk_below (g := gb309) (o := .cells #[.int .i64 0, .slice none 0 0] 24 (0, 0)) (zk BK309) hb); have n2_ := Aside0.mk (below_step zB hb); have n3_ := Aside0.mk (hbox); have n4_ := Aside0.mk ((by rw [hg]; exact (below_size zB) : w.heap.size ≤ gb311)); have n5_ := Aside0.mk ((by rw [hg]; exact (below_size zB) : w.heap.size ≤ gb311)); have n6_ := Aside0.mk ((by rw [hg]; exact Nat.ne_of_lt (blk_lt (g := gb308) (o := .cells #[.int .i64 a0_0, .slice A0_1 l0_1.length c0_1] 24 (0, 0)) (zk BK308)) : gb308 ≠ gb311)); have n7_ := Aside0.mk ((by rw [hg]; exact Nat.ne_of_gt (blk_lt (g := gb308) (o := .cells #[.int .i64 a0_0, .slice A0_1 l0_1.length c0_1] 24 (0, 0)) (zk BK308)) : gb311 ≠ gb308)); have n8_ := Aside0.mk ((by rw [hg]; exact Nat.ne_of_lt (blk_lt (g := gb309) (o := .cells #[.int .i64 0, .slice none 0 0] 24 (0, 0)) (zk BK309)) : gb309 ≠ gb311)); have n9_ := Aside0.mk ((by rw [hg]; exact Nat.ne_of_gt (blk_lt (g := gb309) (o := .cells #[.int .i64 0, .slice none 0 0] 24 (0, 0)) (zk BK309)) : gb311 ≠ gb309)); clear BK308; clear BK309; clear HB; have BK308 := n0_; have BK309 := n1_; have HB := n2_; have BK311 := n3_; have GW311 := n4_; have GE311 := n5_; have NB308_311 := n6_; have NB311_308 := n7_; have NB309_311 := n8_; have NB311_309 := n9_; clear n0_ n1_ n2_ n3_ n4_ n5_ n6_ n7_ n8_ n9_; clear hb hbox hg; have hnb13 := NB311_308.out; have hnc13 := NB308_311.out; have hnb14 := NB311_309.out; have hnc14 := NB309_311.out; have hcz15_0 : w12.cell? ⟨gb311, 0, none⟩ = some (.int .i64 0) := (blk_cell BK311.out 0).trans rfl; have hcz15_1 : w12.cell? ⟨gb311, 1, none⟩ = some (.slice none 0 0) := (blk_cell BK311.out 1).trans rfl; have hfz15_0 := blk_frozen BK311.out 0; have hfz15_1 := blk_frozen BK311.out 1; have hcz16_0 : w12.cell? ⟨gb308, 0, none⟩ = some (.int .i64 a0_0) := (blk_cell BK308.out 0).trans rfl; have hcz16_1 : w12.cell? ⟨gb308, 1, none⟩ = some (.slice A0_1 l0_1.length c0_1) := (blk_cell BK308.out 1).trans rfl; have hfz16_0 := blk_frozen BK308.out 0; have hfz16_1 := blk_frozen BK308.out 1))
  go_loopg [24] k (fun kq v24 w' => ∃ (x24_1 : Int) (x312001_1 : List (S69)) (u312001 : Value), v24 = .int .i64 x24_1 ∧ Aside0 (dag_Reverse.l0 kq (wrap64 (a0_0 - 1)) l0_1 (l0_1.length : Int) x24_1 a0_0 x312001_1 = some (r1, r2, r3)) ∧ Aside0 (kq ≤ k) ∧ Aside0 (Kd.R k69 69 w' w.heap.size (fun _ => True) u312001 x312001_1) ∧ Aside0 (w'.heap[gb308]? = some (.cells #[.int .i64 a0_0, (.slice A0_1 l0_1.length c0_1)] 24 (0, 0))) ∧ Aside0 (w'.heap[gb309]? = some (.cells #[.int .i64 0, (.slice none 0 0)] 24 (0, 0))) ∧ Aside0 (w'.heap[gb311]? = some (.cells #[.int .i64 a0_0, u312001] 24 (0, 0))) ∧ Aside0 (Below w.heap.size w w'))
  case atStart => exact ⟨(0), (([] : List (S69))), (.slice none 0 0), zT, H', ⟨Nat.le_refl _⟩, ⟨by first | exact Kd.R_nil _ _ _ _ _ | exact Kd.N_nil _ _ _ _ _ | exact Kd.V_nil _ _ _ _ _ | exact Kd.Q_nil _ _ _ _ _ | exact Kd.S_nil _ _ _ _ _⟩, ⟨by (with_reducible repeat (first | refine blk_drewN ?_ _ | refine blk_drew ?_ | refine blk_alloc ?_ _)); refine blk_far ?_ NB308_311.out _; (with_reducible repeat (first | refine blk_drewN ?_ _ | refine blk_drew ?_ | refine blk_alloc ?_ _)); refine blk_far ?_ NB308_311.out _; (with_reducible repeat (first | refine blk_drewN ?_ _ | refine blk_drew ?_ | refine blk_alloc ?_ _)); exact BK308.out⟩, ⟨by (with_reducible repeat (first | refine blk_drewN ?_ _ | refine blk_drew ?_ | refine blk_alloc ?_ _)); refine blk_far ?_ NB309_311.out _; (with_reducible repeat (first | refine blk_drewN ?_ _ | refine blk_drew ?_ | refine blk_alloc ?_ _)); refine blk_far ?_ NB309_311.out _; (with_reducible repeat (first | refine blk_drewN ?_ _ | refine blk_drew ?_ | refine blk_alloc ?_ _)); exact BK309.out⟩, ⟨by (with_reducible repeat (first | refine blk_drewN ?_ _ | refine blk_drew ?_ | refine blk_alloc ?_ _)); refine blk_put (cs := #[.int .i64 a0_0, .slice none 0 0]) ?_ 1 _ rfl; (with_reducible repeat (first | refine blk_drewN ?_ _ | refine blk_drew ?_ | refine blk_alloc ?_ _)); refine blk_put (cs := #[.int .i64 0, .slice none 0 0]) ?_ 0 _ rfl; (with_reducible repeat (first | refine blk_drewN ?_ _ | refine blk_drew ?_ | refine blk_alloc ?_ _)); exact BK311.out⟩, ⟨by repeat (first | (with_reducible first | exact HB.out | apply below_alloc | apply pw_below_drewN | apply below_drew1 | refine below_set ?_ GE308.out | refine below_set ?_ GE309.out | refine below_set ?_ GE311.out) | exact HB.out)⟩⟩
  case round =>
   clear H'
   try clear c9
   try clear c9b0
   try clear c9b1
   try clear hcz11_0
   try clear hcz11_1
   try clear hcz15_0
   try clear hcz15_1
   try clear hcz16_0
   try clear hcz16_1
   try clear hcz7_0
   try clear hcz7_1
   try clear hfz11_0
   try clear hfz11_1
   try clear hfz15_0
   try clear hfz15_1
   try clear hfz16_0
   try clear hfz16_1
   try clear hfz7_0
   try clear hfz7_1
   obtain ⟨x24_1, x312001_1, u312001, rfl, HA, HK1, HO_312001, BK308, BK309, BK311, HB⟩ := hrel
   cases gk with
   | zero => exact absurd HA.out (by simp [dag_Reverse.l0])
   | succ k1 =>
    have H := HA.out
    clear HA
    simp only [dag_Reverse.l0] at H
    by_cases c17 : x24_1 < (l0_1.length : Int)
    ·rw [if_pos c17] at H
     have c17b0 : decide (x24_1 < (l0_1.length : Int)) = true := decide_eq_true c17
     clear c17
     by_cases c18 : 0 ≤ x24_1
     ·rw [if_pos c18] at H
      have c18b0 : decide (0 ≤ x24_1) = true := decide_eq_true c18
      clear c18
      by_cases c19 : x24_1 < (l0_1.length : Int)
      ·rw [if_pos c19] at H
       have c19b0 : decide (x24_1 < (l0_1.length : Int)) = true := decide_eq_true c19
       clear c19
       by_cases c20 : x312001_1.length < 5864062014805
       ·rw [if_pos c20] at H
        have LMc20 := Aside0.mk c20
        clear c20
        obtain ⟨y314, hy314⟩ : ∃ y_ : List (S69), y_ = (x312001_1 ++ [(⟨wrap64 ((wrap64 (a0_0 - 1)) - ((rd_T69 l0_1 x24_1).f1)), wrap64 ((wrap64 (a0_0 - 1)) - ((rd_T69 l0_1 x24_1).f0)), (rd_T69 l0_1 x24_1).f2⟩ : S69)]) := ⟨_, rfl⟩
        replace H : (dag_Reverse.l0 k1 (wrap64 (a0_0 - 1)) l0_1 (l0_1.length : Int) (wrap64 (x24_1 + 1)) a0_0 y314) = some (r1, r2, r3) := by first | (rw [hy314]; with_reducible exact H) | (have H2_ := (Option.bind_some _ _).symm.trans H; rw [hy314]; with_reducible exact H2_) | (have H2_ := (Option.bind_some _ _).symm.trans H; with_reducible exact H2_) | with_reducible exact H | (rw [hy314]; exact H) | exact H
        have Ny314 := Aside0.mk hy314
        clear hy314
        have H' := Aside0.mk H
        clear H
        have p312 : 0 ≤ (x24_1 : Int) := of_decide_eq_true zh
        have q312 : x24_1 < (l0_1.length : Int) := of_decide_eq_true zh
        obtain ⟨ad312, e312, hx312_0, hx312_1, hx312_2⟩ := at_T69 HR0_1.out x24_1 p312 q312
        cases e312
        replace hx312_0 := (HB.out.cell (World.block_lt_of_cell? w _ hx312_0)).trans hx312_0
        replace hx312_1 := (HB.out.cell (World.block_lt_of_cell? w _ hx312_1)).trans hx312_1
        replace hx312_2 := (HB.out.cell (World.block_lt_of_cell? w _ hx312_2)).trans hx312_2
        replace p312 := eq_true p312
        replace q312 := eq_true q312
        go_wp2_with (first | ((with_reducible refine gate_dst (N := 8) rfl ?_); refine box_event ?hg (N := 8) ?hd (cs := #[.int .i64 0, .int .i64 0, .int .i64 0]) (t := 69) ?hr ?_; (case hd => rfl); (case hg => rfl); (case hr => first | (go_simp; done) | (go_simp; rfl)); intro gb313 hg w21 hbox hb; have n0_ := Aside0.mk (Kd.R_below (Kd.R_elderB (zR HO_312001) gb313 (Nat.le_of_eq hg.symm)) hb); have n1_ := Aside0.mk (blk_below (g := gb308) (o := .cells #[.int .i64 a0_0, .slice (some ad312) l0_1.length c0_1] 24 (0, 0)) (zk BK308) hb); have n2_ := Aside0.mk (blk_below (g := gb309) (o := .cells #[.int .i64 0, .slice none 0 0] 24 (0, 0)) (zk BK309) hb); have n3_ := Aside0.mk (blk_below (g := gb311) (o := .cells #[.int .i64 a0_0, u312001] 24 (0, 0)) (zk BK311) hb); have n4_ := Aside0.mk (below_step zB hb); have n5_ := Aside0.mk (hbox); have n6_ := Aside0.mk ((by rw [hg]; exact (below_size zB) : w.heap.size ≤ gb313)); have n7_ := Aside0.mk ((by rw [hg]; exact (below_size zB) : w.heap.size ≤ gb313)); have n8_ := Aside0.mk ((by rw [hg]; exact Nat.ne_of_lt (blk_lt (g := gb308) (o := .cells #[.int .i64 a0_0, .slice (some ad312) l0_1.length c0_1] 24 (0, 0)) (zk BK308)) : gb308 ≠ gb313)); have n9_ := Aside0.mk ((by rw [hg]; exact Nat.ne_of_gt (blk_lt (g := gb308) (o := .cells #[.int .i64 a0_0, .slice (some ad312) l0_1.length c0_1] 24 (0, 0)) (zk BK308)) : gb313 ≠ gb308)); have n10_ := Aside0.mk ((by rw [hg]; exact Nat.ne_of_lt (blk_lt (g := gb309) (o := .cells #[.int .i64 0, .slice none 0 0] 24 (0, 0)) (zk BK309)) : gb309 ≠ gb313)); have n11_ := Aside0.mk ((by rw [hg]; exact Nat.ne_of_gt (blk_lt (g := gb309) (o := .cells #[.int .i64 0, .slice none 0 0] 24 (0, 0)) (zk BK309)) : gb313 ≠ gb309)); have n12_ := Aside0.mk ((by rw [hg]; exact Nat.ne_of_lt (blk_lt (g := gb311) (o := .cells #[.int .i64 a0_0, u312001] 24 (0, 0)) (zk BK311)) : gb311 ≠ gb313)); have n13_ := Aside0.mk ((by rw [hg]; exact Nat.ne_of_gt (blk_lt (g := gb311) (o := .cells #[.int .i64 a0_0, u312001] 24 (0, 0)) (zk BK311)) : gb313 ≠ gb311)); clear HO_312001; clear BK308; clear BK309; clear BK311; clear HB; have HO_312001 := n0_; have BK308 := n1_; have BK309 := n2_; have BK311 := n3_; have HB := n4_; have BK313 := n5_; have GW313 := n6_; have GE313 := n7_; have NB308_313 := n8_; have NB313_308 := n9_; have NB309_313 := n10_; have NB313_309 := n11_; have NB311_313 := n12_; have NB313_311 := n13_; clear n0_ n1_ n2_ n3_ n4_ n5_ n6_ n7_ n8_ n9_ n10_ n11_ n12_ n13_; clear hb hbox hg; have hnb22 := NB313_308.out; have hnc22 := NB308_313.out; have hnb23 := NB313_309.out; have hnc23 := NB309_313.out; have hnb24 := NB313_311.out; have hnc24 := NB311_313.out; have hcz25_0 : w21.cell? ⟨gb313, 0, none⟩ = some (.int .i64 0) := (blk_cell BK313.out 0).trans rfl; have hcz25_1 : w21.cell? ⟨gb313, 1, none⟩ = some (.int .i64 0) := (blk_cell BK313.out 1).trans rfl; have hcz25_2 : w21.cell? ⟨gb313, 2, none⟩ = some (.int .i64 0) := (blk_cell BK313.out 2).trans rfl; have hfz25_0 := blk_frozen BK313.out 0; have hfz25_1 := blk_frozen BK313.out 1; have hfz25_2 := blk_frozen BK313.out 2; have hnb26 := NB311_308.out; have hnc26 := NB308_311.out; have hnb27 := NB311_309.out; have hnc27 := NB309_311.out; have hcz28_0 : w21.cell? ⟨gb311, 0, none⟩ = some (.int .i64 a0_0) := (blk_cell BK311.out 0).trans rfl; have hcz28_1 : w21.cell? ⟨gb311, 1, none⟩ = some (u312001) := (blk_cell BK311.out 1).trans rfl; have hfz28_0 := blk_frozen BK311.out 0; have hfz28_1 := blk_frozen BK311.out 1) | ((with_reducible refine gate_builtin (b := .append) (xs := #[.tmp 29, .tmp 41]) rfl ?_); at_builtin; refine Kd.R_append k69 (w0 := w) w.heap.size rfl (.tmp 29) (.tmp 41) 22 69 (.agg #[(.int .i64 0), (.int .i64 0), (.int .i64 0)]) 24 rfl Try.underlying22 info69 rfl (by decide) (by omega) u312001 x312001_1 (⟨wrap64 ((wrap64 (a0_0 - 1)) - ((rd_T69 l0_1 x24_1).f1)), wrap64 ((wrap64 (a0_0 - 1)) - ((rd_T69 l0_1 x24_1).f0)), (rd_T69 l0_1 x24_1).f2⟩ : S69) [.int .i64 (wrap64 ((wrap64 (a0_0 - 1)) - ((rd_T69 l0_1 x24_1).f1))), .int .i64 (wrap64 ((wrap64 (a0_0 - 1)) - ((rd_T69 l0_1 x24_1).f0))), .int .i64 ((rd_T69 l0_1 x24_1).f2)] (fun k_ => k_ ≠ gb313) (fun _ => False) rfl (by first | (go_simp; done) | (go_simp; rfl)) ?aP (fun _ hk => hk.elim) ?aF ?aO ?aB ?aS ?aL ?_; (case aP => exact k69_mkM _ _ _ (⟨wrap64 ((wrap64 (a0_0 - 1)) - ((rd_T69 l0_1 x24_1).f1)), wrap64 ((wrap64 (a0_0 - 1)) - ((rd_T69 l0_1 x24_1).f0)), (rd_T69 l0_1 x24_1).f2⟩ : S69)); (case aB => exact zB); (case aF => exact (fun k_ hk => Kd.freshB (g := gb313) (o := .cells #[.int .i64 ((rd_T69 l0_1 x24_1).f0), .int .i64 ((rd_T69 l0_1 x24_1).f1), .int .i64 ((rd_T69 l0_1 x24_1).f2)] 69 (0, 0)) (by (with_reducible repeat (first | refine blk_drewN ?_ _ | refine blk_drew ?_ | refine blk_alloc ?_ _)); refine blk_put (cs := #[.int .i64 ((rd_T69 l0_1 x24_1).f0), .int .i64 ((rd_T69 l0_1 x24_1).f1), .int .i64 0]) ?_ 2 _ rfl; (with_reducible repeat (first | refine blk_drewN ?_ _ | refine blk_drew ?_ | refine blk_alloc ?_ _)); refine blk_put (cs := #[.int .i64 ((rd_T69 l0_1 x24_1).f0), .int .i64 0, .int .i64 0]) ?_ 1 _ rfl; (with_reducible repeat (first | refine blk_drewN ?_ _ | refine blk_drew ?_ | refine blk_alloc ?_ _)); refine blk_put (cs := #[.int .i64 0, .int .i64 0, .int .i64 0]) ?_ 0 _ rfl; (with_reducible repeat (first | refine blk_drewN ?_ _ | refine blk_drew ?_ | refine blk_alloc ?_ _)); exact BK313.out) k_ hk)); (case aO => exact (by (with_reducible repeat (first | apply Kd.R_alloc | apply Kd.R_drewN | apply Kd.R_drew)); exact Kd.R_mono (Kd.R_far (p := ⟨gb313, 2, none⟩) (Kd.R_far (p := ⟨gb313, 1, none⟩) (Kd.R_far (p := ⟨gb313, 0, none⟩) (Kd.R_mono HO_312001.out (fun k_ hk => (⟨hk, hk.2⟩ : _ ∧ k_ ≠ gb313))) (fun _ hk => hk.2) (.int .i64 ((rd_T69 l0_1 x24_1).f0))) (fun _ hk => hk.2) (.int .i64 ((rd_T69 l0_1 x24_1).f1))) (fun _ hk => hk.2) (.int .i64 ((rd_T69 l0_1 x24_1).f2))) (fun _ hk => hk.1.2))); (case aS => exact (below_size zB)); (case aL => have := LMc20.out; omega); intro v315 w29 ho hb hg hat; rw [← Ny314.out] at ho; have n0_ := Aside0.mk (blk_grown (g := gb308) (o := .cells #[.int .i64 a0_0, .slice (some ad312) l0_1.length c0_1] 24 (0, 0)) (by (with_reducible repeat (first | refine blk_drewN ?_ _ | refine blk_drew ?_ | refine blk_alloc ?_ _)); refine blk_far ?_ NB308_313.out _; (with_reducible repeat (first | refine blk_drewN ?_ _ | refine blk_drew ?_ | refine blk_alloc ?_ _)); refine blk_far ?_ NB308_313.out _; (with_reducible repeat (first | refine blk_drewN ?_ _ | refine blk_drew ?_ | refine blk_alloc ?_ _)); refine blk_far ?_ NB308_313.out _; (with_reducible repeat (first | refine blk_drewN ?_ _ | refine blk_drew ?_ | refine blk_alloc ?_ _)); exact BK308.out) hg (Kd.R_ne HO_312001.out BK308.out (by decide))); have n1_ := Aside0.mk (blk_grown (g := gb309) (o := .cells #[.int .i64 0, .slice none 0 0] 24 (0, 0)) (by (with_reducible repeat (first | refine blk_drewN ?_ _ | refine blk_drew ?_ | refine blk_alloc ?_ _)); refine blk_far ?_ NB309_313.out _; (with_reducible repeat (first | refine blk_drewN ?_ _ | refine blk_drew ?_ | refine blk_alloc ?_ _)); refine blk_far ?_ NB309_313.out _; (with_reducible repeat (first | refine blk_drewN ?_ _ | refine blk_drew ?_ | refine blk_alloc ?_ _)); refine blk_far ?_ NB309_313.out _; (with_reducible repeat (first | refine blk_drewN ?_ _ | refine blk_drew ?_ | refine blk_alloc ?_ _)); exact BK309.out) hg (Kd.R_ne HO_312001.out BK309.out (by decide))); have n2_ := Aside0.mk (blk_grown (g := gb311) (o := .cells #[.int .i64 a0_0, u312001] 24 (0, 0)) (by (with_reducible repeat (first | refine blk_drewN ?_ _ | refine blk_drew ?_ | refine blk_alloc ?_ _)); refine blk_far ?_ NB311_313.out _; (with_reducible repeat (first | refine blk_drewN ?_ _ | refine blk_drew ?_ | refine blk_alloc ?_ _)); refine blk_far ?_ NB311_313.out _; (with_reducible repeat (first | refine blk_drewN ?_ _ | refine blk_drew ?_ | refine blk_alloc ?_ _)); refine blk_far ?_ NB311_313.out _; (with_reducible repeat (first | refine blk_drewN ?_ _ | refine blk_drew ?_ | refine blk_alloc ?_ _)); exact BK311.out) hg (Kd.R_ne HO_312001.out BK311.out (by decide))); have n3_ := Aside0.mk (blk_grown (g := gb313) (o := .cells #[.int .i64 ((rd_T69 l0_1 x24_1).f0), .int .i64 ((rd_T69 l0_1 x24_1).f1), .int .i64 ((rd_T69 l0_1 x24_1).f2)] 69 (0, 0)) (by (with_reducible repeat (first | refine blk_drewN ?_ _ | refine blk_drew ?_ | refine blk_alloc ?_ _)); refine blk_put (cs := #[.int .i64 ((rd_T69 l0_1 x24_1).f0), .int .i64 ((rd_T69 l0_1 x24_1).f1), .int .i64 0]) ?_ 2 _ rfl; (with_reducible repeat (first | refine blk_drewN ?_ _ | refine blk_drew ?_ | refine blk_alloc ?_ _)); refine blk_put (cs := #[.int .i64 ((rd_T69 l0_1 x24_1).f0), .int .i64 0, .int .i64 0]) ?_ 1 _ rfl; (with_reducible repeat (first | refine blk_drewN ?_ _ | refine blk_drew ?_ | refine blk_alloc ?_ _)); refine blk_put (cs := #[.int .i64 0, .int .i64 0, .int .i64 0]) ?_ 0 _ rfl; (with_reducible repeat (first | refine blk_drewN ?_ _ | refine blk_drew ?_ | refine blk_alloc ?_ _)); exact BK313.out) hg (Kd.R_away HO_312001.out (fun _ hk => hk.2))); have n4_ := Aside0.mk (hb); have n5_ := Aside0.mk (ho); clear BK308; clear BK309; clear BK311; clear BK313; clear HB; clear HO_312001; have BK308 := n0_; have BK309 := n1_; have BK311 := n2_; have BK313 := n3_; have HB := n4_; have HO316 := n5_; clear n0_ n1_ n2_ n3_ n4_ n5_; clear ho hb hg hat; obtain ⟨Ao30, co30, eo30⟩ := Kd.R_slice HO316.out; subst eo30; have hcz31_0 : w29.cell? ⟨gb311, 0, none⟩ = some (.int .i64 a0_0) := (blk_cell BK311.out 0).trans rfl; have hcz31_1 : w29.cell? ⟨gb311, 1, none⟩ = some (u312001) := (blk_cell BK311.out 1).trans rfl; have hfz31_0 := blk_frozen BK311.out 0; have hfz31_1 := blk_frozen BK311.out 1))
        go_roundg k1
        case measure => have := HK1.out; omega
        case rel => exact ⟨(wrap64 (x24_1 + 1)), (y314), (.slice Ao30 y314.length co30), zT, H', ⟨by have := HK1.out; omega⟩, ⟨by (with_reducible repeat (first | apply Kd.R_alloc | apply Kd.R_drewN | apply Kd.R_drew)); exact Kd.R_mono (Kd.R_far (p := ⟨gb311, 1, none⟩) (Kd.R_types HO316.out BK311.out (by decide)) (fun _ hk => hk.2) (.slice Ao30 y314.length co30)) (fun _ hk => trivial)⟩, ⟨by (with_reducible repeat (first | refine blk_drewN ?_ _ | refine blk_drew ?_ | refine blk_alloc ?_ _)); refine blk_far ?_ NB308_311.out _; (with_reducible repeat (first | refine blk_drewN ?_ _ | refine blk_drew ?_ | refine blk_alloc ?_ _)); exact BK308.out⟩, ⟨by (with_reducible repeat (first | refine blk_drewN ?_ _ | refine blk_drew ?_ | refine blk_alloc ?_ _)); refine blk_far ?_ NB309_311.out _; (with_reducible repeat (first | refine blk_drewN ?_ _ | refine blk_drew ?_ | refine blk_alloc ?_ _)); exact BK309.out⟩, ⟨by (with_reducible repeat (first | refine blk_drewN ?_ _ | refine blk_drew ?_ | refine blk_alloc ?_ _)); refine blk_put (cs := #[.int .i64 a0_0, u312001]) ?_ 1 _ rfl; (with_reducible repeat (first | refine blk_drewN ?_ _ | refine blk_drew ?_ | refine blk_alloc ?_ _)); exact BK311.out⟩, ⟨by repeat (first | (with_reducible first | exact HB.out | apply below_alloc | apply pw_below_drewN | apply below_drew1 | refine below_set ?_ GE308.out | refine below_set ?_ GE309.out | refine below_set ?_ GE311.out | refine below_set ?_ GE313.out) | exact HB.out)⟩⟩
       ·rw [if_neg c20] at H
        exact absurd H (by simp)
      ·rw [if_neg c19] at H
       exact absurd H (by simp)
     ·rw [if_neg c18] at H
      exact absurd H (by simp)
    ·rw [if_neg c17] at H
     have c17b0 : decide (x24_1 < (l0_1.length : Int)) = false := decide_eq_false c17
     clear c17
     simp only [Option.some.injEq, Prod.mk.injEq] at H
     obtain ⟨rfl, rfl, rfl⟩ := H
     have hnb32 := NB311_308.out
     have hnc32 := NB308_311.out
     have hnb33 := NB311_309.out
     have hnc33 := NB309_311.out
     have hcz34_0 : wr.cell? ⟨gb311, 0, none⟩ = some (.int .i64 a0_0) := (blk_cell BK311.out 0).trans rfl
     have hcz34_1 : wr.cell? ⟨gb311, 1, none⟩ = some (u312001) := (blk_cell BK311.out 1).trans rfl
     have hfz34_0 := blk_frozen BK311.out 0
     have hfz34_1 := blk_frozen BK311.out 1
     have hnb35 := NB309_308.out
     have hnc35 := NB308_309.out
     have hcz36_0 : wr.cell? ⟨gb309, 0, none⟩ = some (.int .i64 0) := (blk_cell BK309.out 0).trans rfl
     have hcz36_1 : wr.cell? ⟨gb309, 1, none⟩ = some (.slice none 0 0) := (blk_cell BK309.out 1).trans rfl
     have hfz36_0 := blk_frozen BK309.out 0
     have hfz36_1 := blk_frozen BK309.out 1
     obtain ⟨Ao37, co37, eo37⟩ := Kd.R_slice HO_312001.out
     subst eo37
     go_wp2
     refine bodyPost_ret (results_ct rfl _ _ gb309 24 #[.int .i64 a0_0, .slice Ao37 x312001_1.length co37] (0, 0) _ rfl (by (with_reducible repeat (first | refine blk_drewN ?_ _ | refine blk_drew ?_ | refine blk_alloc ?_ _)); refine blk_put (cs := #[.int .i64 a0_0, .slice none 0 0]) ?_ 1 _ rfl; (with_reducible repeat (first | refine blk_drewN ?_ _ | refine blk_drew ?_ | refine blk_alloc ?_ _)); refine blk_put (cs := #[.int .i64 0, .slice none 0 0]) ?_ 0 _ rfl; (with_reducible repeat (first | refine blk_drewN ?_ _ | refine blk_drew ?_ | refine blk_alloc ?_ _)); exact BK309.out) Try.underlying24 rfl zK) rfl ?_
     exact ⟨_, by first | rfl | (simp [errW_none, errW_some] <;> rfl) | (simp [*, errW_none, errW_some] <;> rfl), by (with_reducible repeat (first | apply Kd.R_alloc | apply Kd.R_drewN | apply Kd.R_drew)); exact Kd.R_mono (Kd.R_far (p := ⟨gb309, 1, none⟩) (Kd.R_far (p := ⟨gb309, 0, none⟩) (Kd.R_types HO_312001.out BK309.out (by decide)) (fun _ hk => hk.2) (.int .i64 a0_0)) (fun _ hk => hk.2) (.slice Ao37 x312001_1.length co37)) (fun _ hk => trivial), by repeat (first | (with_reducible first | exact HB.out | apply below_alloc | apply pw_below_drewN | apply below_drew1 | refine below_set ?_ GE308.out | refine below_set ?_ GE309.out | refine below_set ?_ GE311.out) | exact HB.out)⟩
 ·rw [if_neg c9] at H
  have c9b0 : (t310 == 0) = false := beq_eq_false_iff_ne.mpr c9
  have c9b1 : (t310 != 0) = true := bne_iff_ne.mpr c9
  (first | rw [c9b0] | (simp only [i64_w, i32_w]; rw [c9b0]) | skip)
  (try rw [c9b1])
  simp only [Option.some.injEq, Prod.mk.injEq] at H
  obtain ⟨rfl, rfl, rfl⟩ := H
  have hnb38 := NB309_308.out
  have hnc38 := NB308_309.out
  have hcz39_0 : w8.cell? ⟨gb309, 0, none⟩ = some (.int .i64 0) := (blk_cell BK309.out 0).trans rfl
  have hcz39_1 : w8.cell? ⟨gb309, 1, none⟩ = some (.slice none 0 0) := (blk_cell BK309.out 1).trans rfl
  have hfz39_0 := blk_frozen BK309.out 0
  have hfz39_1 := blk_frozen BK309.out 1
  go_wp2
  refine bodyPost_ret (results_ct rfl _ _ gb309 24 #[.int .i64 0, .slice none 0 0] (0, 0) _ rfl (by (with_reducible repeat (first | refine blk_drewN ?_ _ | refine blk_drew ?_ | refine blk_alloc ?_ _)); refine blk_put (cs := #[.int .i64 0, .slice none 0 0]) ?_ 1 _ rfl; (with_reducible repeat (first | refine blk_drewN ?_ _ | refine blk_drew ?_ | refine blk_alloc ?_ _)); refine blk_put (cs := #[.int .i64 0, .slice none 0 0]) ?_ 0 _ rfl; (with_reducible repeat (first | refine blk_drewN ?_ _ | refine blk_drew ?_ | refine blk_alloc ?_ _)); exact BK309.out) Try.underlying24 rfl zK) rfl ?_
  exact ⟨_, by first | rfl | (simp [errW_none, errW_some] <;> rfl) | (simp [*, errW_none, errW_some] <;> rfl), by first | exact Kd.R_nil _ _ _ _ _ | exact Kd.N_nil _ _ _ _ _ | exact Kd.V_nil _ _ _ _ _ | exact Kd.Q_nil _ _ _ _ _ | exact Kd.S_nil _ _ _ _ _, by repeat (first | (with_reducible first | exact HB.out | apply below_alloc | apply pw_below_drewN | apply below_drew1 | refine below_set ?_ GE308.out | refine below_set ?_ GE309.out) | exact HB.out)⟩
end Go.Proofs.Ytanbffoilianhaa.F
