-- Written by wip/tools/myprint.py, a program of this session's.
import Derived.Test.YtanbffoilianhaaE0
import Derived.Test.YtanbffoilianhaaE5
import Derived.Test.YtanbffoilianhaaE6
import Derived.Test.YtanbffoilianhaaE7
import Derived.Test.YtanbffoilianhaaE8
import Derived.Test.YtanbffoilianhaaE12
import Derived.Test.YtanbffoilianhaaE18
import Derived.Test.YtanbffoilianhaaE20
namespace Go.Proofs.Ytanbffoilianhaa.E
open Go.RowKit Go.Proofs.YtanbffoilianhaaW.PrintWords Go.Proofs.YtanbffoilianhaaW.PrintLast Go.Proofs.YtanbffoilianhaaW.PrintMore
attribute [local go_sem] max2_int min2_int max_two min_two max_three min_three max_four min_four   -- for this text's walks alone
set_option linter.unusedVariables false
set_option linter.unusedSimpArgs false
/-! ### ancepsref09_Cut: function 31 -/
def ancepsref09_Cut.l0 : Nat → List Bool → List Int → Int → Option (List Int × Int)
 | 0, _, _, _ => none
 | k + 1, x5, x6, x7 => if x7 < (x5.length : Int) then (if 0 ≤ x7 then (if rdOf false x5 x7 = true then (if x6.length < 17592186044416 then (ancepsref09_Cut.l0 k x5 (x6 ++ [x7]) (wrap64 (x7 + 1))) else (none)) else (ancepsref09_Cut.l0 k x5 x6 (wrap64 (x7 + 1)))) else (none)) else (some (x6, 0))
def ancepsref09_Cut.f (k : Nat) (a0_0 : Int) (l0_1 : List (S69)) : Option (List Int × Int) := (ancepsref09_Valid.f k a0_0 l0_1).bind fun t444 => (if t444 = 0 then ((ancepsref09_reached.f k a0_0 l0_1).bind fun t445 => (if 0 ≤ (wrap64 (a0_0 - 1)) then (if (wrap64 (a0_0 - 1)) < (t445.length : Int) then (if rdOf false t445 (wrap64 (a0_0 - 1)) = true then (some (([] : List Int), 11)) else (ancepsref09_Cut.l0 k t445 ([] : List Int) 0)) else (none)) else (none))) else (some (([] : List Int), t444)))
theorem ancepsref09_Cut.mono_l : ∀ k, (∀ y0 y1 y2, LeO (ancepsref09_Cut.l0 k y0 y1 y2) (ancepsref09_Cut.l0 (k + 1) y0 y1 y2))
 | 0 => fun _ _ _ r h => by simp [ancepsref09_Cut.l0] at h
 | k + 1 => by
  have ih0 := ancepsref09_Cut.mono_l k
  ·intro y0 y1 y2
   unfold ancepsref09_Cut.l0
   repeat' first
   | (with_reducible exact ih0 _ _ _)
   | (with_reducible exact ancepsref09_Valid.mono _ _ _)
   | (with_reducible exact ancepsref09_reached.mono _ _ _)
   | (with_reducible exact LeO.refl _)
   | (with_reducible exact LeO.none _)
   | (with_reducible refine LeO.ite ?_ ?_)
   | (with_reducible refine LeO.bind ?_ (fun _ => ?_))
   | exact ih0 _ _ _
   | exact ancepsref09_Valid.mono _ _ _
   | exact ancepsref09_reached.mono _ _ _
   | exact LeO.none _
   | refine LeO.ite ?_ ?_
   | refine LeO.bind ?_ (fun _ => ?_)
theorem ancepsref09_Cut.mono : ∀ a0 a1 k, LeO (ancepsref09_Cut.f k a0 a1) (ancepsref09_Cut.f (k + 1) a0 a1) := by
 intro a0 a1 k
 have ih0 := ancepsref09_Cut.mono_l k
 unfold ancepsref09_Cut.f
 repeat' first
   | (with_reducible exact ih0 _ _ _)
   | (with_reducible exact ancepsref09_Valid.mono _ _ _)
   | (with_reducible exact ancepsref09_reached.mono _ _ _)
   | (with_reducible exact LeO.refl _)
   | (with_reducible exact LeO.none _)
   | (with_reducible refine LeO.ite ?_ ?_)
   | (with_reducible refine LeO.bind ?_ (fun _ => ?_))
   | exact ih0 _ _ _
   | exact ancepsref09_Valid.mono _ _ _
   | exact ancepsref09_reached.mono _ _ _
   | exact LeO.none _
   | refine LeO.ite ?_ ?_
   | refine LeO.bind ?_ (fun _ => ?_)
set_option maxHeartbeats 8000000 in
set_option maxRecDepth 100000 in
theorem ancepsref09_Cut.calls (k : Nat) (a0_0 : Int) (A0_1 : Option Addr) (c0_1 : Nat) (l0_1 : List (S69)) (r1 : List Int) (r2 : Int) (w : World) (hr0_1 : Kd.C k69 w A0_1 l0_1.length l0_1) (hc0_1 : l0_1.length ≤ c0_1) (h : ancepsref09_Cut.f k a0_0 l0_1 = some (r1, r2)) :
  Calls Try.prog 31 #[.agg #[.int .i64 a0_0, .slice A0_1 l0_1.length c0_1]] w fun e w' => ∃ v0_ : Value, e = .returned (.tuple #[v0_, .int .i64 r2]) ∧ Kd.R (Kd.int .i64) 3 w' w.heap.size (fun _ => True) v0_ r1 ∧ Below w.heap.size w w' := by
 have hu24 := Try.underlying24
 have hu3 := Try.underlying3
 have hu4 := Try.underlying4
 have HR0_1 := Aside0.mk hr0_1
 have HC0_1 := Aside0.mk hc0_1
 clear hr0_1 hc0_1
 have HB := Aside0.mk (Below.refl w.heap.size w)
 have H : ((ancepsref09_Valid.f k a0_0 l0_1).bind fun t444 => (if t444 = 0 then ((ancepsref09_reached.f k a0_0 l0_1).bind fun t445 => (if 0 ≤ (wrap64 (a0_0 - 1)) then (if (wrap64 (a0_0 - 1)) < (t445.length : Int) then (if rdOf false t445 (wrap64 (a0_0 - 1)) = true then (some (([] : List Int), 11)) else (ancepsref09_Cut.l0 k t445 ([] : List Int) 0)) else (none)) else (none))) else (some (([] : List Int), t444)))) = some (r1, r2) := h
 clear h
 replace H := Option.bind_eq_some_iff.mp H
 obtain ⟨t444, A20, H⟩ := H
 replace H : (if t444 = 0 then ((ancepsref09_reached.f k a0_0 l0_1).bind fun t445 => (if 0 ≤ (wrap64 (a0_0 - 1)) then (if (wrap64 (a0_0 - 1)) < (t445.length : Int) then (if rdOf false t445 (wrap64 (a0_0 - 1)) = true then (some (([] : List Int), 11)) else (ancepsref09_Cut.l0 k t445 ([] : List Int) 0)) else (none)) else (none))) else (some (([] : List Int), t444))) = some (r1, r2) := H
 have A2 := Aside0.mk A20
 clear A20
 have HC3 := Aside0.mk H
 clear H
 go_enter Try.func31, Try.ntmps31
 go_upto_if 11 with (first | ((with_reducible refine gate_dst (N := 1) rfl ?_); refine box_event ?hg (N := 1) ?hd (cs := #[.int .i64 a0_0, .slice A0_1 l0_1.length c0_1]) (t := 24) ?hr ?_; (case hd => rfl); (case hg => rfl); (case hr => first | (go_simp; done) | (go_simp; rfl)); intro gb443 hg w4 hbox hb; have n0_ := Aside0.mk (below_step zB hb); have n1_ := Aside0.mk (hbox); have n2_ := Aside0.mk ((by rw [hg]; exact (below_size zB) : w.heap.size ≤ gb443)); have n3_ := Aside0.mk ((by rw [hg]; exact (below_size zB) : w.heap.size ≤ gb443)); clear HB; have HB := n0_; have BK443 := n1_; have GW443 := n2_; have GE443 := n3_; clear n0_ n1_ n2_ n3_; clear hb hbox hg; have hcz5_0 : w4.cell? ⟨gb443, 0, none⟩ = some (.int .i64 a0_0) := (blk_cell BK443.out 0).trans rfl; have hcz5_1 : w4.cell? ⟨gb443, 1, none⟩ = some (.slice A0_1 l0_1.length c0_1) := (blk_cell BK443.out 1).trans rfl; have hfz5_0 := blk_frozen BK443.out 0; have hfz5_1 := blk_frozen BK443.out 1) | ((with_reducible refine gate_callee (f := 28) rfl ?_); refine goesL_ (some 9) rfl rfl Try.func28 zK rfl #[.agg #[.int .i64 a0_0, .slice A0_1 l0_1.length c0_1]] rfl zM ?_; (with_reducible refine (ancepsref09_Valid.calls k a0_0 _ _ l0_1 t444 _ ?side1 ?side2 A2.out).mono ?_); (case side1 => repeat (first | exact (Kd.C_below HR0_1.out HB.out) | (with_reducible refine Kd.C_alloc ?_ _) | (with_reducible refine Kd.C_drewN ?_ _) | (with_reducible refine Kd.C_drew ?_))); (case side2 => exact HC0_1.out); rintro e w6 ⟨rfl, hb⟩; refine ⟨_, rfl, ?_⟩; have n0_ := Aside0.mk (blk_below (g := gb443) (o := .cells #[.int .i64 a0_0, .slice A0_1 l0_1.length c0_1] 24 (0, 0)) (zk BK443) hb); have n1_ := Aside0.mk (below_step zB hb); clear BK443; clear HB; have BK443 := n0_; have HB := n1_; clear n0_ n1_; (try clear hb); (try clear hb2); (try clear hk); (try clear hi)))
 (try simp only [Act.put, List.setIfInBounds_toArray, List.set_cons_zero, List.set_cons_succ])
 have H := HC3.out
 clear HC3
 by_cases c7 : t444 = 0
 ·rw [if_pos c7] at H
  have c7b0 : (t444 == 0) = true := beq_iff_eq.mpr c7
  have c7b1 : (t444 != 0) = false := bne_eq_false_iff_eq.mpr c7
  clear c7
  (first | rw [c7b0] | (simp only [i64_w, i32_w]; rw [c7b0]) | skip)
  (try rw [c7b1])
  replace H := Option.bind_eq_some_iff.mp H
  obtain ⟨t445, A80, H⟩ := H
  replace H : (if 0 ≤ (wrap64 (a0_0 - 1)) then (if (wrap64 (a0_0 - 1)) < (t445.length : Int) then (if rdOf false t445 (wrap64 (a0_0 - 1)) = true then (some (([] : List Int), 11)) else (ancepsref09_Cut.l0 k t445 ([] : List Int) 0)) else (none)) else (none)) = some (r1, r2) := H
  have A8 := Aside0.mk A80
  clear A80
  obtain ⟨ji9, hji9⟩ : ∃ j_ : Int, (wrap64 (a0_0 - 1)) = j_ := ⟨_, rfl⟩
  replace H : (if 0 ≤ (ji9) then (if (ji9) < (t445.length : Int) then (if rdOf false t445 (ji9) = true then (some (([] : List Int), 11)) else (ancepsref09_Cut.l0 k t445 ([] : List Int) 0)) else (none)) else (none)) = some (r1, r2) := by first | (rw [hji9] at H; exact H) | (simp only [hji9] at H ⊢; exact H)
  (try rw [hji9] at A8)
  have hji9w : (IntKind.i64.wrap (a0_0 - 1)) = ji9 := (i64_w _).trans hji9
  by_cases c10 : 0 ≤ (ji9)
  ·rw [if_pos c10] at H
   have c10b0 : decide (0 ≤ (ji9)) = true := decide_eq_true c10
   clear c10
   by_cases c11 : (ji9) < (t445.length : Int)
   ·rw [if_pos c11] at H
    have c11b0 : decide ((ji9) < (t445.length : Int)) = true := decide_eq_true c11
    clear c11
    have HC12 := Aside0.mk H
    clear H
    have hcz13_0 : w6.cell? ⟨gb443, 0, none⟩ = some (.int .i64 a0_0) := (blk_cell BK443.out 0).trans rfl
    have hcz13_1 : w6.cell? ⟨gb443, 1, none⟩ = some (.slice A0_1 l0_1.length c0_1) := (blk_cell BK443.out 1).trans rfl
    have hfz13_0 := blk_frozen BK443.out 0
    have hfz13_1 := blk_frozen BK443.out 1
    go_upto_if 20 with (first | ((with_reducible refine gate_callee (f := 66) rfl ?_); refine goesL_ (some 14) rfl rfl Try.func66 zK rfl #[.agg #[.int .i64 a0_0, .slice A0_1 l0_1.length c0_1]] rfl zM ?_; (with_reducible refine (ancepsref09_reached.calls k a0_0 _ _ l0_1 t445 _ ?side1 ?side2 A8.out).mono ?_); (case side1 => repeat (first | exact (Kd.C_below HR0_1.out HB.out) | (with_reducible refine Kd.C_alloc ?_ _) | (with_reducible refine Kd.C_drewN ?_ _) | (with_reducible refine Kd.C_drew ?_))); (case side2 => exact HC0_1.out); rintro e w14 ⟨v446, rfl, ho0, hb⟩; refine ⟨_, rfl, ?_⟩; have n0_ := Aside0.mk (Kd.R_lower ho0 (below_size zB)); have n1_ := Aside0.mk (blk_below (g := gb443) (o := .cells #[.int .i64 a0_0, .slice A0_1 l0_1.length c0_1] 24 (0, 0)) (zk BK443) hb); have n2_ := Aside0.mk (below_step zB hb); clear BK443; clear HB; have HO447 := n0_; have BK443 := n1_; have HB := n2_; clear n0_ n1_ n2_; (try clear hb); (try clear hb2); (try clear hk); (try clear hi); (try clear ho0); have hcz15_0 : w14.cell? ⟨gb443, 0, none⟩ = some (.int .i64 a0_0) := (blk_cell BK443.out 0).trans rfl; have hcz15_1 : w14.cell? ⟨gb443, 1, none⟩ = some (.slice A0_1 l0_1.length c0_1) := (blk_cell BK443.out 1).trans rfl; have hfz15_0 := blk_frozen BK443.out 0; have hfz15_1 := blk_frozen BK443.out 1; obtain ⟨Ao16, co16, eo16⟩ := Kd.R_slice HO447.out; subst eo16; have p448 : 0 ≤ ((ji9) : Int) := of_decide_eq_true zh; have q448 : (ji9) < (t445.length : Int) := of_decide_eq_true zh; obtain ⟨ad448, e448, hx448_0⟩ := Kd.at_bool (Kd.R_reads' HO447.out).2.2 (ji9) p448 q448; cases e448; replace p448 := eq_true p448; replace q448 := eq_true q448))
    (try simp only [Act.put, List.setIfInBounds_toArray, List.set_cons_zero, List.set_cons_succ])
    have H := HC12.out
    clear HC12
    obtain ⟨bq17, hbq17⟩ : ∃ b_ : Bool, b_ = (rdOf false t445 (ji9)) := ⟨_, rfl⟩
    replace H : (if bq17 = true then (some (([] : List Int), 11)) else (ancepsref09_Cut.l0 k t445 ([] : List Int) 0)) = some (r1, r2) := by rw [← hbq17] at H; exact H
    have Nbq17 := Aside0.mk hbq17
    clear hbq17
    (try rw [← Nbq17.out])
    by_cases c18 : bq17 = true
    ·subst c18
     have H1 : (some (([] : List Int), 11)) = some (r1, r2) := by rw [if_pos rfl] at H; exact H
     clear H
     have H := H1
     clear H1
     simp only [Option.some.injEq, Prod.mk.injEq] at H
     obtain ⟨rfl, rfl⟩ := H
     go_wp2
     go_ret2
     exact ⟨_, by first | rfl | (simp [errW_none, errW_some] <;> rfl) | (simp only [← hji9]; first | rfl | (simp [errW_none, errW_some] <;> rfl)) | (simp [*, errW_none, errW_some] <;> rfl), by first | exact Kd.R_nil _ _ _ _ _ | exact Kd.N_nil _ _ _ _ _ | exact Kd.V_nil _ _ _ _ _ | exact Kd.Q_nil _ _ _ _ _ | exact Kd.S_nil _ _ _ _ _, by repeat (first | (with_reducible first | exact HB.out | apply below_alloc | apply pw_below_drewN | apply below_drew1 | refine below_set ?_ GE443.out) | exact HB.out)⟩
    ·replace c18 := Bool.eq_false_iff.mpr c18
     subst c18
     have H1 : (ancepsref09_Cut.l0 k t445 ([] : List Int) 0) = some (r1, r2) := by rw [if_neg (show ¬ (false = true) by decide)] at H; exact H
     clear H
     have H := H1
     clear H1
     have H' := Aside0.mk H
     clear H
     go_wp2
     go_loopg [6, 7] k (fun kq v6 v7 w' => ∃ (x6_1 : List Int) (x7_1 : Int), v7 = .int .i64 x7_1 ∧ Aside0 (ancepsref09_Cut.l0 kq t445 x6_1 x7_1 = some (r1, r2)) ∧ Aside0 (kq ≤ k) ∧ Aside0 (Kd.R Kd.bool 4 w' w.heap.size (fun _ => True) (.slice (some ad448) t445.length co16) t445) ∧ Aside0 (Kd.R (Kd.int .i64) 3 w' w.heap.size (fun _ => True) v6 x6_1) ∧ Aside0 (w'.heap[gb443]? = some (.cells #[.int .i64 a0_0, (.slice A0_1 l0_1.length c0_1)] 24 (0, 0))) ∧ Aside0 (Below w.heap.size w w'))
     case atStart => exact ⟨(([] : List Int)), (0), zT, H', ⟨Nat.le_refl _⟩, ⟨by (with_reducible repeat (first | apply Kd.R_alloc | apply Kd.R_drewN | apply Kd.R_drew)); exact HO447.out⟩, ⟨by first | exact Kd.R_nil _ _ _ _ _ | exact Kd.N_nil _ _ _ _ _ | exact Kd.V_nil _ _ _ _ _ | exact Kd.Q_nil _ _ _ _ _ | exact Kd.S_nil _ _ _ _ _⟩, ⟨by (with_reducible repeat (first | refine blk_drewN ?_ _ | refine blk_drew ?_ | refine blk_alloc ?_ _)); exact BK443.out⟩, ⟨by repeat (first | (with_reducible first | exact HB.out | apply below_alloc | apply pw_below_drewN | apply below_drew1 | refine below_set ?_ GE443.out) | exact HB.out)⟩⟩
     case round =>
      clear H'
      try clear c1
      try clear q1
      try clear c2
      try clear p2
      try clear c3
      try clear p4
      try clear q4
      try clear hx4
      try clear c6
      try clear p6
      try clear c7
      try clear c7b0
      try clear c7b1
      try clear c10
      try clear c10b0
      try clear c11
      try clear c11b0
      try clear q17
      try clear c18
      try clear hcz13_0
      try clear hcz13_1
      try clear hcz15_0
      try clear hcz15_1
      try clear hcz5_0
      try clear hcz5_1
      try clear hfz13_0
      try clear hfz13_1
      try clear hfz15_0
      try clear hfz15_1
      try clear hfz5_0
      try clear hfz5_1
      try clear hx448_0
      try clear p448
      try clear q448
      obtain ⟨x6_1, x7_1, rfl, HA, HK1, HO_5, HO_6, BK443, HB⟩ := hrel
      cases gk with
      | zero => exact absurd HA.out (by simp [ancepsref09_Cut.l0])
      | succ k1 =>
       have H := HA.out
       clear HA
       simp only [ancepsref09_Cut.l0] at H
       by_cases c19 : x7_1 < (t445.length : Int)
       ·rw [if_pos c19] at H
        have c19b0 : decide (x7_1 < (t445.length : Int)) = true := decide_eq_true c19
        clear c19
        by_cases c20 : 0 ≤ x7_1
        ·rw [if_pos c20] at H
         have c20b0 : decide (0 ≤ x7_1) = true := decide_eq_true c20
         clear c20
         obtain ⟨bq21, hbq21⟩ : ∃ b_ : Bool, b_ = (rdOf false t445 x7_1) := ⟨_, rfl⟩
         replace H : (if bq21 = true then (if x6_1.length < 17592186044416 then (ancepsref09_Cut.l0 k1 t445 (x6_1 ++ [x7_1]) (wrap64 (x7_1 + 1))) else (none)) else (ancepsref09_Cut.l0 k1 t445 x6_1 (wrap64 (x7_1 + 1)))) = some (r1, r2) := by rw [← hbq21] at H; exact H
         have Nbq21 := Aside0.mk hbq21
         clear hbq21
         by_cases c22 : bq21 = true
         ·subst c22
          have H1 : (if x6_1.length < 17592186044416 then (ancepsref09_Cut.l0 k1 t445 (x6_1 ++ [x7_1]) (wrap64 (x7_1 + 1))) else (none)) = some (r1, r2) := by rw [if_pos rfl] at H; exact H
          clear H
          have H := H1
          clear H1
          by_cases c23 : x6_1.length < 17592186044416
          ·rw [if_pos c23] at H
           have LMc23 := Aside0.mk c23
           clear c23
           obtain ⟨y450, hy450⟩ : ∃ y_ : List Int, y_ = (x6_1 ++ [x7_1]) := ⟨_, rfl⟩
           replace H : (ancepsref09_Cut.l0 k1 t445 y450 (wrap64 (x7_1 + 1))) = some (r1, r2) := by first | (rw [hy450]; with_reducible exact H) | (have H2_ := (Option.bind_some _ _).symm.trans H; rw [hy450]; with_reducible exact H2_) | (have H2_ := (Option.bind_some _ _).symm.trans H; with_reducible exact H2_) | with_reducible exact H | (rw [hy450]; exact H) | exact H
           have Ny450 := Aside0.mk hy450
           clear hy450
           have H' := Aside0.mk H
           clear H
           have p449 : 0 ≤ (x7_1 : Int) := of_decide_eq_true zh
           have q449 : x7_1 < (t445.length : Int) := of_decide_eq_true zh
           obtain ⟨ad449, e449, hx449_0⟩ := Kd.at_bool (Kd.R_reads' HO_5.out).2.2 x7_1 p449 q449
           (try rw [← Nbq17.out] at hx449_0)
           (try rw [← Nbq21.out] at hx449_0)
           obtain rfl : ad448 = ad449 := (by injection e449)
           replace p449 := eq_true p449
           replace q449 := eq_true q449
           go_wp2_with (first | ((with_reducible refine gate_builtin (b := .append) (xs := #[.tmp 31, .tmp 33]) rfl ?_); at_builtin; refine Kd.R_append (Kd.int .i64) (w0 := w) w.heap.size rfl (.tmp 31) (.tmp 33) 25 3 (.int .i64 0) 8 rfl Try.underlying25 info3 rfl (by decide) (by omega) u6 x6_1 x7_1 [.int .i64 x7_1] (fun _ => True) (fun _ => False) rfl rfl ?aP (fun _ hk => hk.elim) ?aF ?aO ?aB ?aS ?aL ?_; (case aP => exact rfl); (case aB => exact zB); (case aF => exact (fun _ _ => trivial)); (case aO => exact (zR HO_6)); (case aS => exact (below_size zB)); (case aL => have := LMc23.out; omega); intro v451 w24 ho hb hg hat; rw [← Ny450.out] at ho; have n0_ := Aside0.mk (Kd.R_over' (zR HO_5) (Kd.R_typed (zR HO_6)) (by decide) hg); have n1_ := Aside0.mk (blk_grown (g := gb443) (o := .cells #[.int .i64 a0_0, .slice A0_1 l0_1.length c0_1] 24 (0, 0)) (zk BK443) hg (Kd.R_ne HO_6.out BK443.out (by decide))); have n2_ := Aside0.mk (hb); have n3_ := Aside0.mk (ho); clear HO_5; clear BK443; clear HB; clear HO_6; have HO_5 := n0_; have BK443 := n1_; have HB := n2_; have HO452 := n3_; clear n0_ n1_ n2_ n3_; clear ho hb hg hat))
           go_roundg k1
           case measure => have := HK1.out; omega
           case rel => exact ⟨(y450), (wrap64 (x7_1 + 1)), zT, H', ⟨by have := HK1.out; omega⟩, ⟨by (with_reducible repeat (first | apply Kd.R_alloc | apply Kd.R_drewN | apply Kd.R_drew)); exact HO_5.out⟩, ⟨by (with_reducible repeat (first | apply Kd.R_alloc | apply Kd.R_drewN | apply Kd.R_drew)); exact HO452.out⟩, ⟨by (with_reducible repeat (first | refine blk_drewN ?_ _ | refine blk_drew ?_ | refine blk_alloc ?_ _)); exact BK443.out⟩, ⟨by repeat (first | (with_reducible first | exact HB.out | apply below_alloc | apply pw_below_drewN | apply below_drew1 | refine below_set ?_ GE443.out) | exact HB.out)⟩⟩
          ·rw [if_neg c23] at H
           exact absurd H (by simp)
         ·replace c22 := Bool.eq_false_iff.mpr c22
          subst c22
          have H1 : (ancepsref09_Cut.l0 k1 t445 x6_1 (wrap64 (x7_1 + 1))) = some (r1, r2) := by rw [if_neg (show ¬ (false = true) by decide)] at H; exact H
          clear H
          have H := H1
          clear H1
          have H' := Aside0.mk H
          clear H
          have p449 : 0 ≤ (x7_1 : Int) := of_decide_eq_true zh
          have q449 : x7_1 < (t445.length : Int) := of_decide_eq_true zh
          obtain ⟨ad449, e449, hx449_0⟩ := Kd.at_bool (Kd.R_reads' HO_5.out).2.2 x7_1 p449 q449
          (try rw [← Nbq17.out] at hx449_0)
          (try rw [← Nbq21.out] at hx449_0)
          obtain rfl : ad448 = ad449 := (by injection e449)
          replace p449 := eq_true p449
          replace q449 := eq_true q449
          go_wp2
          go_roundg k1
          case measure => have := HK1.out; omega
          case rel => exact ⟨(x6_1), (wrap64 (x7_1 + 1)), zT, H', ⟨by have := HK1.out; omega⟩, ⟨by (with_reducible repeat (first | apply Kd.R_alloc | apply Kd.R_drewN | apply Kd.R_drew)); exact HO_5.out⟩, ⟨by (with_reducible repeat (first | apply Kd.R_alloc | apply Kd.R_drewN | apply Kd.R_drew)); exact HO_6.out⟩, ⟨by (with_reducible repeat (first | refine blk_drewN ?_ _ | refine blk_drew ?_ | refine blk_alloc ?_ _)); exact BK443.out⟩, ⟨by repeat (first | (with_reducible first | exact HB.out | apply below_alloc | apply pw_below_drewN | apply below_drew1 | refine below_set ?_ GE443.out) | exact HB.out)⟩⟩
        ·rw [if_neg c20] at H
         exact absurd H (by simp)
       ·rw [if_neg c19] at H
        have c19b0 : decide (x7_1 < (t445.length : Int)) = false := decide_eq_false c19
        clear c19
        simp only [Option.some.injEq, Prod.mk.injEq] at H
        obtain ⟨rfl, rfl⟩ := H
        go_wp2
        go_ret2
        exact ⟨_, by first | rfl | (simp [errW_none, errW_some] <;> rfl) | (simp only [← hji9]; first | rfl | (simp [errW_none, errW_some] <;> rfl)) | (simp [*, errW_none, errW_some] <;> rfl), by (with_reducible repeat (first | apply Kd.R_alloc | apply Kd.R_drewN | apply Kd.R_drew)); exact HO_6.out, by repeat (first | (with_reducible first | exact HB.out | apply below_alloc | apply pw_below_drewN | apply below_drew1 | refine below_set ?_ GE443.out) | exact HB.out)⟩
   ·rw [if_neg c11] at H
    exact absurd H (by simp)
  ·rw [if_neg c10] at H
   exact absurd H (by simp)
 ·rw [if_neg c7] at H
  have c7b0 : (t444 == 0) = false := beq_eq_false_iff_ne.mpr c7
  have c7b1 : (t444 != 0) = true := bne_iff_ne.mpr c7
  (first | rw [c7b0] | (simp only [i64_w, i32_w]; rw [c7b0]) | skip)
  (try rw [c7b1])
  simp only [Option.some.injEq, Prod.mk.injEq] at H
  obtain ⟨rfl, rfl⟩ := H
  go_wp2
  go_ret2
  exact ⟨_, by first | rfl | (simp [errW_none, errW_some] <;> rfl) | (simp [*, errW_none, errW_some] <;> rfl), by first | exact Kd.R_nil _ _ _ _ _ | exact Kd.N_nil _ _ _ _ _ | exact Kd.V_nil _ _ _ _ _ | exact Kd.Q_nil _ _ _ _ _ | exact Kd.S_nil _ _ _ _ _, by repeat (first | (with_reducible first | exact HB.out | apply below_alloc | apply pw_below_drewN | apply below_drew1 | refine below_set ?_ GE443.out) | exact HB.out)⟩
/-! ### ancepslaw09_DagCut: function 7 -/
mutual
def ancepslaw09_DagCut.j0 : Nat → Bool → Int → List (S69) → Option (Bool)
 | 0, _, _, _ => none
 | k + 1, x15, x476000, x476001 => if x15 = true then ((ancepslaw09_awake.f k).bind fun t478 => (some t478)) else ((dag_Cut.f k x476000 x476001).bind fun bt479 => ((ancepsref09_Cut.f k x476000 x476001).bind fun bt483 => (if bt479.2 = bt483.2 then ((slices_Equal_int_int.f k bt479.1 bt483.1).bind fun t487 => (ancepslaw09_DagCut.j1 k bt479.1 bt479.2 (!t487) x476000 x476001)) else (ancepslaw09_DagCut.j1 k bt479.1 bt479.2 true x476000 x476001))))
def ancepslaw09_DagCut.j1 : Nat → List Int → Int → Bool → Int → List (S69) → Option (Bool)
 | 0, _, _, _, _, _ => none
 | k + 1, x3, x4, x35, x476000, x476001 => if x35 = true then (some false) else ((ancepsref09_Count.f k x476000 x476001).bind fun bt488 => (if bt488.2 = 0 then (if ((decide (bt488.1 > 0)) != (x4 == 11)) = true then (some false) else (if x4 = 0 then ((dag_CheckCut.f k x476000 x476001 x3).bind fun t490 => (some t490)) else (some true))) else (if x4 = 0 then ((dag_CheckCut.f k x476000 x476001 x3).bind fun t491 => (some t491)) else (some true))))
end
def ancepslaw09_DagCut.f (k : Nat) (a0_0 : Int) (l0_1 : List (S69)) : Option (Bool) := (ancepslaw09_awake.f k).bind fun t476 => (if t476 = true then ((ancepsref09_Few.f a0_0 l0_1).bind fun t477 => (ancepslaw09_DagCut.j0 k (!t477) a0_0 l0_1)) else (ancepslaw09_DagCut.j0 k true a0_0 l0_1))
theorem ancepslaw09_DagCut.mono_l : ∀ k, (∀ y0 y1 y2, LeO (ancepslaw09_DagCut.j0 k y0 y1 y2) (ancepslaw09_DagCut.j0 (k + 1) y0 y1 y2)) ∧ (∀ y0 y1 y2 y3 y4, LeO (ancepslaw09_DagCut.j1 k y0 y1 y2 y3 y4) (ancepslaw09_DagCut.j1 (k + 1) y0 y1 y2 y3 y4))
 | 0 => ⟨fun _ _ _ r h => by simp [ancepslaw09_DagCut.j0] at h, fun _ _ _ _ _ r h => by simp [ancepslaw09_DagCut.j1] at h⟩
 | k + 1 => by
  obtain ⟨ih0, ih1⟩ := ancepslaw09_DagCut.mono_l k
  refine ⟨?_, ?_⟩
  ·intro y0 y1 y2
   unfold ancepslaw09_DagCut.j0
   repeat' first
   | (with_reducible exact ih0 _ _ _)
   | (with_reducible exact ih1 _ _ _ _ _)
   | (with_reducible exact ancepslaw09_awake.mono _)
   | (with_reducible exact ancepsref09_Count.mono _ _ _)
   | (with_reducible exact ancepsref09_Cut.mono _ _ _)
   | (with_reducible exact dag_CheckCut.mono _ _ _ _)
   | (with_reducible exact dag_Cut.mono _ _ _)
   | (with_reducible exact slices_Equal_int_int.mono _ _ _)
   | (with_reducible exact LeO.refl _)
   | (with_reducible exact LeO.none _)
   | (with_reducible refine LeO.ite ?_ ?_)
   | (with_reducible refine LeO.bind ?_ (fun _ => ?_))
   | exact ih0 _ _ _
   | exact ih1 _ _ _ _ _
   | exact ancepslaw09_awake.mono _
   | exact ancepsref09_Count.mono _ _ _
   | exact ancepsref09_Cut.mono _ _ _
   | exact dag_CheckCut.mono _ _ _ _
   | exact dag_Cut.mono _ _ _
   | exact slices_Equal_int_int.mono _ _ _
   | exact LeO.none _
   | refine LeO.ite ?_ ?_
   | refine LeO.bind ?_ (fun _ => ?_)
  ·intro y0 y1 y2 y3 y4
   unfold ancepslaw09_DagCut.j1
   repeat' first
   | (with_reducible exact ih0 _ _ _)
   | (with_reducible exact ih1 _ _ _ _ _)
   | (with_reducible exact ancepslaw09_awake.mono _)
   | (with_reducible exact ancepsref09_Count.mono _ _ _)
   | (with_reducible exact ancepsref09_Cut.mono _ _ _)
   | (with_reducible exact dag_CheckCut.mono _ _ _ _)
   | (with_reducible exact dag_Cut.mono _ _ _)
   | (with_reducible exact slices_Equal_int_int.mono _ _ _)
   | (with_reducible exact LeO.refl _)
   | (with_reducible exact LeO.none _)
   | (with_reducible refine LeO.ite ?_ ?_)
   | (with_reducible refine LeO.bind ?_ (fun _ => ?_))
   | exact ih0 _ _ _
   | exact ih1 _ _ _ _ _
   | exact ancepslaw09_awake.mono _
   | exact ancepsref09_Count.mono _ _ _
   | exact ancepsref09_Cut.mono _ _ _
   | exact dag_CheckCut.mono _ _ _ _
   | exact dag_Cut.mono _ _ _
   | exact slices_Equal_int_int.mono _ _ _
   | exact LeO.none _
   | refine LeO.ite ?_ ?_
   | refine LeO.bind ?_ (fun _ => ?_)
theorem ancepslaw09_DagCut.mono : ∀ a0 a1 k, LeO (ancepslaw09_DagCut.f k a0 a1) (ancepslaw09_DagCut.f (k + 1) a0 a1) := by
 intro a0 a1 k
 obtain ⟨ih0, ih1⟩ := ancepslaw09_DagCut.mono_l k
 unfold ancepslaw09_DagCut.f
 repeat' first
   | (with_reducible exact ih0 _ _ _)
   | (with_reducible exact ih1 _ _ _ _ _)
   | (with_reducible exact ancepslaw09_awake.mono _)
   | (with_reducible exact ancepsref09_Count.mono _ _ _)
   | (with_reducible exact ancepsref09_Cut.mono _ _ _)
   | (with_reducible exact dag_CheckCut.mono _ _ _ _)
   | (with_reducible exact dag_Cut.mono _ _ _)
   | (with_reducible exact slices_Equal_int_int.mono _ _ _)
   | (with_reducible exact LeO.refl _)
   | (with_reducible exact LeO.none _)
   | (with_reducible refine LeO.ite ?_ ?_)
   | (with_reducible refine LeO.bind ?_ (fun _ => ?_))
   | exact ih0 _ _ _
   | exact ih1 _ _ _ _ _
   | exact ancepslaw09_awake.mono _
   | exact ancepsref09_Count.mono _ _ _
   | exact ancepsref09_Cut.mono _ _ _
   | exact dag_CheckCut.mono _ _ _ _
   | exact dag_Cut.mono _ _ _
   | exact slices_Equal_int_int.mono _ _ _
   | exact LeO.none _
   | refine LeO.ite ?_ ?_
   | refine LeO.bind ?_ (fun _ => ?_)
set_option maxHeartbeats 8000000 in
set_option maxRecDepth 100000 in
theorem ancepslaw09_DagCut.calls (k : Nat) (a0_0 : Int) (A0_1 : Option Addr) (c0_1 : Nat) (l0_1 : List (S69)) (r : Bool) (w : World) (hr0_1 : Kd.C k69 w A0_1 l0_1.length l0_1) (hc0_1 : l0_1.length ≤ c0_1) (h : ancepslaw09_DagCut.f k a0_0 l0_1 = some r) :
  Calls Try.prog 7 #[.agg #[.int .i64 a0_0, .slice A0_1 l0_1.length c0_1]] w fun e w' => e = .returned (.bool r) ∧ Below w.heap.size w w' := by
 have hu24 := Try.underlying24
 have HR0_1 := Aside0.mk hr0_1
 have HC0_1 := Aside0.mk hc0_1
 clear hr0_1 hc0_1
 have HB := Aside0.mk (Below.refl w.heap.size w)
 have H : ((ancepslaw09_awake.f k).bind fun t476 => (if t476 = true then ((ancepsref09_Few.f a0_0 l0_1).bind fun t477 => (ancepslaw09_DagCut.j0 k (!t477) a0_0 l0_1)) else (ancepslaw09_DagCut.j0 k true a0_0 l0_1))) = some r := h
 clear h
 have HC2 := Aside0.mk H
 clear H
 go_enter Try.func7, Try.ntmps7
 go_upto_region 1 with (first | ((with_reducible refine gate_dst (N := 1) rfl ?_); refine box_event ?hg (N := 1) ?hd (cs := #[.int .i64 a0_0, .slice A0_1 l0_1.length c0_1]) (t := 24) ?hr ?_; (case hd => rfl); (case hg => rfl); (case hr => first | (go_simp; done) | (go_simp; rfl)); intro gb475 hg w3 hbox hb; have n0_ := Aside0.mk (below_step zB hb); have n1_ := Aside0.mk (hbox); have n2_ := Aside0.mk ((by rw [hg]; exact (below_size zB) : w.heap.size ≤ gb475)); have n3_ := Aside0.mk ((by rw [hg]; exact (below_size zB) : w.heap.size ≤ gb475)); clear HB; have HB := n0_; have BK475 := n1_; have GW475 := n2_; have GE475 := n3_; clear n0_ n1_ n2_ n3_; clear hb hbox hg))
 (try simp only [Act.put, List.setIfInBounds_toArray, List.set_cons_zero, List.set_cons_succ])
 go_cut [15] (fun v15 wc => ∃ (kq : Nat) (x15_1 : Bool), v15 = .bool x15_1 ∧ Aside0 (ancepslaw09_DagCut.j0 kq x15_1 a0_0 l0_1 = some r) ∧ Aside0 (kq ≤ k) ∧ Aside0 (wc.heap[gb475]? = some (.cells #[.int .i64 a0_0, (.slice A0_1 l0_1.length c0_1)] 24 (0, 0))) ∧ Aside0 (Below w.heap.size w wc))
 case first =>
  have H := HC2.out
  clear HC2
  replace H := Option.bind_eq_some_iff.mp H
  obtain ⟨t476, A40, H⟩ := H
  replace H : (if t476 = true then ((ancepsref09_Few.f a0_0 l0_1).bind fun t477 => (ancepslaw09_DagCut.j0 k (!t477) a0_0 l0_1)) else (ancepslaw09_DagCut.j0 k true a0_0 l0_1)) = some r := H
  have A4 := Aside0.mk A40
  clear A40
  by_cases c5 : t476 = true
  ·subst c5
   have H1 : ((ancepsref09_Few.f a0_0 l0_1).bind fun t477 => (ancepslaw09_DagCut.j0 k (!t477) a0_0 l0_1)) = some r := by rw [if_pos rfl] at H; exact H
   clear H
   have H := H1
   clear H1
   replace H := Option.bind_eq_some_iff.mp H
   obtain ⟨t477, A60, H⟩ := H
   replace H : (ancepslaw09_DagCut.j0 k (!t477) a0_0 l0_1) = some r := H
   have A6 := Aside0.mk A60
   clear A60
   have H' := Aside0.mk H
   clear H
   go_wp2_with (first | ((with_reducible refine gate_callee (f := 13) rfl ?_); refine goesL_ (some 9) rfl rfl Try.func13 zK rfl #[] rfl zM ?_; (with_reducible refine (ancepslaw09_awake.calls k  true _ A4.out).mono ?_); rintro e w7 ⟨rfl, hb⟩; refine ⟨_, rfl, ?_⟩; have n0_ := Aside0.mk (blk_below (g := gb475) (o := .cells #[.int .i64 a0_0, .slice A0_1 l0_1.length c0_1] 24 (0, 0)) (zk BK475) hb); have n1_ := Aside0.mk (below_step zB hb); clear BK475; clear HB; have BK475 := n0_; have HB := n1_; clear n0_ n1_; (try clear hb); (try clear hb2); (try clear hk); (try clear hi); have hcz8_0 : w7.cell? ⟨gb475, 0, none⟩ = some (.int .i64 a0_0) := (blk_cell BK475.out 0).trans rfl; have hcz8_1 : w7.cell? ⟨gb475, 1, none⟩ = some (.slice A0_1 l0_1.length c0_1) := (blk_cell BK475.out 1).trans rfl; have hfz8_0 := blk_frozen BK475.out 0; have hfz8_1 := blk_frozen BK475.out 1) | (go_at_call 14; (with_reducible refine (ancepsref09_Few.calls a0_0 _ _ l0_1 t477 _ ?side1 ?side2 A6.out).mono ?_); (case side1 => repeat (first | exact (Kd.C_below HR0_1.out HB.out) | (with_reducible refine Kd.C_alloc ?_ _) | (with_reducible refine Kd.C_drewN ?_ _) | (with_reducible refine Kd.C_drew ?_))); (case side2 => exact HC0_1.out); rintro e w9 ⟨rfl, hb⟩; have n0_ := Aside0.mk (blk_below (g := gb475) (o := .cells #[.int .i64 a0_0, .slice A0_1 l0_1.length c0_1] 24 (0, 0)) (zk BK475) hb); have n1_ := Aside0.mk (below_step zB hb); clear BK475; clear HB; have BK475 := n0_; have HB := n1_; clear n0_ n1_; (try clear hb); (try clear hb2); (try clear hk); (try clear hi)))
   go_meet
   case rel => exact ⟨_, (!t477), zT, H', ⟨by first | omega | exact Nat.le_refl _⟩, ⟨by (with_reducible repeat (first | refine blk_drewN ?_ _ | refine blk_drew ?_ | refine blk_alloc ?_ _)); exact BK475.out⟩, ⟨by repeat (first | (with_reducible first | exact HB.out | apply below_alloc | apply pw_below_drewN | apply below_drew1 | refine below_set ?_ GE475.out) | exact HB.out)⟩⟩
  ·replace c5 := Bool.eq_false_iff.mpr c5
   subst c5
   have H1 : (ancepslaw09_DagCut.j0 k true a0_0 l0_1) = some r := by rw [if_neg (show ¬ (false = true) by decide)] at H; exact H
   clear H
   have H := H1
   clear H1
   have H' := Aside0.mk H
   clear H
   go_wp2_with (first | ((with_reducible refine gate_callee (f := 13) rfl ?_); refine goesL_ (some 9) rfl rfl Try.func13 zK rfl #[] rfl zM ?_; (with_reducible refine (ancepslaw09_awake.calls k  false _ A4.out).mono ?_); rintro e w10 ⟨rfl, hb⟩; refine ⟨_, rfl, ?_⟩; have n0_ := Aside0.mk (blk_below (g := gb475) (o := .cells #[.int .i64 a0_0, .slice A0_1 l0_1.length c0_1] 24 (0, 0)) (zk BK475) hb); have n1_ := Aside0.mk (below_step zB hb); clear BK475; clear HB; have BK475 := n0_; have HB := n1_; clear n0_ n1_; (try clear hb); (try clear hb2); (try clear hk); (try clear hi)))
   go_meet
   case rel => exact ⟨_, (true), zT, H', ⟨by first | omega | exact Nat.le_refl _⟩, ⟨by (with_reducible repeat (first | refine blk_drewN ?_ _ | refine blk_drew ?_ | refine blk_alloc ?_ _)); exact BK475.out⟩, ⟨by repeat (first | (with_reducible first | exact HB.out | apply below_alloc | apply pw_below_drewN | apply below_drew1 | refine below_set ?_ GE475.out) | exact HB.out)⟩⟩
 case rest =>
  clear HC2
  try clear c1
  try clear p2
  try clear c5
  try clear c7
  try clear hcz8_0
  try clear hcz8_1
  try clear hfz8_0
  try clear hfz8_1
  obtain ⟨kq, x15_1, rfl, HA, HJ1, BK475, HB⟩ := hcut
  cases kq with
  | zero => exact absurd HA.out (by simp [ancepslaw09_DagCut.j0])
  | succ kj1 =>
   have H := HA.out
   clear HA
   simp only [ancepslaw09_DagCut.j0] at H
   by_cases c11 : x15_1 = true
   ·subst c11
    have H1 : ((ancepslaw09_awake.f kj1).bind fun t478 => (some t478)) = some r := by rw [if_pos rfl] at H; exact H
    clear H
    have H := H1
    clear H1
    replace H := Option.bind_eq_some_iff.mp H
    obtain ⟨t478, A120, H⟩ := H
    replace H : (some t478) = some r := H
    have A12 := Aside0.mk A120
    clear A120
    obtain rfl := Option.some.inj H
    go_wp2_with (first | ((with_reducible refine gate_callee (f := 13) rfl ?_); refine goesL_ (some 16) rfl rfl Try.func13 zK rfl #[] rfl zM ?_; (with_reducible refine (ancepslaw09_awake.calls kj1  t478 _ A12.out).mono ?_); rintro e w13 ⟨rfl, hb⟩; refine ⟨_, rfl, ?_⟩; have n0_ := Aside0.mk (blk_below (g := gb475) (o := .cells #[.int .i64 a0_0, .slice A0_1 l0_1.length c0_1] 24 (0, 0)) (zk BK475) hb); have n1_ := Aside0.mk (below_step zB hb); clear BK475; clear HB; have BK475 := n0_; have HB := n1_; clear n0_ n1_; (try clear hb); (try clear hb2); (try clear hk); (try clear hi)))
    go_ret
    exact ⟨by first | rfl | (simp [errW_none, errW_some] <;> rfl) | (simp [*, errW_none, errW_some] <;> rfl), by repeat (first | (with_reducible first | exact HB.out | apply below_alloc | apply pw_below_drewN | apply below_drew1 | refine below_set ?_ GE475.out) | exact HB.out)⟩
   ·replace c11 := Bool.eq_false_iff.mpr c11
    subst c11
    have H1 : ((dag_Cut.f kj1 a0_0 l0_1).bind fun bt479 => ((ancepsref09_Cut.f kj1 a0_0 l0_1).bind fun bt483 => (if bt479.2 = bt483.2 then ((slices_Equal_int_int.f kj1 bt479.1 bt483.1).bind fun t487 => (ancepslaw09_DagCut.j1 kj1 bt479.1 bt479.2 (!t487) a0_0 l0_1)) else (ancepslaw09_DagCut.j1 kj1 bt479.1 bt479.2 true a0_0 l0_1)))) = some r := by rw [if_neg (show ¬ (false = true) by decide)] at H; exact H
    clear H
    have H := H1
    clear H1
    replace H := Option.bind_eq_some_iff.mp H
    obtain ⟨⟨t479, t482⟩, A140, H⟩ := H
    replace H : ((ancepsref09_Cut.f kj1 a0_0 l0_1).bind fun bt483 => (if t482 = bt483.2 then ((slices_Equal_int_int.f kj1 t479 bt483.1).bind fun t487 => (ancepslaw09_DagCut.j1 kj1 t479 t482 (!t487) a0_0 l0_1)) else (ancepslaw09_DagCut.j1 kj1 t479 t482 true a0_0 l0_1))) = some r := H
    have A14 := Aside0.mk A140
    clear A140
    replace H := Option.bind_eq_some_iff.mp H
    obtain ⟨⟨t483, t486⟩, A150, H⟩ := H
    replace H : (if t482 = t486 then ((slices_Equal_int_int.f kj1 t479 t483).bind fun t487 => (ancepslaw09_DagCut.j1 kj1 t479 t482 (!t487) a0_0 l0_1)) else (ancepslaw09_DagCut.j1 kj1 t479 t482 true a0_0 l0_1)) = some r := H
    have A15 := Aside0.mk A150
    clear A150
    have HC16 := Aside0.mk H
    clear H
    have hcz17_0 : wc.cell? ⟨gb475, 0, none⟩ = some (.int .i64 a0_0) := (blk_cell BK475.out 0).trans rfl
    have hcz17_1 : wc.cell? ⟨gb475, 1, none⟩ = some (.slice A0_1 l0_1.length c0_1) := (blk_cell BK475.out 1).trans rfl
    have hfz17_0 := blk_frozen BK475.out 0
    have hfz17_1 := blk_frozen BK475.out 1
    go_upto_region 5 with (first | ((with_reducible refine gate_callee (f := 30) rfl ?_); refine goesL_ (some 19) rfl rfl Try.func30 zK rfl #[.agg #[.int .i64 a0_0, .slice A0_1 l0_1.length c0_1]] rfl zM ?_; (with_reducible refine (dag_Cut.calls kj1 a0_0 _ _ l0_1 t479 t482 _ ?side1 ?side2 A14.out).mono ?_); (case side1 => repeat (first | exact (Kd.C_below HR0_1.out HB.out) | (with_reducible refine Kd.C_alloc ?_ _) | (with_reducible refine Kd.C_drewN ?_ _) | (with_reducible refine Kd.C_drew ?_))); (case side2 => exact HC0_1.out); rintro e w18 ⟨v480, rfl, ho0, hb⟩; refine ⟨_, rfl, ?_⟩; have n0_ := Aside0.mk (Kd.R_lower ho0 (below_size zB)); have n1_ := Aside0.mk (blk_below (g := gb475) (o := .cells #[.int .i64 a0_0, .slice A0_1 l0_1.length c0_1] 24 (0, 0)) (zk BK475) hb); have n2_ := Aside0.mk (below_step zB hb); clear BK475; clear HB; have HO481 := n0_; have BK475 := n1_; have HB := n2_; clear n0_ n1_ n2_; (try clear hb); (try clear hb2); (try clear hk); (try clear hi); (try clear ho0); have hcz19_0 : w18.cell? ⟨gb475, 0, none⟩ = some (.int .i64 a0_0) := (blk_cell BK475.out 0).trans rfl; have hcz19_1 : w18.cell? ⟨gb475, 1, none⟩ = some (.slice A0_1 l0_1.length c0_1) := (blk_cell BK475.out 1).trans rfl; have hfz19_0 := blk_frozen BK475.out 0; have hfz19_1 := blk_frozen BK475.out 1) | ((with_reducible refine gate_callee (f := 31) rfl ?_); refine goesL_ (some 24) rfl rfl Try.func31 zK rfl #[.agg #[.int .i64 a0_0, .slice A0_1 l0_1.length c0_1]] rfl zM ?_; (with_reducible refine (ancepsref09_Cut.calls kj1 a0_0 _ _ l0_1 t483 t486 _ ?side1 ?side2 A15.out).mono ?_); (case side1 => repeat (first | exact (Kd.C_below HR0_1.out HB.out) | (with_reducible refine Kd.C_alloc ?_ _) | (with_reducible refine Kd.C_drewN ?_ _) | (with_reducible refine Kd.C_drew ?_))); (case side2 => exact HC0_1.out); rintro e w20 ⟨v484, rfl, ho0, hb⟩; refine ⟨_, rfl, ?_⟩; have n0_ := Aside0.mk (Kd.R_elder' (zR HO481) (Kd.R_base ho0) hb); have n1_ := Aside0.mk (Kd.R_lower (Kd.R_new' ho0 (Kd.R_lt (zR HO481))) (below_size zB)); have n2_ := Aside0.mk (blk_below (g := gb475) (o := .cells #[.int .i64 a0_0, .slice A0_1 l0_1.length c0_1] 24 (0, 0)) (zk BK475) hb); have n3_ := Aside0.mk (below_step zB hb); clear HO481; clear BK475; clear HB; have HO481 := n0_; have HO485 := n1_; have BK475 := n2_; have HB := n3_; clear n0_ n1_ n2_ n3_; (try clear hb); (try clear hb2); (try clear hk); (try clear hi); (try clear ho0)))
    (try simp only [Act.put, List.setIfInBounds_toArray, List.set_cons_zero, List.set_cons_succ])
    go_cut [35] (fun v35 wc => ∃ (kq : Nat) (x35_15 : Bool), v35 = .bool x35_15 ∧ Aside0 (ancepslaw09_DagCut.j1 kq t479 t482 x35_15 a0_0 l0_1 = some r) ∧ Aside0 (kq ≤ kj1) ∧ Aside0 (Kd.R (Kd.int .i64) 3 wc w.heap.size (fun _ => True) v480 t479) ∧ Aside0 (wc.heap[gb475]? = some (.cells #[.int .i64 a0_0, (.slice A0_1 l0_1.length c0_1)] 24 (0, 0))) ∧ Aside0 (Below w.heap.size w wc))
    case first =>
     have H := HC16.out
     clear HC16
     by_cases c21 : t482 = t486
     ·rw [if_pos c21] at H
      have c21b0 : (t482 == t486) = true := beq_iff_eq.mpr c21
      have c21b1 : (t482 != t486) = false := bne_eq_false_iff_eq.mpr c21
      clear c21
      (first | rw [c21b0] | (simp only [i64_w, i32_w]; rw [c21b0]) | skip)
      (try rw [c21b1])
      replace H := Option.bind_eq_some_iff.mp H
      obtain ⟨t487, A220, H⟩ := H
      replace H : (ancepslaw09_DagCut.j1 kj1 t479 t482 (!t487) a0_0 l0_1) = some r := H
      have A22 := Aside0.mk A220
      clear A220
      have H' := Aside0.mk H
      clear H
      obtain ⟨Ao23, co23, eo23⟩ := Kd.R_slice HO481.out
      subst eo23
      obtain ⟨Ao24, co24, eo24⟩ := Kd.R_slice HO485.out
      subst eo24
      go_wp2_with (first | (go_at_call 32; (with_reducible refine (slices_Equal_int_int.calls kj1 _ _ t479 _ _ t483 t487 _ ?side1 ?side2 ?side3 ?side4 A22.out).mono ?_); (case side1 => repeat (first | exact (Kd.R_reads' HO481.out).2.2 | (with_reducible refine Kd.C_alloc ?_ _) | (with_reducible refine Kd.C_drewN ?_ _) | (with_reducible refine Kd.C_drew ?_))); (case side2 => exact (Kd.R_reads' HO481.out).2.1); (case side3 => repeat (first | exact (Kd.R_reads' HO485.out).2.2 | (with_reducible refine Kd.C_alloc ?_ _) | (with_reducible refine Kd.C_drewN ?_ _) | (with_reducible refine Kd.C_drew ?_))); (case side4 => exact (Kd.R_reads' HO485.out).2.1); rintro e w' ⟨rfl, ⟨nd, rfl⟩⟩))
      go_meet
      case rel => exact ⟨_, (!t487), zT, H', ⟨by have := HJ1.out; first | omega | exact Nat.le_refl _⟩, ⟨by (with_reducible repeat (first | apply Kd.R_alloc | apply Kd.R_drewN | apply Kd.R_drew)); exact Kd.R_mono HO481.out (fun _ hk => trivial)⟩, ⟨by (with_reducible repeat (first | refine blk_drewN ?_ _ | refine blk_drew ?_ | refine blk_alloc ?_ _)); exact BK475.out⟩, ⟨by repeat (first | (with_reducible first | exact HB.out | apply below_alloc | apply pw_below_drewN | apply below_drew1 | refine below_set ?_ GE475.out) | exact HB.out)⟩⟩
     ·rw [if_neg c21] at H
      have c21b0 : (t482 == t486) = false := beq_eq_false_iff_ne.mpr c21
      have c21b1 : (t482 != t486) = true := bne_iff_ne.mpr c21
      (first | rw [c21b0] | (simp only [i64_w, i32_w]; rw [c21b0]) | skip)
      (try rw [c21b1])
      have H' := Aside0.mk H
      clear H
      go_wp2
      go_meet
      case rel => exact ⟨_, (true), zT, H', ⟨by have := HJ1.out; first | omega | exact Nat.le_refl _⟩, ⟨by (with_reducible repeat (first | apply Kd.R_alloc | apply Kd.R_drewN | apply Kd.R_drew)); exact Kd.R_mono HO481.out (fun _ hk => trivial)⟩, ⟨by (with_reducible repeat (first | refine blk_drewN ?_ _ | refine blk_drew ?_ | refine blk_alloc ?_ _)); exact BK475.out⟩, ⟨by repeat (first | (with_reducible first | exact HB.out | apply below_alloc | apply pw_below_drewN | apply below_drew1 | refine below_set ?_ GE475.out) | exact HB.out)⟩⟩
    case rest =>
     clear HC16
     try clear c1
     try clear c2
     try clear p2
     try clear c3
     try clear c5
     try clear c7
     try clear c11
     try clear c13
     try clear c21
     try clear c21b0
     try clear c21b1
     try clear hcz17_0
     try clear hcz17_1
     try clear hcz19_0
     try clear hcz19_1
     try clear hcz8_0
     try clear hcz8_1
     try clear hfz17_0
     try clear hfz17_1
     try clear hfz19_0
     try clear hfz19_1
     try clear hfz8_0
     try clear hfz8_1
     try clear p2
     obtain ⟨kq, x35_15, rfl, HA, HJ15, HO_3, BK475, HB⟩ := hcut
     cases kq with
     | zero => exact absurd HA.out (by simp [ancepslaw09_DagCut.j1])
     | succ kj15 =>
      have H := HA.out
      clear HA
      simp only [ancepslaw09_DagCut.j1] at H
      by_cases c25 : x35_15 = true
      ·subst c25
       have H1 : (some false) = some r := by rw [if_pos rfl] at H; exact H
       clear H
       have H := H1
       clear H1
       obtain rfl := Option.some.inj H
       go_wp2
       go_ret
       exact ⟨by first | rfl | (simp [errW_none, errW_some] <;> rfl) | (simp [*, errW_none, errW_some] <;> rfl), by repeat (first | (with_reducible first | exact HB.out | apply below_alloc | apply pw_below_drewN | apply below_drew1 | refine below_set ?_ GE475.out) | exact HB.out)⟩
      ·replace c25 := Bool.eq_false_iff.mpr c25
       subst c25
       have H1 : ((ancepsref09_Count.f kj15 a0_0 l0_1).bind fun bt488 => (if bt488.2 = 0 then (if ((decide (bt488.1 > 0)) != (t482 == 11)) = true then (some false) else (if t482 = 0 then ((dag_CheckCut.f kj15 a0_0 l0_1 t479).bind fun t490 => (some t490)) else (some true))) else (if t482 = 0 then ((dag_CheckCut.f kj15 a0_0 l0_1 t479).bind fun t491 => (some t491)) else (some true)))) = some r := by rw [if_neg (show ¬ (false = true) by decide)] at H; exact H
       clear H
       have H := H1
       clear H1
       replace H := Option.bind_eq_some_iff.mp H
       obtain ⟨⟨t488, t489⟩, A260, H⟩ := H
       replace H : (if t489 = 0 then (if ((decide (t488 > 0)) != (t482 == 11)) = true then (some false) else (if t482 = 0 then ((dag_CheckCut.f kj15 a0_0 l0_1 t479).bind fun t490 => (some t490)) else (some true))) else (if t482 = 0 then ((dag_CheckCut.f kj15 a0_0 l0_1 t479).bind fun t491 => (some t491)) else (some true))) = some r := H
       have A26 := Aside0.mk A260
       clear A260
       have HC27 := Aside0.mk H
       clear H
       have hcz28_0 : wc.cell? ⟨gb475, 0, none⟩ = some (.int .i64 a0_0) := (blk_cell BK475.out 0).trans rfl
       have hcz28_1 : wc.cell? ⟨gb475, 1, none⟩ = some (.slice A0_1 l0_1.length c0_1) := (blk_cell BK475.out 1).trans rfl
       have hfz28_0 := blk_frozen BK475.out 0
       have hfz28_1 := blk_frozen BK475.out 1
       go_upto_region 8 with (first | ((with_reducible refine gate_callee (f := 20) rfl ?_); refine goesL_ (some 38) rfl rfl Try.func20 zK rfl #[.agg #[.int .i64 a0_0, .slice A0_1 l0_1.length c0_1]] rfl zM ?_; (with_reducible refine (ancepsref09_Count.calls kj15 a0_0 _ _ l0_1 t488 t489 _ ?side1 ?side2 A26.out).mono ?_); (case side1 => repeat (first | exact (Kd.C_below HR0_1.out HB.out) | (with_reducible refine Kd.C_alloc ?_ _) | (with_reducible refine Kd.C_drewN ?_ _) | (with_reducible refine Kd.C_drew ?_))); (case side2 => exact HC0_1.out); rintro e w29 ⟨rfl, hb⟩; refine ⟨_, rfl, ?_⟩; have n0_ := Aside0.mk (Kd.R_below (zR HO_3) hb); have n1_ := Aside0.mk (blk_below (g := gb475) (o := .cells #[.int .i64 a0_0, .slice A0_1 l0_1.length c0_1] 24 (0, 0)) (zk BK475) hb); have n2_ := Aside0.mk (below_step zB hb); clear HO_3; clear BK475; clear HB; have HO_3 := n0_; have BK475 := n1_; have HB := n2_; clear n0_ n1_ n2_; (try clear hb); (try clear hb2); (try clear hk); (try clear hi)))
       (try simp only [Act.put, List.setIfInBounds_toArray, List.set_cons_zero, List.set_cons_succ])
       have H := HC27.out
       clear HC27
       by_cases c30 : t489 = 0
       ·rw [if_pos c30] at H
        have c30b0 : (t489 == 0) = true := beq_iff_eq.mpr c30
        have c30b1 : (t489 != 0) = false := bne_eq_false_iff_eq.mpr c30
        clear c30
        (first | rw [c30b0] | (simp only [i64_w, i32_w]; rw [c30b0]) | skip)
        (try rw [c30b1])
        by_cases c31 : ((decide (t488 > 0)) != (t482 == 11)) = true
        ·rw [if_pos c31] at H
         have c31b0 : ((decide (t488 > 0)) != (t482 == 11)) = true := c31
         (try (have c31b1 : decide ((decide (t488 > 0)) = (t482 == 11)) = false := by simpa using c31))
         (try (have c31b2 : ((decide (t488 > 0)) == (t482 == 11)) = false := by simpa using c31))
         (try (have c31b3 : ¬ ((decide (t488 > 0)) = (t482 == 11)) := by simpa using c31))
         clear c31
         obtain rfl := Option.some.inj H
         go_wp2
         go_ret
         exact ⟨by first | rfl | (simp [errW_none, errW_some] <;> rfl) | (simp [*, errW_none, errW_some] <;> rfl), by repeat (first | (with_reducible first | exact HB.out | apply below_alloc | apply pw_below_drewN | apply below_drew1 | refine below_set ?_ GE475.out) | exact HB.out)⟩
        ·rw [if_neg c31] at H
         have c31b0 : ((decide (t488 > 0)) != (t482 == 11)) = false := by simpa using c31
         (try (have c31b1 : decide ((decide (t488 > 0)) = (t482 == 11)) = true := by simpa using c31))
         (try (have c31b2 : ((decide (t488 > 0)) == (t482 == 11)) = true := by simpa using c31))
         clear c31
         by_cases c32 : t482 = 0
         ·rw [if_pos c32] at H
          have c32b0 : (t482 == 0) = true := beq_iff_eq.mpr c32
          have c32b1 : (t482 != 0) = false := bne_eq_false_iff_eq.mpr c32
          clear c32
          replace H := Option.bind_eq_some_iff.mp H
          obtain ⟨t490, A330, H⟩ := H
          replace H : (some t490) = some r := H
          have A33 := Aside0.mk A330
          clear A330
          obtain rfl := Option.some.inj H
          have hcz34_0 : w29.cell? ⟨gb475, 0, none⟩ = some (.int .i64 a0_0) := (blk_cell BK475.out 0).trans rfl
          have hcz34_1 : w29.cell? ⟨gb475, 1, none⟩ = some (.slice A0_1 l0_1.length c0_1) := (blk_cell BK475.out 1).trans rfl
          have hfz34_0 := blk_frozen BK475.out 0
          have hfz34_1 := blk_frozen BK475.out 1
          obtain ⟨Ao35, co35, eo35⟩ := Kd.R_slice HO_3.out
          subst eo35
          go_wp2_with (first | (go_at_call 33; (with_reducible refine (dag_CheckCut.calls kj15 a0_0 _ _ l0_1 _ _ t479 t490 _ ?side1 ?side2 ?side3 ?side4 A33.out).mono ?_); (case side1 => repeat (first | exact (Kd.C_below HR0_1.out HB.out) | (with_reducible refine Kd.C_alloc ?_ _) | (with_reducible refine Kd.C_drewN ?_ _) | (with_reducible refine Kd.C_drew ?_))); (case side2 => exact HC0_1.out); (case side3 => repeat (first | exact (Kd.R_reads' HO_3.out).2.2 | (with_reducible refine Kd.C_alloc ?_ _) | (with_reducible refine Kd.C_drewN ?_ _) | (with_reducible refine Kd.C_drew ?_))); (case side4 => exact (Kd.R_reads' HO_3.out).2.1); rintro e w36 ⟨rfl, hb⟩; have n0_ := Aside0.mk (Kd.R_below (zR HO_3) hb); have n1_ := Aside0.mk (blk_below (g := gb475) (o := .cells #[.int .i64 a0_0, .slice A0_1 l0_1.length c0_1] 24 (0, 0)) (zk BK475) hb); have n2_ := Aside0.mk (below_step zB hb); clear HO_3; clear BK475; clear HB; have HO_3 := n0_; have BK475 := n1_; have HB := n2_; clear n0_ n1_ n2_; (try clear hb); (try clear hb2); (try clear hk); (try clear hi)))
          go_ret
          exact ⟨by first | rfl | (simp [errW_none, errW_some] <;> rfl) | (simp [*, errW_none, errW_some] <;> rfl), by repeat (first | (with_reducible first | exact HB.out | apply below_alloc | apply pw_below_drewN | apply below_drew1 | refine below_set ?_ GE475.out) | exact HB.out)⟩
         ·rw [if_neg c32] at H
          have c32b0 : (t482 == 0) = false := beq_eq_false_iff_ne.mpr c32
          have c32b1 : (t482 != 0) = true := bne_iff_ne.mpr c32
          obtain rfl := Option.some.inj H
          go_wp2
          go_ret
          exact ⟨by first | rfl | (simp [errW_none, errW_some] <;> rfl) | (simp [*, errW_none, errW_some] <;> rfl), by repeat (first | (with_reducible first | exact HB.out | apply below_alloc | apply pw_below_drewN | apply below_drew1 | refine below_set ?_ GE475.out) | exact HB.out)⟩
       ·rw [if_neg c30] at H
        have c30b0 : (t489 == 0) = false := beq_eq_false_iff_ne.mpr c30
        have c30b1 : (t489 != 0) = true := bne_iff_ne.mpr c30
        (first | rw [c30b0] | (simp only [i64_w, i32_w]; rw [c30b0]) | skip)
        (try rw [c30b1])
        by_cases c37 : t482 = 0
        ·rw [if_pos c37] at H
         have c37b0 : (t482 == 0) = true := beq_iff_eq.mpr c37
         have c37b1 : (t482 != 0) = false := bne_eq_false_iff_eq.mpr c37
         clear c37
         replace H := Option.bind_eq_some_iff.mp H
         obtain ⟨t491, A380, H⟩ := H
         replace H : (some t491) = some r := H
         have A38 := Aside0.mk A380
         clear A380
         obtain rfl := Option.some.inj H
         have hcz39_0 : w29.cell? ⟨gb475, 0, none⟩ = some (.int .i64 a0_0) := (blk_cell BK475.out 0).trans rfl
         have hcz39_1 : w29.cell? ⟨gb475, 1, none⟩ = some (.slice A0_1 l0_1.length c0_1) := (blk_cell BK475.out 1).trans rfl
         have hfz39_0 := blk_frozen BK475.out 0
         have hfz39_1 := blk_frozen BK475.out 1
         obtain ⟨Ao40, co40, eo40⟩ := Kd.R_slice HO_3.out
         subst eo40
         go_wp2_with (first | (go_at_call 33; (with_reducible refine (dag_CheckCut.calls kj15 a0_0 _ _ l0_1 _ _ t479 t491 _ ?side1 ?side2 ?side3 ?side4 A38.out).mono ?_); (case side1 => repeat (first | exact (Kd.C_below HR0_1.out HB.out) | (with_reducible refine Kd.C_alloc ?_ _) | (with_reducible refine Kd.C_drewN ?_ _) | (with_reducible refine Kd.C_drew ?_))); (case side2 => exact HC0_1.out); (case side3 => repeat (first | exact (Kd.R_reads' HO_3.out).2.2 | (with_reducible refine Kd.C_alloc ?_ _) | (with_reducible refine Kd.C_drewN ?_ _) | (with_reducible refine Kd.C_drew ?_))); (case side4 => exact (Kd.R_reads' HO_3.out).2.1); rintro e w41 ⟨rfl, hb⟩; have n0_ := Aside0.mk (Kd.R_below (zR HO_3) hb); have n1_ := Aside0.mk (blk_below (g := gb475) (o := .cells #[.int .i64 a0_0, .slice A0_1 l0_1.length c0_1] 24 (0, 0)) (zk BK475) hb); have n2_ := Aside0.mk (below_step zB hb); clear HO_3; clear BK475; clear HB; have HO_3 := n0_; have BK475 := n1_; have HB := n2_; clear n0_ n1_ n2_; (try clear hb); (try clear hb2); (try clear hk); (try clear hi)))
         go_ret
         exact ⟨by first | rfl | (simp [errW_none, errW_some] <;> rfl) | (simp [*, errW_none, errW_some] <;> rfl), by repeat (first | (with_reducible first | exact HB.out | apply below_alloc | apply pw_below_drewN | apply below_drew1 | refine below_set ?_ GE475.out) | exact HB.out)⟩
        ·rw [if_neg c37] at H
         have c37b0 : (t482 == 0) = false := beq_eq_false_iff_ne.mpr c37
         have c37b1 : (t482 != 0) = true := bne_iff_ne.mpr c37
         obtain rfl := Option.some.inj H
         go_wp2
         go_ret
         exact ⟨by first | rfl | (simp [errW_none, errW_some] <;> rfl) | (simp [*, errW_none, errW_some] <;> rfl), by repeat (first | (with_reducible first | exact HB.out | apply below_alloc | apply pw_below_drewN | apply below_drew1 | refine below_set ?_ GE475.out) | exact HB.out)⟩
end Go.Proofs.Ytanbffoilianhaa.E
