-- Written by wip/tools/myprint.py, a program of this session's.
import Derived.Test.YtanbffoilianhaaE0
import Derived.Test.YtanbffoilianhaaE6
import Derived.Test.YtanbffoilianhaaE8
import Derived.Test.YtanbffoilianhaaE12
import Derived.Test.YtanbffoilianhaaE20
import Derived.Test.YtanbffoilianhaaE21
namespace Go.Proofs.Ytanbffoilianhaa.E
open Go.RowKit Go.Proofs.YtanbffoilianhaaW.PrintWords Go.Proofs.YtanbffoilianhaaW.PrintLast Go.Proofs.YtanbffoilianhaaW.PrintMore
attribute [local go_sem] max2_int min2_int max_two min_two max_three min_three max_four min_four   -- for this text's walks alone
set_option linter.unusedVariables false
set_option linter.unusedSimpArgs false
/-! ### ancepslaw09_DagCheckCut: function 8 -/
def ancepslaw09_DagCheckCut.j0 : Nat → List Int → Bool → Int → List (S69) → Option (Bool)
 | 0, _, _, _, _ => none
 | k + 1, x1, x19, x512000, x512001 => if x19 = true then ((ancepslaw09_awake.f k).bind fun t514 => (some t514)) else ((dag_CheckCut.f k x512000 x512001 x1).bind fun t515 => ((ancepsref09_Count.f k x512000 x512001).bind fun bt516 => ((ancepsref09_CheckCut.f k x512000 x512001 x1).bind fun t518 => (if (t515 == t518) = true then (if t515 = true then (if bt516.2 = 0 then (some (bt516.1 == 0)) else (some false)) else (some true)) else (some false)))))
def ancepslaw09_DagCheckCut.f (k : Nat) (a0_0 : Int) (l0_1 : List (S69)) (l1 : List Int) : Option (Bool) := (ancepslaw09_awake.f k).bind fun t512 => (if t512 = true then ((ancepsref09_Few.f a0_0 l0_1).bind fun t513 => (if t513 = true then (ancepslaw09_DagCheckCut.j0 k l1 (decide ((l1.length : Int) > 60)) a0_0 l0_1) else (ancepslaw09_DagCheckCut.j0 k l1 true a0_0 l0_1))) else (ancepslaw09_DagCheckCut.j0 k l1 true a0_0 l0_1))
theorem ancepslaw09_DagCheckCut.mono_l : ∀ k, (∀ y0 y1 y2 y3, LeO (ancepslaw09_DagCheckCut.j0 k y0 y1 y2 y3) (ancepslaw09_DagCheckCut.j0 (k + 1) y0 y1 y2 y3))
 | 0 => fun _ _ _ _ r h => by simp [ancepslaw09_DagCheckCut.j0] at h
 | k + 1 => by
  have ih0 := ancepslaw09_DagCheckCut.mono_l k
  ·intro y0 y1 y2 y3
   unfold ancepslaw09_DagCheckCut.j0
   repeat' first
   | (with_reducible exact ih0 _ _ _ _)
   | (with_reducible exact ancepslaw09_awake.mono _)
   | (with_reducible exact ancepsref09_CheckCut.mono _ _ _ _)
   | (with_reducible exact ancepsref09_Count.mono _ _ _)
   | (with_reducible exact dag_CheckCut.mono _ _ _ _)
   | (with_reducible exact LeO.refl _)
   | (with_reducible exact LeO.none _)
   | (with_reducible refine LeO.ite ?_ ?_)
   | (with_reducible refine LeO.bind ?_ (fun _ => ?_))
   | exact ih0 _ _ _ _
   | exact ancepslaw09_awake.mono _
   | exact ancepsref09_CheckCut.mono _ _ _ _
   | exact ancepsref09_Count.mono _ _ _
   | exact dag_CheckCut.mono _ _ _ _
   | exact LeO.none _
   | refine LeO.ite ?_ ?_
   | refine LeO.bind ?_ (fun _ => ?_)
theorem ancepslaw09_DagCheckCut.mono : ∀ a0 a1 a2 k, LeO (ancepslaw09_DagCheckCut.f k a0 a1 a2) (ancepslaw09_DagCheckCut.f (k + 1) a0 a1 a2) := by
 intro a0 a1 a2 k
 have ih0 := ancepslaw09_DagCheckCut.mono_l k
 unfold ancepslaw09_DagCheckCut.f
 repeat' first
   | (with_reducible exact ih0 _ _ _ _)
   | (with_reducible exact ancepslaw09_awake.mono _)
   | (with_reducible exact ancepsref09_CheckCut.mono _ _ _ _)
   | (with_reducible exact ancepsref09_Count.mono _ _ _)
   | (with_reducible exact dag_CheckCut.mono _ _ _ _)
   | (with_reducible exact LeO.refl _)
   | (with_reducible exact LeO.none _)
   | (with_reducible refine LeO.ite ?_ ?_)
   | (with_reducible refine LeO.bind ?_ (fun _ => ?_))
   | exact ih0 _ _ _ _
   | exact ancepslaw09_awake.mono _
   | exact ancepsref09_CheckCut.mono _ _ _ _
   | exact ancepsref09_Count.mono _ _ _
   | exact dag_CheckCut.mono _ _ _ _
   | exact LeO.none _
   | refine LeO.ite ?_ ?_
   | refine LeO.bind ?_ (fun _ => ?_)
set_option maxHeartbeats 8000000 in
set_option maxRecDepth 100000 in
theorem ancepslaw09_DagCheckCut.calls (k : Nat) (a0_0 : Int) (A0_1 : Option Addr) (c0_1 : Nat) (l0_1 : List (S69)) (A1 : Option Addr) (c1 : Nat) (l1 : List Int) (r : Bool) (w : World) (hr0_1 : Kd.C k69 w A0_1 l0_1.length l0_1) (hc0_1 : l0_1.length ≤ c0_1) (hr1 : Kd.C (Kd.int .i64) w A1 l1.length l1) (hc1 : l1.length ≤ c1) (h : ancepslaw09_DagCheckCut.f k a0_0 l0_1 l1 = some r) :
  Calls Try.prog 8 #[.agg #[.int .i64 a0_0, .slice A0_1 l0_1.length c0_1], .slice A1 l1.length c1] w fun e w' => e = .returned (.bool r) ∧ Below w.heap.size w w' := by
 have hu24 := Try.underlying24
 have HR0_1 := Aside0.mk hr0_1
 have HC0_1 := Aside0.mk hc0_1
 clear hr0_1 hc0_1
 have HR1 := Aside0.mk hr1
 have HC1 := Aside0.mk hc1
 clear hr1 hc1
 have HB := Aside0.mk (Below.refl w.heap.size w)
 have H : ((ancepslaw09_awake.f k).bind fun t512 => (if t512 = true then ((ancepsref09_Few.f a0_0 l0_1).bind fun t513 => (if t513 = true then (ancepslaw09_DagCheckCut.j0 k l1 (decide ((l1.length : Int) > 60)) a0_0 l0_1) else (ancepslaw09_DagCheckCut.j0 k l1 true a0_0 l0_1))) else (ancepslaw09_DagCheckCut.j0 k l1 true a0_0 l0_1))) = some r := h
 clear h
 have HC3 := Aside0.mk H
 clear H
 go_enter Try.func8, Try.ntmps8
 go_upto_region 1 with (first | ((with_reducible refine gate_dst (N := 2) rfl ?_); (try (refine gate_guard (by rfl) ?_; dsimp only)); refine box_event ?hg (N := 2) ?hd (cs := #[.int .i64 a0_0, .slice A0_1 l0_1.length c0_1]) (t := 24) ?hr ?_; (case hd => rfl); (case hg => rfl); (case hr => first | (go_simp; done) | (go_simp; rfl)); intro gb511 hg w4 hbox hb; have n0_ := Aside0.mk (below_step zB hb); have n1_ := Aside0.mk (hbox); have n2_ := Aside0.mk ((by rw [hg]; exact (below_size zB) : w.heap.size ≤ gb511)); have n3_ := Aside0.mk ((by rw [hg]; exact (below_size zB) : w.heap.size ≤ gb511)); clear HB; have HB := n0_; have BK511 := n1_; have GW511 := n2_; have GE511 := n3_; clear n0_ n1_ n2_ n3_; clear hb hbox hg))
 (try simp only [Act.put, List.setIfInBounds_toArray, List.set_cons_zero, List.set_cons_succ])
 go_cut [19] (fun v19 wc => ∃ (kq : Nat) (x19_2 : Bool), v19 = .bool x19_2 ∧ Aside0 (ancepslaw09_DagCheckCut.j0 kq l1 x19_2 a0_0 l0_1 = some r) ∧ Aside0 (kq ≤ k) ∧ Aside0 (wc.heap[gb511]? = some (.cells #[.int .i64 a0_0, (.slice A0_1 l0_1.length c0_1)] 24 (0, 0))) ∧ Aside0 (Below w.heap.size w wc))
 case first =>
  have H := HC3.out
  clear HC3
  replace H := Option.bind_eq_some_iff.mp H
  obtain ⟨t512, A50, H⟩ := H
  replace H : (if t512 = true then ((ancepsref09_Few.f a0_0 l0_1).bind fun t513 => (if t513 = true then (ancepslaw09_DagCheckCut.j0 k l1 (decide ((l1.length : Int) > 60)) a0_0 l0_1) else (ancepslaw09_DagCheckCut.j0 k l1 true a0_0 l0_1))) else (ancepslaw09_DagCheckCut.j0 k l1 true a0_0 l0_1)) = some r := H
  have A5 := Aside0.mk A50
  clear A50
  by_cases c6 : t512 = true
  ·subst c6
   have H1 : ((ancepsref09_Few.f a0_0 l0_1).bind fun t513 => (if t513 = true then (ancepslaw09_DagCheckCut.j0 k l1 (decide ((l1.length : Int) > 60)) a0_0 l0_1) else (ancepslaw09_DagCheckCut.j0 k l1 true a0_0 l0_1))) = some r := by rw [if_pos rfl] at H; exact H
   clear H
   have H := H1
   clear H1
   replace H := Option.bind_eq_some_iff.mp H
   obtain ⟨t513, A70, H⟩ := H
   replace H : (if t513 = true then (ancepslaw09_DagCheckCut.j0 k l1 (decide ((l1.length : Int) > 60)) a0_0 l0_1) else (ancepslaw09_DagCheckCut.j0 k l1 true a0_0 l0_1)) = some r := H
   have A7 := Aside0.mk A70
   clear A70
   by_cases c8 : t513 = true
   ·subst c8
    have H1 : (ancepslaw09_DagCheckCut.j0 k l1 (decide ((l1.length : Int) > 60)) a0_0 l0_1) = some r := by rw [if_pos rfl] at H; exact H
    clear H
    have H := H1
    clear H1
    have H' := Aside0.mk H
    clear H
    go_wp2_with (first | ((with_reducible refine gate_callee (f := 13) rfl ?_); refine goesL_ (some 8) rfl rfl Try.func13 zK rfl #[] rfl zM ?_; (with_reducible refine (ancepslaw09_awake.calls k  true _ A5.out).mono ?_); rintro e w9 ⟨rfl, hb⟩; refine ⟨_, rfl, ?_⟩; have n0_ := Aside0.mk (blk_below (g := gb511) (o := .cells #[.int .i64 a0_0, .slice A0_1 l0_1.length c0_1] 24 (0, 0)) (zk BK511) hb); have n1_ := Aside0.mk (below_step zB hb); clear BK511; clear HB; have BK511 := n0_; have HB := n1_; clear n0_ n1_; (try clear hb); (try clear hb2); (try clear hk); (try clear hi); have hcz10_0 : w9.cell? ⟨gb511, 0, none⟩ = some (.int .i64 a0_0) := (blk_cell BK511.out 0).trans rfl; have hcz10_1 : w9.cell? ⟨gb511, 1, none⟩ = some (.slice A0_1 l0_1.length c0_1) := (blk_cell BK511.out 1).trans rfl; have hfz10_0 := blk_frozen BK511.out 0; have hfz10_1 := blk_frozen BK511.out 1) | (go_at_call 14; (with_reducible refine (ancepsref09_Few.calls a0_0 _ _ l0_1 true _ ?side1 ?side2 A7.out).mono ?_); (case side1 => repeat (first | exact (Kd.C_below HR0_1.out HB.out) | (with_reducible refine Kd.C_alloc ?_ _) | (with_reducible refine Kd.C_drewN ?_ _) | (with_reducible refine Kd.C_drew ?_))); (case side2 => exact HC0_1.out); rintro e w11 ⟨rfl, hb⟩; have n0_ := Aside0.mk (blk_below (g := gb511) (o := .cells #[.int .i64 a0_0, .slice A0_1 l0_1.length c0_1] 24 (0, 0)) (zk BK511) hb); have n1_ := Aside0.mk (below_step zB hb); clear BK511; clear HB; have BK511 := n0_; have HB := n1_; clear n0_ n1_; (try clear hb); (try clear hb2); (try clear hk); (try clear hi)))
    go_meet
    case rel => exact ⟨_, (decide ((l1.length : Int) > 60)), zT, H', ⟨by first | omega | exact Nat.le_refl _⟩, ⟨by (with_reducible repeat (first | refine blk_drewN ?_ _ | refine blk_drew ?_ | refine blk_alloc ?_ _)); exact BK511.out⟩, ⟨by repeat (first | (with_reducible first | exact HB.out | apply below_alloc | apply pw_below_drewN | apply below_drew1 | refine below_set ?_ GE511.out) | exact HB.out)⟩⟩
   ·replace c8 := Bool.eq_false_iff.mpr c8
    subst c8
    have H1 : (ancepslaw09_DagCheckCut.j0 k l1 true a0_0 l0_1) = some r := by rw [if_neg (show ¬ (false = true) by decide)] at H; exact H
    clear H
    have H := H1
    clear H1
    have H' := Aside0.mk H
    clear H
    go_wp2_with (first | ((with_reducible refine gate_callee (f := 13) rfl ?_); refine goesL_ (some 8) rfl rfl Try.func13 zK rfl #[] rfl zM ?_; (with_reducible refine (ancepslaw09_awake.calls k  true _ A5.out).mono ?_); rintro e w12 ⟨rfl, hb⟩; refine ⟨_, rfl, ?_⟩; have n0_ := Aside0.mk (blk_below (g := gb511) (o := .cells #[.int .i64 a0_0, .slice A0_1 l0_1.length c0_1] 24 (0, 0)) (zk BK511) hb); have n1_ := Aside0.mk (below_step zB hb); clear BK511; clear HB; have BK511 := n0_; have HB := n1_; clear n0_ n1_; (try clear hb); (try clear hb2); (try clear hk); (try clear hi); have hcz13_0 : w12.cell? ⟨gb511, 0, none⟩ = some (.int .i64 a0_0) := (blk_cell BK511.out 0).trans rfl; have hcz13_1 : w12.cell? ⟨gb511, 1, none⟩ = some (.slice A0_1 l0_1.length c0_1) := (blk_cell BK511.out 1).trans rfl; have hfz13_0 := blk_frozen BK511.out 0; have hfz13_1 := blk_frozen BK511.out 1) | (go_at_call 14; (with_reducible refine (ancepsref09_Few.calls a0_0 _ _ l0_1 false _ ?side1 ?side2 A7.out).mono ?_); (case side1 => repeat (first | exact (Kd.C_below HR0_1.out HB.out) | (with_reducible refine Kd.C_alloc ?_ _) | (with_reducible refine Kd.C_drewN ?_ _) | (with_reducible refine Kd.C_drew ?_))); (case side2 => exact HC0_1.out); rintro e w14 ⟨rfl, hb⟩; have n0_ := Aside0.mk (blk_below (g := gb511) (o := .cells #[.int .i64 a0_0, .slice A0_1 l0_1.length c0_1] 24 (0, 0)) (zk BK511) hb); have n1_ := Aside0.mk (below_step zB hb); clear BK511; clear HB; have BK511 := n0_; have HB := n1_; clear n0_ n1_; (try clear hb); (try clear hb2); (try clear hk); (try clear hi)))
    go_meet
    case rel => exact ⟨_, (true), zT, H', ⟨by first | omega | exact Nat.le_refl _⟩, ⟨by (with_reducible repeat (first | refine blk_drewN ?_ _ | refine blk_drew ?_ | refine blk_alloc ?_ _)); exact BK511.out⟩, ⟨by repeat (first | (with_reducible first | exact HB.out | apply below_alloc | apply pw_below_drewN | apply below_drew1 | refine below_set ?_ GE511.out) | exact HB.out)⟩⟩
  ·replace c6 := Bool.eq_false_iff.mpr c6
   subst c6
   have H1 : (ancepslaw09_DagCheckCut.j0 k l1 true a0_0 l0_1) = some r := by rw [if_neg (show ¬ (false = true) by decide)] at H; exact H
   clear H
   have H := H1
   clear H1
   have H' := Aside0.mk H
   clear H
   go_wp2_with (first | ((with_reducible refine gate_callee (f := 13) rfl ?_); refine goesL_ (some 8) rfl rfl Try.func13 zK rfl #[] rfl zM ?_; (with_reducible refine (ancepslaw09_awake.calls k  false _ A5.out).mono ?_); rintro e w15 ⟨rfl, hb⟩; refine ⟨_, rfl, ?_⟩; have n0_ := Aside0.mk (blk_below (g := gb511) (o := .cells #[.int .i64 a0_0, .slice A0_1 l0_1.length c0_1] 24 (0, 0)) (zk BK511) hb); have n1_ := Aside0.mk (below_step zB hb); clear BK511; clear HB; have BK511 := n0_; have HB := n1_; clear n0_ n1_; (try clear hb); (try clear hb2); (try clear hk); (try clear hi)))
   go_meet
   case rel => exact ⟨_, (true), zT, H', ⟨by first | omega | exact Nat.le_refl _⟩, ⟨by (with_reducible repeat (first | refine blk_drewN ?_ _ | refine blk_drew ?_ | refine blk_alloc ?_ _)); exact BK511.out⟩, ⟨by repeat (first | (with_reducible first | exact HB.out | apply below_alloc | apply pw_below_drewN | apply below_drew1 | refine below_set ?_ GE511.out) | exact HB.out)⟩⟩
 case rest =>
  clear HC3
  try clear c1
  try clear p2
  try clear c6
  try clear c8
  try clear c13
  try clear hcz10_0
  try clear hcz10_1
  try clear hcz13_0
  try clear hcz13_1
  try clear hfz10_0
  try clear hfz10_1
  try clear hfz13_0
  try clear hfz13_1
  obtain ⟨kq, x19_2, rfl, HA, HJ2, BK511, HB⟩ := hcut
  cases kq with
  | zero => exact absurd HA.out (by simp [ancepslaw09_DagCheckCut.j0])
  | succ kj2 =>
   have H := HA.out
   clear HA
   simp only [ancepslaw09_DagCheckCut.j0] at H
   by_cases c16 : x19_2 = true
   ·subst c16
    have H1 : ((ancepslaw09_awake.f kj2).bind fun t514 => (some t514)) = some r := by rw [if_pos rfl] at H; exact H
    clear H
    have H := H1
    clear H1
    replace H := Option.bind_eq_some_iff.mp H
    obtain ⟨t514, A170, H⟩ := H
    replace H : (some t514) = some r := H
    have A17 := Aside0.mk A170
    clear A170
    obtain rfl := Option.some.inj H
    go_wp2_with (first | ((with_reducible refine gate_callee (f := 13) rfl ?_); refine goesL_ (some 20) rfl rfl Try.func13 zK rfl #[] rfl zM ?_; (with_reducible refine (ancepslaw09_awake.calls kj2  t514 _ A17.out).mono ?_); rintro e w18 ⟨rfl, hb⟩; refine ⟨_, rfl, ?_⟩; have n0_ := Aside0.mk (blk_below (g := gb511) (o := .cells #[.int .i64 a0_0, .slice A0_1 l0_1.length c0_1] 24 (0, 0)) (zk BK511) hb); have n1_ := Aside0.mk (below_step zB hb); clear BK511; clear HB; have BK511 := n0_; have HB := n1_; clear n0_ n1_; (try clear hb); (try clear hb2); (try clear hk); (try clear hi)))
    go_ret
    exact ⟨by first | rfl | (simp [errW_none, errW_some] <;> rfl) | (simp [*, errW_none, errW_some] <;> rfl), by repeat (first | (with_reducible first | exact HB.out | apply below_alloc | apply pw_below_drewN | apply below_drew1 | refine below_set ?_ GE511.out) | exact HB.out)⟩
   ·replace c16 := Bool.eq_false_iff.mpr c16
    subst c16
    have H1 : ((dag_CheckCut.f kj2 a0_0 l0_1 l1).bind fun t515 => ((ancepsref09_Count.f kj2 a0_0 l0_1).bind fun bt516 => ((ancepsref09_CheckCut.f kj2 a0_0 l0_1 l1).bind fun t518 => (if (t515 == t518) = true then (if t515 = true then (if bt516.2 = 0 then (some (bt516.1 == 0)) else (some false)) else (some true)) else (some false))))) = some r := by rw [if_neg (show ¬ (false = true) by decide)] at H; exact H
    clear H
    have H := H1
    clear H1
    replace H := Option.bind_eq_some_iff.mp H
    obtain ⟨t515, A190, H⟩ := H
    replace H : ((ancepsref09_Count.f kj2 a0_0 l0_1).bind fun bt516 => ((ancepsref09_CheckCut.f kj2 a0_0 l0_1 l1).bind fun t518 => (if (t515 == t518) = true then (if t515 = true then (if bt516.2 = 0 then (some (bt516.1 == 0)) else (some false)) else (some true)) else (some false)))) = some r := H
    have A19 := Aside0.mk A190
    clear A190
    replace H := Option.bind_eq_some_iff.mp H
    obtain ⟨⟨t516, t517⟩, A200, H⟩ := H
    replace H : ((ancepsref09_CheckCut.f kj2 a0_0 l0_1 l1).bind fun t518 => (if (t515 == t518) = true then (if t515 = true then (if t517 = 0 then (some (t516 == 0)) else (some false)) else (some true)) else (some false))) = some r := H
    have A20 := Aside0.mk A200
    clear A200
    have HC21 := Aside0.mk H
    clear H
    have hcz22_0 : wc.cell? ⟨gb511, 0, none⟩ = some (.int .i64 a0_0) := (blk_cell BK511.out 0).trans rfl
    have hcz22_1 : wc.cell? ⟨gb511, 1, none⟩ = some (.slice A0_1 l0_1.length c0_1) := (blk_cell BK511.out 1).trans rfl
    have hfz22_0 := blk_frozen BK511.out 0
    have hfz22_1 := blk_frozen BK511.out 1
    go_upto_region 5 with (first | ((with_reducible refine gate_callee (f := 33) rfl ?_); refine goesL_ (some 23) rfl rfl Try.func33 zK rfl #[.agg #[.int .i64 a0_0, .slice A0_1 l0_1.length c0_1], .slice A1 l1.length c1] rfl zM ?_; (with_reducible refine (dag_CheckCut.calls kj2 a0_0 _ _ l0_1 _ _ l1 t515 _ ?side1 ?side2 ?side3 ?side4 A19.out).mono ?_); (case side1 => repeat (first | exact (Kd.C_below HR0_1.out HB.out) | (with_reducible refine Kd.C_alloc ?_ _) | (with_reducible refine Kd.C_drewN ?_ _) | (with_reducible refine Kd.C_drew ?_))); (case side2 => exact HC0_1.out); (case side3 => repeat (first | exact (Kd.C_below HR1.out HB.out) | (with_reducible refine Kd.C_alloc ?_ _) | (with_reducible refine Kd.C_drewN ?_ _) | (with_reducible refine Kd.C_drew ?_))); (case side4 => exact HC1.out); rintro e w23 ⟨rfl, hb⟩; refine ⟨_, rfl, ?_⟩; have n0_ := Aside0.mk (blk_below (g := gb511) (o := .cells #[.int .i64 a0_0, .slice A0_1 l0_1.length c0_1] 24 (0, 0)) (zk BK511) hb); have n1_ := Aside0.mk (below_step zB hb); clear BK511; clear HB; have BK511 := n0_; have HB := n1_; clear n0_ n1_; (try clear hb); (try clear hb2); (try clear hk); (try clear hi); have hcz24_0 : w23.cell? ⟨gb511, 0, none⟩ = some (.int .i64 a0_0) := (blk_cell BK511.out 0).trans rfl; have hcz24_1 : w23.cell? ⟨gb511, 1, none⟩ = some (.slice A0_1 l0_1.length c0_1) := (blk_cell BK511.out 1).trans rfl; have hfz24_0 := blk_frozen BK511.out 0; have hfz24_1 := blk_frozen BK511.out 1) | ((with_reducible refine gate_callee (f := 20) rfl ?_); refine goesL_ (some 26) rfl rfl Try.func20 zK rfl #[.agg #[.int .i64 a0_0, .slice A0_1 l0_1.length c0_1]] rfl zM ?_; (with_reducible refine (ancepsref09_Count.calls kj2 a0_0 _ _ l0_1 t516 t517 _ ?side1 ?side2 A20.out).mono ?_); (case side1 => repeat (first | exact (Kd.C_below HR0_1.out HB.out) | (with_reducible refine Kd.C_alloc ?_ _) | (with_reducible refine Kd.C_drewN ?_ _) | (with_reducible refine Kd.C_drew ?_))); (case side2 => exact HC0_1.out); rintro e w25 ⟨rfl, hb⟩; refine ⟨_, rfl, ?_⟩; have n0_ := Aside0.mk (blk_below (g := gb511) (o := .cells #[.int .i64 a0_0, .slice A0_1 l0_1.length c0_1] 24 (0, 0)) (zk BK511) hb); have n1_ := Aside0.mk (below_step zB hb); clear BK511; clear HB; have BK511 := n0_; have HB := n1_; clear n0_ n1_; (try clear hb); (try clear hb2); (try clear hk); (try clear hi)))
    (try simp only [Act.put, List.setIfInBounds_toArray, List.set_cons_zero, List.set_cons_succ])
    have H := HC21.out
    clear HC21
    replace H := Option.bind_eq_some_iff.mp H
    obtain ⟨t518, A260, H⟩ := H
    replace H : (if (t515 == t518) = true then (if t515 = true then (if t517 = 0 then (some (t516 == 0)) else (some false)) else (some true)) else (some false)) = some r := H
    have A26 := Aside0.mk A260
    clear A260
    by_cases c27 : (t515 == t518) = true
    ·rw [if_pos c27] at H
     have c27b0 : (t515 == t518) = true := c27
     (try (have c27b1 : decide (t515 = t518) = true := by simpa using c27))
     (try (have c27b2 : (t515 == t518) = true := by simpa using c27))
     clear c27
     (first | rw [c27b0] | (simp only [i64_w, i32_w]; rw [c27b0]) | skip)
     (try rw [c27b1])
     (try rw [c27b2])
     by_cases c28 : t515 = true
     ·subst c28
      have H1 : (if t517 = 0 then (some (t516 == 0)) else (some false)) = some r := by rw [if_pos rfl] at H; exact H
      clear H
      have H := H1
      clear H1
      by_cases c29 : t517 = 0
      ·rw [if_pos c29] at H
       have c29b0 : (t517 == 0) = true := beq_iff_eq.mpr c29
       have c29b1 : (t517 != 0) = false := bne_eq_false_iff_eq.mpr c29
       clear c29
       obtain rfl := Option.some.inj H
       have hcz30_0 : w25.cell? ⟨gb511, 0, none⟩ = some (.int .i64 a0_0) := (blk_cell BK511.out 0).trans rfl
       have hcz30_1 : w25.cell? ⟨gb511, 1, none⟩ = some (.slice A0_1 l0_1.length c0_1) := (blk_cell BK511.out 1).trans rfl
       have hfz30_0 := blk_frozen BK511.out 0
       have hfz30_1 := blk_frozen BK511.out 1
       go_wp2_with (first | ((with_reducible refine gate_callee (f := 34) rfl ?_); refine goesL_ (some 32) rfl rfl Try.func34 zK rfl #[.agg #[.int .i64 a0_0, .slice A0_1 l0_1.length c0_1], .slice A1 l1.length c1] rfl zM ?_; (with_reducible refine (ancepsref09_CheckCut.calls kj2 a0_0 _ _ l0_1 _ _ l1 t518 _ ?side1 ?side2 ?side3 ?side4 A26.out).mono ?_); (case side1 => repeat (first | exact (Kd.C_below HR0_1.out HB.out) | (with_reducible refine Kd.C_alloc ?_ _) | (with_reducible refine Kd.C_drewN ?_ _) | (with_reducible refine Kd.C_drew ?_))); (case side2 => exact HC0_1.out); (case side3 => repeat (first | exact (Kd.C_below HR1.out HB.out) | (with_reducible refine Kd.C_alloc ?_ _) | (with_reducible refine Kd.C_drewN ?_ _) | (with_reducible refine Kd.C_drew ?_))); (case side4 => exact HC1.out); rintro e w31 ⟨rfl, hb⟩; refine ⟨_, rfl, ?_⟩; have n0_ := Aside0.mk (blk_below (g := gb511) (o := .cells #[.int .i64 a0_0, .slice A0_1 l0_1.length c0_1] 24 (0, 0)) (zk BK511) hb); have n1_ := Aside0.mk (below_step zB hb); clear BK511; clear HB; have BK511 := n0_; have HB := n1_; clear n0_ n1_; (try clear hb); (try clear hb2); (try clear hk); (try clear hi)))
       go_ret
       exact ⟨by first | rfl | (simp [errW_none, errW_some] <;> rfl) | (simp [*, errW_none, errW_some] <;> rfl), by repeat (first | (with_reducible first | exact HB.out | apply below_alloc | apply pw_below_drewN | apply below_drew1 | refine below_set ?_ GE511.out) | exact HB.out)⟩
      ·rw [if_neg c29] at H
       have c29b0 : (t517 == 0) = false := beq_eq_false_iff_ne.mpr c29
       have c29b1 : (t517 != 0) = true := bne_iff_ne.mpr c29
       obtain rfl := Option.some.inj H
       have hcz32_0 : w25.cell? ⟨gb511, 0, none⟩ = some (.int .i64 a0_0) := (blk_cell BK511.out 0).trans rfl
       have hcz32_1 : w25.cell? ⟨gb511, 1, none⟩ = some (.slice A0_1 l0_1.length c0_1) := (blk_cell BK511.out 1).trans rfl
       have hfz32_0 := blk_frozen BK511.out 0
       have hfz32_1 := blk_frozen BK511.out 1
       go_wp2_with (first | ((with_reducible refine gate_callee (f := 34) rfl ?_); refine goesL_ (some 32) rfl rfl Try.func34 zK rfl #[.agg #[.int .i64 a0_0, .slice A0_1 l0_1.length c0_1], .slice A1 l1.length c1] rfl zM ?_; (with_reducible refine (ancepsref09_CheckCut.calls kj2 a0_0 _ _ l0_1 _ _ l1 t518 _ ?side1 ?side2 ?side3 ?side4 A26.out).mono ?_); (case side1 => repeat (first | exact (Kd.C_below HR0_1.out HB.out) | (with_reducible refine Kd.C_alloc ?_ _) | (with_reducible refine Kd.C_drewN ?_ _) | (with_reducible refine Kd.C_drew ?_))); (case side2 => exact HC0_1.out); (case side3 => repeat (first | exact (Kd.C_below HR1.out HB.out) | (with_reducible refine Kd.C_alloc ?_ _) | (with_reducible refine Kd.C_drewN ?_ _) | (with_reducible refine Kd.C_drew ?_))); (case side4 => exact HC1.out); rintro e w33 ⟨rfl, hb⟩; refine ⟨_, rfl, ?_⟩; have n0_ := Aside0.mk (blk_below (g := gb511) (o := .cells #[.int .i64 a0_0, .slice A0_1 l0_1.length c0_1] 24 (0, 0)) (zk BK511) hb); have n1_ := Aside0.mk (below_step zB hb); clear BK511; clear HB; have BK511 := n0_; have HB := n1_; clear n0_ n1_; (try clear hb); (try clear hb2); (try clear hk); (try clear hi)))
       go_ret
       exact ⟨by first | rfl | (simp [errW_none, errW_some] <;> rfl) | (simp [*, errW_none, errW_some] <;> rfl), by repeat (first | (with_reducible first | exact HB.out | apply below_alloc | apply pw_below_drewN | apply below_drew1 | refine below_set ?_ GE511.out) | exact HB.out)⟩
     ·replace c28 := Bool.eq_false_iff.mpr c28
      subst c28
      have H1 : (some true) = some r := by rw [if_neg (show ¬ (false = true) by decide)] at H; exact H
      clear H
      have H := H1
      clear H1
      obtain rfl := Option.some.inj H
      have hcz34_0 : w25.cell? ⟨gb511, 0, none⟩ = some (.int .i64 a0_0) := (blk_cell BK511.out 0).trans rfl
      have hcz34_1 : w25.cell? ⟨gb511, 1, none⟩ = some (.slice A0_1 l0_1.length c0_1) := (blk_cell BK511.out 1).trans rfl
      have hfz34_0 := blk_frozen BK511.out 0
      have hfz34_1 := blk_frozen BK511.out 1
      go_wp2_with (first | ((with_reducible refine gate_callee (f := 34) rfl ?_); refine goesL_ (some 32) rfl rfl Try.func34 zK rfl #[.agg #[.int .i64 a0_0, .slice A0_1 l0_1.length c0_1], .slice A1 l1.length c1] rfl zM ?_; (with_reducible refine (ancepsref09_CheckCut.calls kj2 a0_0 _ _ l0_1 _ _ l1 t518 _ ?side1 ?side2 ?side3 ?side4 A26.out).mono ?_); (case side1 => repeat (first | exact (Kd.C_below HR0_1.out HB.out) | (with_reducible refine Kd.C_alloc ?_ _) | (with_reducible refine Kd.C_drewN ?_ _) | (with_reducible refine Kd.C_drew ?_))); (case side2 => exact HC0_1.out); (case side3 => repeat (first | exact (Kd.C_below HR1.out HB.out) | (with_reducible refine Kd.C_alloc ?_ _) | (with_reducible refine Kd.C_drewN ?_ _) | (with_reducible refine Kd.C_drew ?_))); (case side4 => exact HC1.out); rintro e w35 ⟨rfl, hb⟩; refine ⟨_, rfl, ?_⟩; have n0_ := Aside0.mk (blk_below (g := gb511) (o := .cells #[.int .i64 a0_0, .slice A0_1 l0_1.length c0_1] 24 (0, 0)) (zk BK511) hb); have n1_ := Aside0.mk (below_step zB hb); clear BK511; clear HB; have BK511 := n0_; have HB := n1_; clear n0_ n1_; (try clear hb); (try clear hb2); (try clear hk); (try clear hi)))
      go_ret
      exact ⟨by first | rfl | (simp [errW_none, errW_some] <;> rfl) | (simp [*, errW_none, errW_some] <;> rfl), by repeat (first | (with_reducible first | exact HB.out | apply below_alloc | apply pw_below_drewN | apply below_drew1 | refine below_set ?_ GE511.out) | exact HB.out)⟩
    ·rw [if_neg c27] at H
     have c27b0 : (t515 == t518) = false := by simpa using c27
     (try (have c27b1 : decide (t515 = t518) = false := by simpa using c27))
     (try (have c27b2 : (t515 == t518) = false := by simpa using c27))
     (try (have c27b3 : ¬ (t515 = t518) := by simpa using c27))
     clear c27
     (first | rw [c27b0] | (simp only [i64_w, i32_w]; rw [c27b0]) | skip)
     (try rw [c27b1])
     (try rw [c27b2])
     (try rw [c27b3])
     obtain rfl := Option.some.inj H
     have hcz36_0 : w25.cell? ⟨gb511, 0, none⟩ = some (.int .i64 a0_0) := (blk_cell BK511.out 0).trans rfl
     have hcz36_1 : w25.cell? ⟨gb511, 1, none⟩ = some (.slice A0_1 l0_1.length c0_1) := (blk_cell BK511.out 1).trans rfl
     have hfz36_0 := blk_frozen BK511.out 0
     have hfz36_1 := blk_frozen BK511.out 1
     go_wp2_with (first | ((with_reducible refine gate_callee (f := 34) rfl ?_); refine goesL_ (some 32) rfl rfl Try.func34 zK rfl #[.agg #[.int .i64 a0_0, .slice A0_1 l0_1.length c0_1], .slice A1 l1.length c1] rfl zM ?_; (with_reducible refine (ancepsref09_CheckCut.calls kj2 a0_0 _ _ l0_1 _ _ l1 t518 _ ?side1 ?side2 ?side3 ?side4 A26.out).mono ?_); (case side1 => repeat (first | exact (Kd.C_below HR0_1.out HB.out) | (with_reducible refine Kd.C_alloc ?_ _) | (with_reducible refine Kd.C_drewN ?_ _) | (with_reducible refine Kd.C_drew ?_))); (case side2 => exact HC0_1.out); (case side3 => repeat (first | exact (Kd.C_below HR1.out HB.out) | (with_reducible refine Kd.C_alloc ?_ _) | (with_reducible refine Kd.C_drewN ?_ _) | (with_reducible refine Kd.C_drew ?_))); (case side4 => exact HC1.out); rintro e w37 ⟨rfl, hb⟩; refine ⟨_, rfl, ?_⟩; have n0_ := Aside0.mk (blk_below (g := gb511) (o := .cells #[.int .i64 a0_0, .slice A0_1 l0_1.length c0_1] 24 (0, 0)) (zk BK511) hb); have n1_ := Aside0.mk (below_step zB hb); clear BK511; clear HB; have BK511 := n0_; have HB := n1_; clear n0_ n1_; (try clear hb); (try clear hb2); (try clear hk); (try clear hi)))
     go_ret
     exact ⟨by first | rfl | (simp [errW_none, errW_some] <;> rfl) | (simp [*, errW_none, errW_some] <;> rfl), by repeat (first | (with_reducible first | exact HB.out | apply below_alloc | apply pw_below_drewN | apply below_drew1 | refine below_set ?_ GE511.out) | exact HB.out)⟩
end Go.Proofs.Ytanbffoilianhaa.E
