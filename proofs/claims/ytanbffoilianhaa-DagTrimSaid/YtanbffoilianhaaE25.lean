-- Written by wip/tools/myprint.py, a program of this session's.
import Derived.Test.YtanbffoilianhaaE0
import Derived.Test.YtanbffoilianhaaE5
import Derived.Test.YtanbffoilianhaaE6
import Derived.Test.YtanbffoilianhaaE8
import Derived.Test.YtanbffoilianhaaE17
import Derived.Test.YtanbffoilianhaaE23
import Derived.Test.YtanbffoilianhaaE24
namespace Go.Proofs.Ytanbffoilianhaa.E
open Go.RowKit Go.Proofs.YtanbffoilianhaaW.PrintWords Go.Proofs.YtanbffoilianhaaW.PrintLast Go.Proofs.YtanbffoilianhaaW.PrintMore
attribute [local go_sem] max2_int min2_int max_two min_two max_three min_three max_four min_four   -- for this text's walks alone
set_option linter.unusedVariables false
set_option linter.unusedSimpArgs false
/-! ### ancepslaw09_DagTrim: function 9 -/
mutual
def ancepslaw09_DagTrim.j0 : Nat → Bool → Int → List (S69) → Option (Bool)
 | 0, _, _, _ => none
 | k + 1, x17, x578000, x578001 => if x17 = true then ((ancepslaw09_awake.f k).bind fun t580 => (some t580)) else ((dag_Trim.f k x578000 x578001).bind fun bt581 => ((ancepsref09_Trim.f k x578000 x578001).bind fun bt590 => (if bt581.2.2.2 = bt590.2.2.2 then ((ancepsref09_Same.f k bt581.1 bt581.2.1 bt590.1 bt590.2.1).bind fun t599 => (if t599 = true then ((slices_Equal_int_int.f k bt581.2.2.1 bt590.2.2.1).bind fun t600 => (if t600 = true then (ancepslaw09_DagTrim.j1 k bt581.2.2.1 bt581.2.2.2 bt590.2.2.1 bt590.2.2.2 (bt581.2.2.2 != 0) bt581.1 bt581.2.1 bt590.1 bt590.2.1) else (ancepslaw09_DagTrim.j1 k bt581.2.2.1 bt581.2.2.2 bt590.2.2.1 bt590.2.2.2 true bt581.1 bt581.2.1 bt590.1 bt590.2.1))) else (ancepslaw09_DagTrim.j1 k bt581.2.2.1 bt581.2.2.2 bt590.2.2.1 bt590.2.2.2 true bt581.1 bt581.2.1 bt590.1 bt590.2.1))) else (ancepslaw09_DagTrim.j1 k bt581.2.2.1 bt581.2.2.2 bt590.2.2.1 bt590.2.2.2 true bt581.1 bt581.2.1 bt590.1 bt590.2.1))))
def ancepslaw09_DagTrim.j1 : Nat → List Int → Int → List Int → Int → Bool → Int → List (S69) → Int → List (S69) → Option (Bool)
 | 0, _, _, _, _, _, _, _, _, _ => none
 | k + 1, x4, x5, x7, x8, x49, x590000, x590001, x599000, x599001 => if x49 = true then (if x5 = x8 then ((ancepsref09_Same.f k x590000 x590001 x599000 x599001).bind fun t601 => (if t601 = true then ((slices_Equal_int_int.f k x4 x7).bind fun t602 => (some t602)) else (some false))) else (some false)) else ((dag_Trim.f k x590000 x590001).bind fun bt603 => (if bt603.2.2.2 = 0 then ((ancepsref09_Same.f k bt603.1 bt603.2.1 x590000 x590001).bind fun t612 => (if t612 = true then (some ((bt603.2.2.1.length : Int) == x590000)) else (some false))) else (some false)))
end
def ancepslaw09_DagTrim.f (k : Nat) (a0_0 : Int) (l0_1 : List (S69)) : Option (Bool) := (ancepslaw09_awake.f k).bind fun t578 => (if t578 = true then ((ancepsref09_Few.f a0_0 l0_1).bind fun t579 => (ancepslaw09_DagTrim.j0 k (!t579) a0_0 l0_1)) else (ancepslaw09_DagTrim.j0 k true a0_0 l0_1))
theorem ancepslaw09_DagTrim.mono_l : ∀ k, (∀ y0 y1 y2, LeO (ancepslaw09_DagTrim.j0 k y0 y1 y2) (ancepslaw09_DagTrim.j0 (k + 1) y0 y1 y2)) ∧ (∀ y0 y1 y2 y3 y4 y5 y6 y7 y8, LeO (ancepslaw09_DagTrim.j1 k y0 y1 y2 y3 y4 y5 y6 y7 y8) (ancepslaw09_DagTrim.j1 (k + 1) y0 y1 y2 y3 y4 y5 y6 y7 y8))
 | 0 => ⟨fun _ _ _ r h => by simp [ancepslaw09_DagTrim.j0] at h, fun _ _ _ _ _ _ _ _ _ r h => by simp [ancepslaw09_DagTrim.j1] at h⟩
 | k + 1 => by
  obtain ⟨ih0, ih1⟩ := ancepslaw09_DagTrim.mono_l k
  refine ⟨?_, ?_⟩
  ·intro y0 y1 y2
   unfold ancepslaw09_DagTrim.j0
   repeat' first
   | (with_reducible exact ih0 _ _ _)
   | (with_reducible exact ih1 _ _ _ _ _ _ _ _ _)
   | (with_reducible exact ancepslaw09_awake.mono _)
   | (with_reducible exact ancepsref09_Same.mono _ _ _ _ _)
   | (with_reducible exact ancepsref09_Trim.mono _ _ _)
   | (with_reducible exact dag_Trim.mono _ _ _)
   | (with_reducible exact slices_Equal_int_int.mono _ _ _)
   | (with_reducible exact LeO.refl _)
   | (with_reducible exact LeO.none _)
   | (with_reducible refine LeO.ite ?_ ?_)
   | (with_reducible refine LeO.bind ?_ (fun _ => ?_))
   | exact ih0 _ _ _
   | exact ih1 _ _ _ _ _ _ _ _ _
   | exact ancepslaw09_awake.mono _
   | exact ancepsref09_Same.mono _ _ _ _ _
   | exact ancepsref09_Trim.mono _ _ _
   | exact dag_Trim.mono _ _ _
   | exact slices_Equal_int_int.mono _ _ _
   | exact LeO.none _
   | refine LeO.ite ?_ ?_
   | refine LeO.bind ?_ (fun _ => ?_)
  ·intro y0 y1 y2 y3 y4 y5 y6 y7 y8
   unfold ancepslaw09_DagTrim.j1
   repeat' first
   | (with_reducible exact ih0 _ _ _)
   | (with_reducible exact ih1 _ _ _ _ _ _ _ _ _)
   | (with_reducible exact ancepslaw09_awake.mono _)
   | (with_reducible exact ancepsref09_Same.mono _ _ _ _ _)
   | (with_reducible exact ancepsref09_Trim.mono _ _ _)
   | (with_reducible exact dag_Trim.mono _ _ _)
   | (with_reducible exact slices_Equal_int_int.mono _ _ _)
   | (with_reducible exact LeO.refl _)
   | (with_reducible exact LeO.none _)
   | (with_reducible refine LeO.ite ?_ ?_)
   | (with_reducible refine LeO.bind ?_ (fun _ => ?_))
   | exact ih0 _ _ _
   | exact ih1 _ _ _ _ _ _ _ _ _
   | exact ancepslaw09_awake.mono _
   | exact ancepsref09_Same.mono _ _ _ _ _
   | exact ancepsref09_Trim.mono _ _ _
   | exact dag_Trim.mono _ _ _
   | exact slices_Equal_int_int.mono _ _ _
   | exact LeO.none _
   | refine LeO.ite ?_ ?_
   | refine LeO.bind ?_ (fun _ => ?_)
theorem ancepslaw09_DagTrim.mono : ∀ a0 a1 k, LeO (ancepslaw09_DagTrim.f k a0 a1) (ancepslaw09_DagTrim.f (k + 1) a0 a1) := by
 intro a0 a1 k
 obtain ⟨ih0, ih1⟩ := ancepslaw09_DagTrim.mono_l k
 unfold ancepslaw09_DagTrim.f
 repeat' first
   | (with_reducible exact ih0 _ _ _)
   | (with_reducible exact ih1 _ _ _ _ _ _ _ _ _)
   | (with_reducible exact ancepslaw09_awake.mono _)
   | (with_reducible exact ancepsref09_Same.mono _ _ _ _ _)
   | (with_reducible exact ancepsref09_Trim.mono _ _ _)
   | (with_reducible exact dag_Trim.mono _ _ _)
   | (with_reducible exact slices_Equal_int_int.mono _ _ _)
   | (with_reducible exact LeO.refl _)
   | (with_reducible exact LeO.none _)
   | (with_reducible refine LeO.ite ?_ ?_)
   | (with_reducible refine LeO.bind ?_ (fun _ => ?_))
   | exact ih0 _ _ _
   | exact ih1 _ _ _ _ _ _ _ _ _
   | exact ancepslaw09_awake.mono _
   | exact ancepsref09_Same.mono _ _ _ _ _
   | exact ancepsref09_Trim.mono _ _ _
   | exact dag_Trim.mono _ _ _
   | exact slices_Equal_int_int.mono _ _ _
   | exact LeO.none _
   | refine LeO.ite ?_ ?_
   | refine LeO.bind ?_ (fun _ => ?_)
set_option maxHeartbeats 8000000 in
set_option maxRecDepth 100000 in
theorem ancepslaw09_DagTrim.calls (k : Nat) (a0_0 : Int) (A0_1 : Option Addr) (c0_1 : Nat) (l0_1 : List (S69)) (r : Bool) (w : World) (hr0_1 : Kd.C k69 w A0_1 l0_1.length l0_1) (hc0_1 : l0_1.length ≤ c0_1) (h : ancepslaw09_DagTrim.f k a0_0 l0_1 = some r) :
  Calls Try.prog 9 #[.agg #[.int .i64 a0_0, .slice A0_1 l0_1.length c0_1]] w fun e w' => e = .returned (.bool r) ∧ Below w.heap.size w w' := by
 have hu24 := Try.underlying24
 have hu3 := Try.underlying3
 have HR0_1 := Aside0.mk hr0_1
 have HC0_1 := Aside0.mk hc0_1
 clear hr0_1 hc0_1
 have HB := Aside0.mk (Below.refl w.heap.size w)
 have H : ((ancepslaw09_awake.f k).bind fun t578 => (if t578 = true then ((ancepsref09_Few.f a0_0 l0_1).bind fun t579 => (ancepslaw09_DagTrim.j0 k (!t579) a0_0 l0_1)) else (ancepslaw09_DagTrim.j0 k true a0_0 l0_1))) = some r := h
 clear h
 have HC2 := Aside0.mk H
 clear H
 go_enter Try.func9, Try.ntmps9
 go_upto_region 1 with (first | ((with_reducible refine gate_dst (N := 1) rfl ?_); (try (refine gate_guard (by rfl) ?_; dsimp only)); refine box_event ?hg (N := 1) ?hd (cs := #[.int .i64 a0_0, .slice A0_1 l0_1.length c0_1]) (t := 24) ?hr ?_; (case hd => rfl); (case hg => rfl); (case hr => first | (go_simp; done) | (go_simp; rfl)); intro gb577 hg w3 hbox hb; have n0_ := Aside0.mk (below_step zB hb); have n1_ := Aside0.mk (hbox); have n2_ := Aside0.mk ((by rw [hg]; exact (below_size zB) : w.heap.size ≤ gb577)); have n3_ := Aside0.mk ((by rw [hg]; exact (below_size zB) : w.heap.size ≤ gb577)); clear HB; have HB := n0_; have BK577 := n1_; have GW577 := n2_; have GE577 := n3_; clear n0_ n1_ n2_ n3_; clear hb hbox hg))
 (try simp only [Act.put, List.setIfInBounds_toArray, List.set_cons_zero, List.set_cons_succ])
 go_cut [17] (fun v17 wc => ∃ (kq : Nat) (x17_1 : Bool), v17 = .bool x17_1 ∧ Aside0 (ancepslaw09_DagTrim.j0 kq x17_1 a0_0 l0_1 = some r) ∧ Aside0 (kq ≤ k) ∧ Aside0 (wc.heap[gb577]? = some (.cells #[.int .i64 a0_0, (.slice A0_1 l0_1.length c0_1)] 24 (0, 0))) ∧ Aside0 (Below w.heap.size w wc))
 case first =>
  have H := HC2.out
  clear HC2
  replace H := Option.bind_eq_some_iff.mp H
  obtain ⟨t578, A40, H⟩ := H
  replace H : (if t578 = true then ((ancepsref09_Few.f a0_0 l0_1).bind fun t579 => (ancepslaw09_DagTrim.j0 k (!t579) a0_0 l0_1)) else (ancepslaw09_DagTrim.j0 k true a0_0 l0_1)) = some r := H
  have A4 := Aside0.mk A40
  clear A40
  by_cases c5 : t578 = true
  ·subst c5
   have H1 : ((ancepsref09_Few.f a0_0 l0_1).bind fun t579 => (ancepslaw09_DagTrim.j0 k (!t579) a0_0 l0_1)) = some r := by rw [if_pos rfl] at H; exact H
   clear H
   have H := H1
   clear H1
   replace H := Option.bind_eq_some_iff.mp H
   obtain ⟨t579, A60, H⟩ := H
   replace H : (ancepslaw09_DagTrim.j0 k (!t579) a0_0 l0_1) = some r := H
   have A6 := Aside0.mk A60
   clear A60
   have H' := Aside0.mk H
   clear H
   go_wp2_with (first | ((with_reducible refine gate_callee (f := 13) rfl ?_); refine goesL_ (some 11) rfl rfl Try.func13 zK rfl #[] rfl zM ?_; (with_reducible refine (ancepslaw09_awake.calls k  true _ A4.out).mono ?_); rintro e w7 ⟨rfl, hb⟩; refine ⟨_, rfl, ?_⟩; have n0_ := Aside0.mk (blk_below (g := gb577) (o := .cells #[.int .i64 a0_0, .slice A0_1 l0_1.length c0_1] 24 (0, 0)) (zk BK577) hb); have n1_ := Aside0.mk (below_step zB hb); clear BK577; clear HB; have BK577 := n0_; have HB := n1_; clear n0_ n1_; (try clear hb); (try clear hb2); (try clear hk); (try clear hi); have hcz8_0 : w7.cell? ⟨gb577, 0, none⟩ = some (.int .i64 a0_0) := (blk_cell BK577.out 0).trans rfl; have hcz8_1 : w7.cell? ⟨gb577, 1, none⟩ = some (.slice A0_1 l0_1.length c0_1) := (blk_cell BK577.out 1).trans rfl; have hfz8_0 := blk_frozen BK577.out 0; have hfz8_1 := blk_frozen BK577.out 1) | (go_at_call 14; (with_reducible refine (ancepsref09_Few.calls a0_0 _ _ l0_1 t579 _ ?side1 ?side2 A6.out).mono ?_); (case side1 => repeat (first | exact (Kd.C_below HR0_1.out HB.out) | (with_reducible refine Kd.C_alloc ?_ _) | (with_reducible refine Kd.C_drewN ?_ _) | (with_reducible refine Kd.C_drew ?_))); (case side2 => exact HC0_1.out); rintro e w9 ⟨rfl, hb⟩; have n0_ := Aside0.mk (blk_below (g := gb577) (o := .cells #[.int .i64 a0_0, .slice A0_1 l0_1.length c0_1] 24 (0, 0)) (zk BK577) hb); have n1_ := Aside0.mk (below_step zB hb); clear BK577; clear HB; have BK577 := n0_; have HB := n1_; clear n0_ n1_; (try clear hb); (try clear hb2); (try clear hk); (try clear hi)))
   go_meet
   case rel => exact ⟨_, (!t579), zT, H', ⟨by first | omega | exact Nat.le_refl _⟩, ⟨by (with_reducible repeat (first | refine blk_drewN ?_ _ | refine blk_drew ?_ | refine blk_alloc ?_ _)); exact BK577.out⟩, ⟨by repeat (first | (with_reducible first | exact HB.out | apply below_alloc | apply pw_below_drewN | apply below_drew1 | refine below_set ?_ GE577.out) | exact HB.out)⟩⟩
  ·replace c5 := Bool.eq_false_iff.mpr c5
   subst c5
   have H1 : (ancepslaw09_DagTrim.j0 k true a0_0 l0_1) = some r := by rw [if_neg (show ¬ (false = true) by decide)] at H; exact H
   clear H
   have H := H1
   clear H1
   have H' := Aside0.mk H
   clear H
   go_wp2_with (first | ((with_reducible refine gate_callee (f := 13) rfl ?_); refine goesL_ (some 11) rfl rfl Try.func13 zK rfl #[] rfl zM ?_; (with_reducible refine (ancepslaw09_awake.calls k  false _ A4.out).mono ?_); rintro e w10 ⟨rfl, hb⟩; refine ⟨_, rfl, ?_⟩; have n0_ := Aside0.mk (blk_below (g := gb577) (o := .cells #[.int .i64 a0_0, .slice A0_1 l0_1.length c0_1] 24 (0, 0)) (zk BK577) hb); have n1_ := Aside0.mk (below_step zB hb); clear BK577; clear HB; have BK577 := n0_; have HB := n1_; clear n0_ n1_; (try clear hb); (try clear hb2); (try clear hk); (try clear hi)))
   go_meet
   case rel => exact ⟨_, (true), zT, H', ⟨by first | omega | exact Nat.le_refl _⟩, ⟨by (with_reducible repeat (first | refine blk_drewN ?_ _ | refine blk_drew ?_ | refine blk_alloc ?_ _)); exact BK577.out⟩, ⟨by repeat (first | (with_reducible first | exact HB.out | apply below_alloc | apply pw_below_drewN | apply below_drew1 | refine below_set ?_ GE577.out) | exact HB.out)⟩⟩
 case rest =>
  clear HC2
  try clear c1
  try clear p2
  try clear c5
  try clear c9
  try clear hcz8_0
  try clear hcz8_1
  try clear hfz8_0
  try clear hfz8_1
  obtain ⟨kq, x17_1, rfl, HA, HJ1, BK577, HB⟩ := hcut
  cases kq with
  | zero => exact absurd HA.out (by simp [ancepslaw09_DagTrim.j0])
  | succ kj1 =>
   have H := HA.out
   clear HA
   simp only [ancepslaw09_DagTrim.j0] at H
   by_cases c11 : x17_1 = true
   ·subst c11
    have H1 : ((ancepslaw09_awake.f kj1).bind fun t580 => (some t580)) = some r := by rw [if_pos rfl] at H; exact H
    clear H
    have H := H1
    clear H1
    replace H := Option.bind_eq_some_iff.mp H
    obtain ⟨t580, A120, H⟩ := H
    replace H : (some t580) = some r := H
    have A12 := Aside0.mk A120
    clear A120
    obtain rfl := Option.some.inj H
    go_wp2_with (first | ((with_reducible refine gate_callee (f := 13) rfl ?_); refine goesL_ (some 18) rfl rfl Try.func13 zK rfl #[] rfl zM ?_; (with_reducible refine (ancepslaw09_awake.calls kj1  t580 _ A12.out).mono ?_); rintro e w13 ⟨rfl, hb⟩; refine ⟨_, rfl, ?_⟩; have n0_ := Aside0.mk (blk_below (g := gb577) (o := .cells #[.int .i64 a0_0, .slice A0_1 l0_1.length c0_1] 24 (0, 0)) (zk BK577) hb); have n1_ := Aside0.mk (below_step zB hb); clear BK577; clear HB; have BK577 := n0_; have HB := n1_; clear n0_ n1_; (try clear hb); (try clear hb2); (try clear hk); (try clear hi)))
    go_ret
    exact ⟨by first | rfl | (simp [errW_none, errW_some] <;> rfl) | (simp [*, errW_none, errW_some] <;> rfl), by repeat (first | (with_reducible first | exact HB.out | apply below_alloc | apply pw_below_drewN | apply below_drew1 | refine below_set ?_ GE577.out) | exact HB.out)⟩
   ·replace c11 := Bool.eq_false_iff.mpr c11
    subst c11
    have H1 : ((dag_Trim.f kj1 a0_0 l0_1).bind fun bt581 => ((ancepsref09_Trim.f kj1 a0_0 l0_1).bind fun bt590 => (if bt581.2.2.2 = bt590.2.2.2 then ((ancepsref09_Same.f kj1 bt581.1 bt581.2.1 bt590.1 bt590.2.1).bind fun t599 => (if t599 = true then ((slices_Equal_int_int.f kj1 bt581.2.2.1 bt590.2.2.1).bind fun t600 => (if t600 = true then (ancepslaw09_DagTrim.j1 kj1 bt581.2.2.1 bt581.2.2.2 bt590.2.2.1 bt590.2.2.2 (bt581.2.2.2 != 0) bt581.1 bt581.2.1 bt590.1 bt590.2.1) else (ancepslaw09_DagTrim.j1 kj1 bt581.2.2.1 bt581.2.2.2 bt590.2.2.1 bt590.2.2.2 true bt581.1 bt581.2.1 bt590.1 bt590.2.1))) else (ancepslaw09_DagTrim.j1 kj1 bt581.2.2.1 bt581.2.2.2 bt590.2.2.1 bt590.2.2.2 true bt581.1 bt581.2.1 bt590.1 bt590.2.1))) else (ancepslaw09_DagTrim.j1 kj1 bt581.2.2.1 bt581.2.2.2 bt590.2.2.1 bt590.2.2.2 true bt581.1 bt581.2.1 bt590.1 bt590.2.1)))) = some r := by rw [if_neg (show ¬ (false = true) by decide)] at H; exact H
    clear H
    have H := H1
    clear H1
    replace H := Option.bind_eq_some_iff.mp H
    obtain ⟨⟨t581, t582, t585, t588⟩, A140, H⟩ := H
    replace H : ((ancepsref09_Trim.f kj1 a0_0 l0_1).bind fun bt590 => (if t588 = bt590.2.2.2 then ((ancepsref09_Same.f kj1 t581 t582 bt590.1 bt590.2.1).bind fun t599 => (if t599 = true then ((slices_Equal_int_int.f kj1 t585 bt590.2.2.1).bind fun t600 => (if t600 = true then (ancepslaw09_DagTrim.j1 kj1 t585 t588 bt590.2.2.1 bt590.2.2.2 (t588 != 0) t581 t582 bt590.1 bt590.2.1) else (ancepslaw09_DagTrim.j1 kj1 t585 t588 bt590.2.2.1 bt590.2.2.2 true t581 t582 bt590.1 bt590.2.1))) else (ancepslaw09_DagTrim.j1 kj1 t585 t588 bt590.2.2.1 bt590.2.2.2 true t581 t582 bt590.1 bt590.2.1))) else (ancepslaw09_DagTrim.j1 kj1 t585 t588 bt590.2.2.1 bt590.2.2.2 true t581 t582 bt590.1 bt590.2.1))) = some r := H
    have A14 := Aside0.mk A140
    clear A140
    replace H := Option.bind_eq_some_iff.mp H
    obtain ⟨⟨t590, t591, t594, t597⟩, A150, H⟩ := H
    replace H : (if t588 = t597 then ((ancepsref09_Same.f kj1 t581 t582 t590 t591).bind fun t599 => (if t599 = true then ((slices_Equal_int_int.f kj1 t585 t594).bind fun t600 => (if t600 = true then (ancepslaw09_DagTrim.j1 kj1 t585 t588 t594 t597 (t588 != 0) t581 t582 t590 t591) else (ancepslaw09_DagTrim.j1 kj1 t585 t588 t594 t597 true t581 t582 t590 t591))) else (ancepslaw09_DagTrim.j1 kj1 t585 t588 t594 t597 true t581 t582 t590 t591))) else (ancepslaw09_DagTrim.j1 kj1 t585 t588 t594 t597 true t581 t582 t590 t591)) = some r := H
    have A15 := Aside0.mk A150
    clear A150
    have HC16 := Aside0.mk H
    clear H
    have hcz17_0 : wc.cell? ⟨gb577, 0, none⟩ = some (.int .i64 a0_0) := (blk_cell BK577.out 0).trans rfl
    have hcz17_1 : wc.cell? ⟨gb577, 1, none⟩ = some (.slice A0_1 l0_1.length c0_1) := (blk_cell BK577.out 1).trans rfl
    have hfz17_0 := blk_frozen BK577.out 0
    have hfz17_1 := blk_frozen BK577.out 1
    go_upto_region 5 with (first | ((with_reducible refine gate_callee (f := 35) rfl ?_); refine goesL_ (some 21) rfl rfl Try.func35 zK rfl #[.agg #[.int .i64 a0_0, .slice A0_1 l0_1.length c0_1]] rfl zM ?_; (with_reducible refine (dag_Trim.calls kj1 a0_0 _ _ l0_1 t581 t582 t585 t588 _ ?side1 ?side2 A14.out).mono ?_); (case side1 => repeat (first | exact (Kd.C_below HR0_1.out HB.out) | (with_reducible refine Kd.C_alloc ?_ _) | (with_reducible refine Kd.C_drewN ?_ _) | (with_reducible refine Kd.C_drew ?_))); (case side2 => exact HC0_1.out); rintro e w18 ⟨v583, v586, rfl, ho0, ho1, hb⟩; refine ⟨_, rfl, ?_⟩; have n0_ := Aside0.mk (Kd.R_lower ho0 (below_size zB)); have n1_ := Aside0.mk (Kd.R_lower ho1 (below_size zB)); have n2_ := Aside0.mk (blk_below (g := gb577) (o := .cells #[.int .i64 a0_0, .slice A0_1 l0_1.length c0_1] 24 (0, 0)) (zk BK577) hb); have n3_ := Aside0.mk (below_step zB hb); clear BK577; clear HB; have HO584 := n0_; have HO587 := n1_; have BK577 := n2_; have HB := n3_; clear n0_ n1_ n2_ n3_; (try clear hb); (try clear hb2); (try clear hk); (try clear hi); (try clear ho0); (try clear ho1)) | ((with_reducible refine gate_dst (N := 3) rfl ?_); (try (refine gate_guard (by rfl) ?_; dsimp only)); refine box_event ?hg (N := 3) ?hd (cs := #[.int .i64 0, .slice none 0 0]) (t := 24) ?hr ?_; (case hd => rfl); (case hg => rfl); (case hr => first | (go_simp; done) | (go_simp; rfl)); intro gb589 hg w19 hbox hb; have n0_ := Aside0.mk (Kd.R_below (zR HO584) hb); have n1_ := Aside0.mk (Kd.R_below (zR HO587) hb); have n2_ := Aside0.mk (blk_below (g := gb577) (o := .cells #[.int .i64 a0_0, .slice A0_1 l0_1.length c0_1] 24 (0, 0)) (zk BK577) hb); have n3_ := Aside0.mk (below_step zB hb); have n4_ := Aside0.mk (hbox); have n5_ := Aside0.mk ((by rw [hg]; exact (below_size zB) : w.heap.size ≤ gb589)); have n6_ := Aside0.mk ((by rw [hg]; exact (below_size zB) : w.heap.size ≤ gb589)); have n7_ := Aside0.mk ((by rw [hg]; exact Nat.ne_of_lt (blk_lt (g := gb577) (o := .cells #[.int .i64 a0_0, .slice A0_1 l0_1.length c0_1] 24 (0, 0)) (zk BK577)) : gb577 ≠ gb589)); have n8_ := Aside0.mk ((by rw [hg]; exact Nat.ne_of_gt (blk_lt (g := gb577) (o := .cells #[.int .i64 a0_0, .slice A0_1 l0_1.length c0_1] 24 (0, 0)) (zk BK577)) : gb589 ≠ gb577)); clear HO584; clear HO587; clear BK577; clear HB; have HO584 := n0_; have HO587 := n1_; have BK577 := n2_; have HB := n3_; have BK589 := n4_; have GW589 := n5_; have GE589 := n6_; have NB577_589 := n7_; have NB589_577 := n8_; clear n0_ n1_ n2_ n3_ n4_ n5_ n6_ n7_ n8_; clear hb hbox hg; have hnb20 := NB589_577.out; have hnc20 := NB577_589.out; have hcz21_0 : w19.cell? ⟨gb589, 0, none⟩ = some (.int .i64 0) := (blk_cell BK589.out 0).trans rfl; have hcz21_1 : w19.cell? ⟨gb589, 1, none⟩ = some (.slice none 0 0) := (blk_cell BK589.out 1).trans rfl; have hfz21_0 := blk_frozen BK589.out 0; have hfz21_1 := blk_frozen BK589.out 1; obtain ⟨Ao22, co22, eo22⟩ := Kd.R_slice HO584.out; subst eo22; have hcz23_0 : w19.cell? ⟨gb577, 0, none⟩ = some (.int .i64 a0_0) := (blk_cell BK577.out 0).trans rfl; have hcz23_1 : w19.cell? ⟨gb577, 1, none⟩ = some (.slice A0_1 l0_1.length c0_1) := (blk_cell BK577.out 1).trans rfl; have hfz23_0 := blk_frozen BK577.out 0; have hfz23_1 := blk_frozen BK577.out 1) | ((with_reducible refine gate_callee (f := 36) rfl ?_); refine goesL_ (some 27) rfl rfl Try.func36 zK rfl #[.agg #[.int .i64 a0_0, .slice A0_1 l0_1.length c0_1]] rfl zM ?_; (with_reducible refine (ancepsref09_Trim.calls kj1 a0_0 _ _ l0_1 t590 t591 t594 t597 _ ?side1 ?side2 A15.out).mono ?_); (case side1 => exact Kd.C_below HR0_1.out zB); (case side2 => exact HC0_1.out); rintro e w24 ⟨v592, v595, rfl, ho0, ho1, hb⟩; refine ⟨_, rfl, ?_⟩; have n0_ := Aside0.mk (Kd.R_elder' (by (with_reducible repeat (first | apply Kd.R_alloc | apply Kd.R_drewN | apply Kd.R_drew)); exact (Kd.R_mono (Kd.R_far (p := ⟨gb589, 1, none⟩) (Kd.R_far (p := ⟨gb589, 0, none⟩) (Kd.R_types HO584.out BK589.out (by decide)) (fun _ hk => hk.2) (.int .i64 t581)) (fun _ hk => hk.2) (.slice Ao22 t582.length co22)) (fun _ h_ => h_.1))) (Kd.R_base ho0) hb); have n1_ := Aside0.mk (Kd.R_elder' (by (with_reducible repeat (first | apply Kd.R_alloc | apply Kd.R_drewN | apply Kd.R_drew)); exact (Kd.R_mono (Kd.R_far (p := ⟨gb589, 1, none⟩) (Kd.R_far (p := ⟨gb589, 0, none⟩) (Kd.R_types HO587.out BK589.out (by decide)) (fun _ hk => hk.2) (.int .i64 t581)) (fun _ hk => hk.2) (.slice Ao22 t582.length co22)) (fun _ h_ => h_.1))) (Kd.R_base ho1) hb); have n2_ := Aside0.mk (Kd.R_lower (Kd.R_new' ho0 (Kd.R_lt (by (with_reducible repeat (first | apply Kd.R_alloc | apply Kd.R_drewN | apply Kd.R_drew)); exact (Kd.R_mono (Kd.R_far (p := ⟨gb589, 1, none⟩) (Kd.R_far (p := ⟨gb589, 0, none⟩) (Kd.R_types HO584.out BK589.out (by decide)) (fun _ hk => hk.2) (.int .i64 t581)) (fun _ hk => hk.2) (.slice Ao22 t582.length co22)) (fun _ h_ => h_.1))))) (below_size zB)); have n3_ := Aside0.mk (Kd.R_lower (Kd.R_new' ho1 (Kd.R_lt (by (with_reducible repeat (first | apply Kd.R_alloc | apply Kd.R_drewN | apply Kd.R_drew)); exact (Kd.R_mono (Kd.R_far (p := ⟨gb589, 1, none⟩) (Kd.R_far (p := ⟨gb589, 0, none⟩) (Kd.R_types HO587.out BK589.out (by decide)) (fun _ hk => hk.2) (.int .i64 t581)) (fun _ hk => hk.2) (.slice Ao22 t582.length co22)) (fun _ h_ => h_.1))))) (below_size zB)); have n4_ := Aside0.mk (blk_below (g := gb577) (o := .cells #[.int .i64 a0_0, .slice A0_1 l0_1.length c0_1] 24 (0, 0)) (by (with_reducible repeat (first | refine blk_drewN ?_ _ | refine blk_drew ?_ | refine blk_alloc ?_ _)); refine blk_far ?_ NB577_589.out _; (with_reducible repeat (first | refine blk_drewN ?_ _ | refine blk_drew ?_ | refine blk_alloc ?_ _)); refine blk_far ?_ NB577_589.out _; (with_reducible repeat (first | refine blk_drewN ?_ _ | refine blk_drew ?_ | refine blk_alloc ?_ _)); exact BK577.out) hb); have n5_ := Aside0.mk (blk_below (g := gb589) (o := .cells #[.int .i64 t581, .slice Ao22 t582.length co22] 24 (0, 0)) (by (with_reducible repeat (first | refine blk_drewN ?_ _ | refine blk_drew ?_ | refine blk_alloc ?_ _)); refine blk_put (cs := #[.int .i64 t581, .slice none 0 0]) ?_ 1 _ rfl; (with_reducible repeat (first | refine blk_drewN ?_ _ | refine blk_drew ?_ | refine blk_alloc ?_ _)); refine blk_put (cs := #[.int .i64 0, .slice none 0 0]) ?_ 0 _ rfl; (with_reducible repeat (first | refine blk_drewN ?_ _ | refine blk_drew ?_ | refine blk_alloc ?_ _)); exact BK589.out) hb); have n6_ := Aside0.mk (below_step zB hb); clear HO584; clear HO587; clear BK577; clear BK589; clear HB; have HO584 := n0_; have HO587 := n1_; have HO593 := n2_; have HO596 := n3_; have BK577 := n4_; have BK589 := n5_; have HB := n6_; clear n0_ n1_ n2_ n3_ n4_ n5_ n6_; (try clear hb); (try clear hb2); (try clear hk); (try clear hi); (try clear ho0); (try clear ho1)) | ((with_reducible refine gate_dst (N := 6) rfl ?_); (try (refine gate_guard (by rfl) ?_; dsimp only)); refine box_event ?hg (N := 6) ?hd (cs := #[.int .i64 0, .slice none 0 0]) (t := 24) ?hr ?_; (case hd => rfl); (case hg => rfl); (case hr => first | (go_simp; done) | (go_simp; rfl)); intro gb598 hg w25 hbox hb; have n0_ := Aside0.mk (Kd.R_below (zR HO584) hb); have n1_ := Aside0.mk (Kd.R_below (zR HO587) hb); have n2_ := Aside0.mk (Kd.R_below (zR HO593) hb); have n3_ := Aside0.mk (Kd.R_below (zR HO596) hb); have n4_ := Aside0.mk (blk_below (g := gb577) (o := .cells #[.int .i64 a0_0, .slice A0_1 l0_1.length c0_1] 24 (0, 0)) (zk BK577) hb); have n5_ := Aside0.mk (blk_below (g := gb589) (o := .cells #[.int .i64 t581, .slice Ao22 t582.length co22] 24 (0, 0)) (zk BK589) hb); have n6_ := Aside0.mk (below_step zB hb); have n7_ := Aside0.mk (hbox); have n8_ := Aside0.mk ((by rw [hg]; exact (below_size zB) : w.heap.size ≤ gb598)); have n9_ := Aside0.mk ((by rw [hg]; exact (below_size zB) : w.heap.size ≤ gb598)); have n10_ := Aside0.mk ((by rw [hg]; exact Nat.ne_of_lt (blk_lt (g := gb577) (o := .cells #[.int .i64 a0_0, .slice A0_1 l0_1.length c0_1] 24 (0, 0)) (zk BK577)) : gb577 ≠ gb598)); have n11_ := Aside0.mk ((by rw [hg]; exact Nat.ne_of_gt (blk_lt (g := gb577) (o := .cells #[.int .i64 a0_0, .slice A0_1 l0_1.length c0_1] 24 (0, 0)) (zk BK577)) : gb598 ≠ gb577)); have n12_ := Aside0.mk ((by rw [hg]; exact Nat.ne_of_lt (blk_lt (g := gb589) (o := .cells #[.int .i64 t581, .slice Ao22 t582.length co22] 24 (0, 0)) (zk BK589)) : gb589 ≠ gb598)); have n13_ := Aside0.mk ((by rw [hg]; exact Nat.ne_of_gt (blk_lt (g := gb589) (o := .cells #[.int .i64 t581, .slice Ao22 t582.length co22] 24 (0, 0)) (zk BK589)) : gb598 ≠ gb589)); clear HO584; clear HO587; clear HO593; clear HO596; clear BK577; clear BK589; clear HB; have HO584 := n0_; have HO587 := n1_; have HO593 := n2_; have HO596 := n3_; have BK577 := n4_; have BK589 := n5_; have HB := n6_; have BK598 := n7_; have GW598 := n8_; have GE598 := n9_; have NB577_598 := n10_; have NB598_577 := n11_; have NB589_598 := n12_; have NB598_589 := n13_; clear n0_ n1_ n2_ n3_ n4_ n5_ n6_ n7_ n8_ n9_ n10_ n11_ n12_ n13_; clear hb hbox hg; have hnb26 := NB598_577.out; have hnc26 := NB577_598.out; have hnb27 := NB598_589.out; have hnc27 := NB589_598.out; have hcz28_0 : w25.cell? ⟨gb598, 0, none⟩ = some (.int .i64 0) := (blk_cell BK598.out 0).trans rfl; have hcz28_1 : w25.cell? ⟨gb598, 1, none⟩ = some (.slice none 0 0) := (blk_cell BK598.out 1).trans rfl; have hfz28_0 := blk_frozen BK598.out 0; have hfz28_1 := blk_frozen BK598.out 1; obtain ⟨Ao29, co29, eo29⟩ := Kd.R_slice HO593.out; subst eo29))
    (try simp only [Act.put, List.setIfInBounds_toArray, List.set_cons_zero, List.set_cons_succ])
    go_cut [49] (fun v49 wc => ∃ (kq : Nat) (x49_15 : Bool), v49 = .bool x49_15 ∧ Aside0 (ancepslaw09_DagTrim.j1 kq t585 t588 t594 t597 x49_15 t581 t582 t590 t591 = some r) ∧ Aside0 (kq ≤ kj1) ∧ Aside0 (Kd.R (Kd.int .i64) 3 wc w.heap.size (fun k_ => some k_ ≠ (v595 : Value).ownBlock) v586 t585) ∧ Aside0 (Kd.R (Kd.int .i64) 3 wc w.heap.size (fun k_ => some k_ ≠ (v586 : Value).ownBlock) v595 t594) ∧ Aside0 (Kd.R k69 69 wc w.heap.size (fun k_ => some k_ ≠ ((.slice Ao29 t591.length co29) : Value).ownBlock) (.slice Ao22 t582.length co22) t582) ∧ Aside0 (Kd.R k69 69 wc w.heap.size (fun k_ => some k_ ≠ ((.slice Ao22 t582.length co22) : Value).ownBlock) (.slice Ao29 t591.length co29) t591) ∧ Aside0 (wc.heap[gb577]? = some (.cells #[.int .i64 a0_0, (.slice A0_1 l0_1.length c0_1)] 24 (0, 0))) ∧ Aside0 (wc.heap[gb589]? = some (.cells #[.int .i64 t581, (.slice Ao22 t582.length co22)] 24 (0, 0))) ∧ Aside0 (wc.heap[gb598]? = some (.cells #[.int .i64 t590, (.slice Ao29 t591.length co29)] 24 (0, 0))) ∧ Aside0 (Below w.heap.size w wc))
    case first =>
     have H := HC16.out
     clear HC16
     by_cases c30 : t588 = t597
     ·rw [if_pos c30] at H
      have c30b0 : (t588 == t597) = true := beq_iff_eq.mpr c30
      have c30b1 : (t588 != t597) = false := bne_eq_false_iff_eq.mpr c30
      clear c30
      (first | rw [c30b0] | (simp only [i64_w, i32_w]; rw [c30b0]) | skip)
      (try rw [c30b1])
      replace H := Option.bind_eq_some_iff.mp H
      obtain ⟨t599, A310, H⟩ := H
      replace H : (if t599 = true then ((slices_Equal_int_int.f kj1 t585 t594).bind fun t600 => (if t600 = true then (ancepslaw09_DagTrim.j1 kj1 t585 t588 t594 t597 (t588 != 0) t581 t582 t590 t591) else (ancepslaw09_DagTrim.j1 kj1 t585 t588 t594 t597 true t581 t582 t590 t591))) else (ancepslaw09_DagTrim.j1 kj1 t585 t588 t594 t597 true t581 t582 t590 t591)) = some r := H
      have A31 := Aside0.mk A310
      clear A310
      by_cases c32 : t599 = true
      ·subst c32
       have H1 : ((slices_Equal_int_int.f kj1 t585 t594).bind fun t600 => (if t600 = true then (ancepslaw09_DagTrim.j1 kj1 t585 t588 t594 t597 (t588 != 0) t581 t582 t590 t591) else (ancepslaw09_DagTrim.j1 kj1 t585 t588 t594 t597 true t581 t582 t590 t591))) = some r := by rw [if_pos rfl] at H; exact H
       clear H
       have H := H1
       clear H1
       replace H := Option.bind_eq_some_iff.mp H
       obtain ⟨t600, A330, H⟩ := H
       replace H : (if t600 = true then (ancepslaw09_DagTrim.j1 kj1 t585 t588 t594 t597 (t588 != 0) t581 t582 t590 t591) else (ancepslaw09_DagTrim.j1 kj1 t585 t588 t594 t597 true t581 t582 t590 t591)) = some r := H
       have A33 := Aside0.mk A330
       clear A330
       by_cases c34 : t600 = true
       ·subst c34
        have H1 : (ancepslaw09_DagTrim.j1 kj1 t585 t588 t594 t597 (t588 != 0) t581 t582 t590 t591) = some r := by rw [if_pos rfl] at H; exact H
        clear H
        have H := H1
        clear H1
        have H' := Aside0.mk H
        clear H
        have hnb35 := NB589_577.out
        have hnc35 := NB577_589.out
        have hnb36 := NB589_598.out
        have hnc36 := NB598_589.out
        have hcz37_0 : w25.cell? ⟨gb589, 0, none⟩ = some (.int .i64 t581) := (blk_cell BK589.out 0).trans rfl
        have hcz37_1 : w25.cell? ⟨gb589, 1, none⟩ = some (.slice Ao22 t582.length co22) := (blk_cell BK589.out 1).trans rfl
        have hfz37_0 := blk_frozen BK589.out 0
        have hfz37_1 := blk_frozen BK589.out 1
        have hnb38 := NB598_577.out
        have hnc38 := NB577_598.out
        have hcz39_0 : w25.cell? ⟨gb598, 0, none⟩ = some (.int .i64 0) := (blk_cell BK598.out 0).trans rfl
        have hcz39_1 : w25.cell? ⟨gb598, 1, none⟩ = some (.slice none 0 0) := (blk_cell BK598.out 1).trans rfl
        have hfz39_0 := blk_frozen BK598.out 0
        have hfz39_1 := blk_frozen BK598.out 1
        go_wp2_with (first | (go_at_call 29; (with_reducible refine (ancepsref09_Same.calls kj1 t581 _ _ t582 t590 _ _ t591 true _ ?side1 ?side2 ?side3 ?side4 A31.out).mono ?_); (case side1 => refine (Kd.R_reads' (e := 69) (base := w.heap.size) (ok := fun k_ => (True ∧ some k_ ≠ (.slice Ao29 t591.length co29 : Value).ownBlock)) (n := t582.length) (c := co22) ?_).2.2; exact (by (with_reducible repeat (first | apply Kd.R_alloc | apply Kd.R_drewN | apply Kd.R_drew)); exact (Kd.R_mono (Kd.R_far (p := ⟨gb598, 1, none⟩) (Kd.R_far (p := ⟨gb598, 0, none⟩) (Kd.R_types HO584.out BK598.out (by decide)) (fun _ hk => hk.2) (.int .i64 t590)) (fun _ hk => hk.2) (.slice Ao29 t591.length co29)) (fun _ h_ => h_.1)))); (case side2 => exact (Kd.R_reads' HO584.out).2.1); (case side3 => refine (Kd.R_reads' (e := 69) (base := w.heap.size) (ok := fun k_ => (True ∧ some k_ ≠ (.slice Ao22 t582.length co22 : Value).ownBlock)) (n := t591.length) (c := co29) ?_).2.2; exact (by (with_reducible repeat (first | apply Kd.R_alloc | apply Kd.R_drewN | apply Kd.R_drew)); exact (Kd.R_mono (Kd.R_far (p := ⟨gb598, 1, none⟩) (Kd.R_far (p := ⟨gb598, 0, none⟩) (Kd.R_types HO593.out BK598.out (by decide)) (fun _ hk => hk.2) (.int .i64 t590)) (fun _ hk => hk.2) (.slice Ao29 t591.length co29)) (fun _ h_ => h_.1)))); (case side4 => exact (Kd.R_reads' HO593.out).2.1); rintro e w40 ⟨rfl, hb⟩; have n0_ := Aside0.mk (Kd.R_below (by (with_reducible repeat (first | apply Kd.R_alloc | apply Kd.R_drewN | apply Kd.R_drew)); exact (Kd.R_mono (Kd.R_far (p := ⟨gb598, 1, none⟩) (Kd.R_far (p := ⟨gb598, 0, none⟩) (Kd.R_types HO584.out BK598.out (by decide)) (fun _ hk => hk.2) (.int .i64 t590)) (fun _ hk => hk.2) (.slice Ao29 t591.length co29)) (fun _ h_ => h_.1))) hb); have n1_ := Aside0.mk (Kd.R_below (by (with_reducible repeat (first | apply Kd.R_alloc | apply Kd.R_drewN | apply Kd.R_drew)); exact (Kd.R_mono (Kd.R_far (p := ⟨gb598, 1, none⟩) (Kd.R_far (p := ⟨gb598, 0, none⟩) (Kd.R_types HO587.out BK598.out (by decide)) (fun _ hk => hk.2) (.int .i64 t590)) (fun _ hk => hk.2) (.slice Ao29 t591.length co29)) (fun _ h_ => h_.1))) hb); have n2_ := Aside0.mk (Kd.R_below (by (with_reducible repeat (first | apply Kd.R_alloc | apply Kd.R_drewN | apply Kd.R_drew)); exact (Kd.R_mono (Kd.R_far (p := ⟨gb598, 1, none⟩) (Kd.R_far (p := ⟨gb598, 0, none⟩) (Kd.R_types HO593.out BK598.out (by decide)) (fun _ hk => hk.2) (.int .i64 t590)) (fun _ hk => hk.2) (.slice Ao29 t591.length co29)) (fun _ h_ => h_.1))) hb); have n3_ := Aside0.mk (Kd.R_below (by (with_reducible repeat (first | apply Kd.R_alloc | apply Kd.R_drewN | apply Kd.R_drew)); exact (Kd.R_mono (Kd.R_far (p := ⟨gb598, 1, none⟩) (Kd.R_far (p := ⟨gb598, 0, none⟩) (Kd.R_types HO596.out BK598.out (by decide)) (fun _ hk => hk.2) (.int .i64 t590)) (fun _ hk => hk.2) (.slice Ao29 t591.length co29)) (fun _ h_ => h_.1))) hb); have n4_ := Aside0.mk (blk_below (g := gb577) (o := .cells #[.int .i64 a0_0, .slice A0_1 l0_1.length c0_1] 24 (0, 0)) (by (with_reducible repeat (first | refine blk_drewN ?_ _ | refine blk_drew ?_ | refine blk_alloc ?_ _)); refine blk_far ?_ NB577_598.out _; (with_reducible repeat (first | refine blk_drewN ?_ _ | refine blk_drew ?_ | refine blk_alloc ?_ _)); refine blk_far ?_ NB577_598.out _; (with_reducible repeat (first | refine blk_drewN ?_ _ | refine blk_drew ?_ | refine blk_alloc ?_ _)); exact BK577.out) hb); have n5_ := Aside0.mk (blk_below (g := gb589) (o := .cells #[.int .i64 t581, .slice Ao22 t582.length co22] 24 (0, 0)) (by (with_reducible repeat (first | refine blk_drewN ?_ _ | refine blk_drew ?_ | refine blk_alloc ?_ _)); refine blk_far ?_ NB589_598.out _; (with_reducible repeat (first | refine blk_drewN ?_ _ | refine blk_drew ?_ | refine blk_alloc ?_ _)); refine blk_far ?_ NB589_598.out _; (with_reducible repeat (first | refine blk_drewN ?_ _ | refine blk_drew ?_ | refine blk_alloc ?_ _)); exact BK589.out) hb); have n6_ := Aside0.mk (blk_below (g := gb598) (o := .cells #[.int .i64 t590, .slice Ao29 t591.length co29] 24 (0, 0)) (by (with_reducible repeat (first | refine blk_drewN ?_ _ | refine blk_drew ?_ | refine blk_alloc ?_ _)); refine blk_put (cs := #[.int .i64 t590, .slice none 0 0]) ?_ 1 _ rfl; (with_reducible repeat (first | refine blk_drewN ?_ _ | refine blk_drew ?_ | refine blk_alloc ?_ _)); refine blk_put (cs := #[.int .i64 0, .slice none 0 0]) ?_ 0 _ rfl; (with_reducible repeat (first | refine blk_drewN ?_ _ | refine blk_drew ?_ | refine blk_alloc ?_ _)); exact BK598.out) hb); have n7_ := Aside0.mk (below_step zB hb); clear HO584; clear HO587; clear HO593; clear HO596; clear BK577; clear BK589; clear BK598; clear HB; have HO584 := n0_; have HO587 := n1_; have HO593 := n2_; have HO596 := n3_; have BK577 := n4_; have BK589 := n5_; have BK598 := n6_; have HB := n7_; clear n0_ n1_ n2_ n3_ n4_ n5_ n6_ n7_; (try clear hb); (try clear hb2); (try clear hk); (try clear hi); obtain ⟨Ao41, co41, eo41⟩ := Kd.R_slice HO587.out; subst eo41; obtain ⟨Ao42, co42, eo42⟩ := Kd.R_slice HO596.out; subst eo42) | (go_at_call 32; (with_reducible refine (slices_Equal_int_int.calls kj1 _ _ t585 _ _ t594 true _ ?side1 ?side2 ?side3 ?side4 A33.out).mono ?_); (case side1 => repeat (first | exact (Kd.R_reads' HO587.out).2.2 | (with_reducible refine Kd.C_alloc ?_ _) | (with_reducible refine Kd.C_drewN ?_ _) | (with_reducible refine Kd.C_drew ?_))); (case side2 => exact (Kd.R_reads' HO587.out).2.1); (case side3 => repeat (first | exact (Kd.R_reads' HO596.out).2.2 | (with_reducible refine Kd.C_alloc ?_ _) | (with_reducible refine Kd.C_drewN ?_ _) | (with_reducible refine Kd.C_drew ?_))); (case side4 => exact (Kd.R_reads' HO596.out).2.1); rintro e w' ⟨rfl, ⟨nd, rfl⟩⟩))
        go_meet
        case rel => exact ⟨_, ((t588 != 0)), zT, H', ⟨by have := HJ1.out; first | omega | exact Nat.le_refl _⟩, ⟨by (with_reducible repeat (first | apply Kd.R_alloc | apply Kd.R_drewN | apply Kd.R_drew)); exact Kd.R_mono HO587.out (fun _ hk => hk.2)⟩, ⟨by (with_reducible repeat (first | apply Kd.R_alloc | apply Kd.R_drewN | apply Kd.R_drew)); exact Kd.R_mono HO596.out (fun _ hk => hk.2)⟩, ⟨by (with_reducible repeat (first | apply Kd.R_alloc | apply Kd.R_drewN | apply Kd.R_drew)); exact Kd.R_mono HO584.out (fun _ hk => hk.2)⟩, ⟨by (with_reducible repeat (first | apply Kd.R_alloc | apply Kd.R_drewN | apply Kd.R_drew)); exact Kd.R_mono HO593.out (fun _ hk => hk.2)⟩, ⟨by (with_reducible repeat (first | refine blk_drewN ?_ _ | refine blk_drew ?_ | refine blk_alloc ?_ _)); exact BK577.out⟩, ⟨by (with_reducible repeat (first | refine blk_drewN ?_ _ | refine blk_drew ?_ | refine blk_alloc ?_ _)); exact BK589.out⟩, ⟨by (with_reducible repeat (first | refine blk_drewN ?_ _ | refine blk_drew ?_ | refine blk_alloc ?_ _)); exact BK598.out⟩, ⟨by repeat (first | (with_reducible first | exact HB.out | apply below_alloc | apply pw_below_drewN | apply below_drew1 | refine below_set ?_ GE577.out | refine below_set ?_ GE589.out | refine below_set ?_ GE598.out) | exact HB.out)⟩⟩
       ·replace c34 := Bool.eq_false_iff.mpr c34
        subst c34
        have H1 : (ancepslaw09_DagTrim.j1 kj1 t585 t588 t594 t597 true t581 t582 t590 t591) = some r := by rw [if_neg (show ¬ (false = true) by decide)] at H; exact H
        clear H
        have H := H1
        clear H1
        have H' := Aside0.mk H
        clear H
        have hnb43 := NB589_577.out
        have hnc43 := NB577_589.out
        have hnb44 := NB589_598.out
        have hnc44 := NB598_589.out
        have hcz45_0 : w25.cell? ⟨gb589, 0, none⟩ = some (.int .i64 t581) := (blk_cell BK589.out 0).trans rfl
        have hcz45_1 : w25.cell? ⟨gb589, 1, none⟩ = some (.slice Ao22 t582.length co22) := (blk_cell BK589.out 1).trans rfl
        have hfz45_0 := blk_frozen BK589.out 0
        have hfz45_1 := blk_frozen BK589.out 1
        have hnb46 := NB598_577.out
        have hnc46 := NB577_598.out
        have hcz47_0 : w25.cell? ⟨gb598, 0, none⟩ = some (.int .i64 0) := (blk_cell BK598.out 0).trans rfl
        have hcz47_1 : w25.cell? ⟨gb598, 1, none⟩ = some (.slice none 0 0) := (blk_cell BK598.out 1).trans rfl
        have hfz47_0 := blk_frozen BK598.out 0
        have hfz47_1 := blk_frozen BK598.out 1
        go_wp2_with (first | (go_at_call 29; (with_reducible refine (ancepsref09_Same.calls kj1 t581 _ _ t582 t590 _ _ t591 true _ ?side1 ?side2 ?side3 ?side4 A31.out).mono ?_); (case side1 => refine (Kd.R_reads' (e := 69) (base := w.heap.size) (ok := fun k_ => (True ∧ some k_ ≠ (.slice Ao29 t591.length co29 : Value).ownBlock)) (n := t582.length) (c := co22) ?_).2.2; exact (by (with_reducible repeat (first | apply Kd.R_alloc | apply Kd.R_drewN | apply Kd.R_drew)); exact (Kd.R_mono (Kd.R_far (p := ⟨gb598, 1, none⟩) (Kd.R_far (p := ⟨gb598, 0, none⟩) (Kd.R_types HO584.out BK598.out (by decide)) (fun _ hk => hk.2) (.int .i64 t590)) (fun _ hk => hk.2) (.slice Ao29 t591.length co29)) (fun _ h_ => h_.1)))); (case side2 => exact (Kd.R_reads' HO584.out).2.1); (case side3 => refine (Kd.R_reads' (e := 69) (base := w.heap.size) (ok := fun k_ => (True ∧ some k_ ≠ (.slice Ao22 t582.length co22 : Value).ownBlock)) (n := t591.length) (c := co29) ?_).2.2; exact (by (with_reducible repeat (first | apply Kd.R_alloc | apply Kd.R_drewN | apply Kd.R_drew)); exact (Kd.R_mono (Kd.R_far (p := ⟨gb598, 1, none⟩) (Kd.R_far (p := ⟨gb598, 0, none⟩) (Kd.R_types HO593.out BK598.out (by decide)) (fun _ hk => hk.2) (.int .i64 t590)) (fun _ hk => hk.2) (.slice Ao29 t591.length co29)) (fun _ h_ => h_.1)))); (case side4 => exact (Kd.R_reads' HO593.out).2.1); rintro e w48 ⟨rfl, hb⟩; have n0_ := Aside0.mk (Kd.R_below (by (with_reducible repeat (first | apply Kd.R_alloc | apply Kd.R_drewN | apply Kd.R_drew)); exact (Kd.R_mono (Kd.R_far (p := ⟨gb598, 1, none⟩) (Kd.R_far (p := ⟨gb598, 0, none⟩) (Kd.R_types HO584.out BK598.out (by decide)) (fun _ hk => hk.2) (.int .i64 t590)) (fun _ hk => hk.2) (.slice Ao29 t591.length co29)) (fun _ h_ => h_.1))) hb); have n1_ := Aside0.mk (Kd.R_below (by (with_reducible repeat (first | apply Kd.R_alloc | apply Kd.R_drewN | apply Kd.R_drew)); exact (Kd.R_mono (Kd.R_far (p := ⟨gb598, 1, none⟩) (Kd.R_far (p := ⟨gb598, 0, none⟩) (Kd.R_types HO587.out BK598.out (by decide)) (fun _ hk => hk.2) (.int .i64 t590)) (fun _ hk => hk.2) (.slice Ao29 t591.length co29)) (fun _ h_ => h_.1))) hb); have n2_ := Aside0.mk (Kd.R_below (by (with_reducible repeat (first | apply Kd.R_alloc | apply Kd.R_drewN | apply Kd.R_drew)); exact (Kd.R_mono (Kd.R_far (p := ⟨gb598, 1, none⟩) (Kd.R_far (p := ⟨gb598, 0, none⟩) (Kd.R_types HO593.out BK598.out (by decide)) (fun _ hk => hk.2) (.int .i64 t590)) (fun _ hk => hk.2) (.slice Ao29 t591.length co29)) (fun _ h_ => h_.1))) hb); have n3_ := Aside0.mk (Kd.R_below (by (with_reducible repeat (first | apply Kd.R_alloc | apply Kd.R_drewN | apply Kd.R_drew)); exact (Kd.R_mono (Kd.R_far (p := ⟨gb598, 1, none⟩) (Kd.R_far (p := ⟨gb598, 0, none⟩) (Kd.R_types HO596.out BK598.out (by decide)) (fun _ hk => hk.2) (.int .i64 t590)) (fun _ hk => hk.2) (.slice Ao29 t591.length co29)) (fun _ h_ => h_.1))) hb); have n4_ := Aside0.mk (blk_below (g := gb577) (o := .cells #[.int .i64 a0_0, .slice A0_1 l0_1.length c0_1] 24 (0, 0)) (by (with_reducible repeat (first | refine blk_drewN ?_ _ | refine blk_drew ?_ | refine blk_alloc ?_ _)); refine blk_far ?_ NB577_598.out _; (with_reducible repeat (first | refine blk_drewN ?_ _ | refine blk_drew ?_ | refine blk_alloc ?_ _)); refine blk_far ?_ NB577_598.out _; (with_reducible repeat (first | refine blk_drewN ?_ _ | refine blk_drew ?_ | refine blk_alloc ?_ _)); exact BK577.out) hb); have n5_ := Aside0.mk (blk_below (g := gb589) (o := .cells #[.int .i64 t581, .slice Ao22 t582.length co22] 24 (0, 0)) (by (with_reducible repeat (first | refine blk_drewN ?_ _ | refine blk_drew ?_ | refine blk_alloc ?_ _)); refine blk_far ?_ NB589_598.out _; (with_reducible repeat (first | refine blk_drewN ?_ _ | refine blk_drew ?_ | refine blk_alloc ?_ _)); refine blk_far ?_ NB589_598.out _; (with_reducible repeat (first | refine blk_drewN ?_ _ | refine blk_drew ?_ | refine blk_alloc ?_ _)); exact BK589.out) hb); have n6_ := Aside0.mk (blk_below (g := gb598) (o := .cells #[.int .i64 t590, .slice Ao29 t591.length co29] 24 (0, 0)) (by (with_reducible repeat (first | refine blk_drewN ?_ _ | refine blk_drew ?_ | refine blk_alloc ?_ _)); refine blk_put (cs := #[.int .i64 t590, .slice none 0 0]) ?_ 1 _ rfl; (with_reducible repeat (first | refine blk_drewN ?_ _ | refine blk_drew ?_ | refine blk_alloc ?_ _)); refine blk_put (cs := #[.int .i64 0, .slice none 0 0]) ?_ 0 _ rfl; (with_reducible repeat (first | refine blk_drewN ?_ _ | refine blk_drew ?_ | refine blk_alloc ?_ _)); exact BK598.out) hb); have n7_ := Aside0.mk (below_step zB hb); clear HO584; clear HO587; clear HO593; clear HO596; clear BK577; clear BK589; clear BK598; clear HB; have HO584 := n0_; have HO587 := n1_; have HO593 := n2_; have HO596 := n3_; have BK577 := n4_; have BK589 := n5_; have BK598 := n6_; have HB := n7_; clear n0_ n1_ n2_ n3_ n4_ n5_ n6_ n7_; (try clear hb); (try clear hb2); (try clear hk); (try clear hi); obtain ⟨Ao49, co49, eo49⟩ := Kd.R_slice HO587.out; subst eo49; obtain ⟨Ao50, co50, eo50⟩ := Kd.R_slice HO596.out; subst eo50) | (go_at_call 32; (with_reducible refine (slices_Equal_int_int.calls kj1 _ _ t585 _ _ t594 false _ ?side1 ?side2 ?side3 ?side4 A33.out).mono ?_); (case side1 => repeat (first | exact (Kd.R_reads' HO587.out).2.2 | (with_reducible refine Kd.C_alloc ?_ _) | (with_reducible refine Kd.C_drewN ?_ _) | (with_reducible refine Kd.C_drew ?_))); (case side2 => exact (Kd.R_reads' HO587.out).2.1); (case side3 => repeat (first | exact (Kd.R_reads' HO596.out).2.2 | (with_reducible refine Kd.C_alloc ?_ _) | (with_reducible refine Kd.C_drewN ?_ _) | (with_reducible refine Kd.C_drew ?_))); (case side4 => exact (Kd.R_reads' HO596.out).2.1); rintro e w' ⟨rfl, ⟨nd, rfl⟩⟩))
        go_meet
        case rel => exact ⟨_, (true), zT, H', ⟨by have := HJ1.out; first | omega | exact Nat.le_refl _⟩, ⟨by (with_reducible repeat (first | apply Kd.R_alloc | apply Kd.R_drewN | apply Kd.R_drew)); exact Kd.R_mono HO587.out (fun _ hk => hk.2)⟩, ⟨by (with_reducible repeat (first | apply Kd.R_alloc | apply Kd.R_drewN | apply Kd.R_drew)); exact Kd.R_mono HO596.out (fun _ hk => hk.2)⟩, ⟨by (with_reducible repeat (first | apply Kd.R_alloc | apply Kd.R_drewN | apply Kd.R_drew)); exact Kd.R_mono HO584.out (fun _ hk => hk.2)⟩, ⟨by (with_reducible repeat (first | apply Kd.R_alloc | apply Kd.R_drewN | apply Kd.R_drew)); exact Kd.R_mono HO593.out (fun _ hk => hk.2)⟩, ⟨by (with_reducible repeat (first | refine blk_drewN ?_ _ | refine blk_drew ?_ | refine blk_alloc ?_ _)); exact BK577.out⟩, ⟨by (with_reducible repeat (first | refine blk_drewN ?_ _ | refine blk_drew ?_ | refine blk_alloc ?_ _)); exact BK589.out⟩, ⟨by (with_reducible repeat (first | refine blk_drewN ?_ _ | refine blk_drew ?_ | refine blk_alloc ?_ _)); exact BK598.out⟩, ⟨by repeat (first | (with_reducible first | exact HB.out | apply below_alloc | apply pw_below_drewN | apply below_drew1 | refine below_set ?_ GE577.out | refine below_set ?_ GE589.out | refine below_set ?_ GE598.out) | exact HB.out)⟩⟩
      ·replace c32 := Bool.eq_false_iff.mpr c32
       subst c32
       have H1 : (ancepslaw09_DagTrim.j1 kj1 t585 t588 t594 t597 true t581 t582 t590 t591) = some r := by rw [if_neg (show ¬ (false = true) by decide)] at H; exact H
       clear H
       have H := H1
       clear H1
       have H' := Aside0.mk H
       clear H
       have hnb51 := NB589_577.out
       have hnc51 := NB577_589.out
       have hnb52 := NB589_598.out
       have hnc52 := NB598_589.out
       have hcz53_0 : w25.cell? ⟨gb589, 0, none⟩ = some (.int .i64 t581) := (blk_cell BK589.out 0).trans rfl
       have hcz53_1 : w25.cell? ⟨gb589, 1, none⟩ = some (.slice Ao22 t582.length co22) := (blk_cell BK589.out 1).trans rfl
       have hfz53_0 := blk_frozen BK589.out 0
       have hfz53_1 := blk_frozen BK589.out 1
       have hnb54 := NB598_577.out
       have hnc54 := NB577_598.out
       have hcz55_0 : w25.cell? ⟨gb598, 0, none⟩ = some (.int .i64 0) := (blk_cell BK598.out 0).trans rfl
       have hcz55_1 : w25.cell? ⟨gb598, 1, none⟩ = some (.slice none 0 0) := (blk_cell BK598.out 1).trans rfl
       have hfz55_0 := blk_frozen BK598.out 0
       have hfz55_1 := blk_frozen BK598.out 1
       go_wp2_with (first | (go_at_call 29; (with_reducible refine (ancepsref09_Same.calls kj1 t581 _ _ t582 t590 _ _ t591 false _ ?side1 ?side2 ?side3 ?side4 A31.out).mono ?_); (case side1 => refine (Kd.R_reads' (e := 69) (base := w.heap.size) (ok := fun k_ => (True ∧ some k_ ≠ (.slice Ao29 t591.length co29 : Value).ownBlock)) (n := t582.length) (c := co22) ?_).2.2; exact (by (with_reducible repeat (first | apply Kd.R_alloc | apply Kd.R_drewN | apply Kd.R_drew)); exact (Kd.R_mono (Kd.R_far (p := ⟨gb598, 1, none⟩) (Kd.R_far (p := ⟨gb598, 0, none⟩) (Kd.R_types HO584.out BK598.out (by decide)) (fun _ hk => hk.2) (.int .i64 t590)) (fun _ hk => hk.2) (.slice Ao29 t591.length co29)) (fun _ h_ => h_.1)))); (case side2 => exact (Kd.R_reads' HO584.out).2.1); (case side3 => refine (Kd.R_reads' (e := 69) (base := w.heap.size) (ok := fun k_ => (True ∧ some k_ ≠ (.slice Ao22 t582.length co22 : Value).ownBlock)) (n := t591.length) (c := co29) ?_).2.2; exact (by (with_reducible repeat (first | apply Kd.R_alloc | apply Kd.R_drewN | apply Kd.R_drew)); exact (Kd.R_mono (Kd.R_far (p := ⟨gb598, 1, none⟩) (Kd.R_far (p := ⟨gb598, 0, none⟩) (Kd.R_types HO593.out BK598.out (by decide)) (fun _ hk => hk.2) (.int .i64 t590)) (fun _ hk => hk.2) (.slice Ao29 t591.length co29)) (fun _ h_ => h_.1)))); (case side4 => exact (Kd.R_reads' HO593.out).2.1); rintro e w56 ⟨rfl, hb⟩; have n0_ := Aside0.mk (Kd.R_below (by (with_reducible repeat (first | apply Kd.R_alloc | apply Kd.R_drewN | apply Kd.R_drew)); exact (Kd.R_mono (Kd.R_far (p := ⟨gb598, 1, none⟩) (Kd.R_far (p := ⟨gb598, 0, none⟩) (Kd.R_types HO584.out BK598.out (by decide)) (fun _ hk => hk.2) (.int .i64 t590)) (fun _ hk => hk.2) (.slice Ao29 t591.length co29)) (fun _ h_ => h_.1))) hb); have n1_ := Aside0.mk (Kd.R_below (by (with_reducible repeat (first | apply Kd.R_alloc | apply Kd.R_drewN | apply Kd.R_drew)); exact (Kd.R_mono (Kd.R_far (p := ⟨gb598, 1, none⟩) (Kd.R_far (p := ⟨gb598, 0, none⟩) (Kd.R_types HO587.out BK598.out (by decide)) (fun _ hk => hk.2) (.int .i64 t590)) (fun _ hk => hk.2) (.slice Ao29 t591.length co29)) (fun _ h_ => h_.1))) hb); have n2_ := Aside0.mk (Kd.R_below (by (with_reducible repeat (first | apply Kd.R_alloc | apply Kd.R_drewN | apply Kd.R_drew)); exact (Kd.R_mono (Kd.R_far (p := ⟨gb598, 1, none⟩) (Kd.R_far (p := ⟨gb598, 0, none⟩) (Kd.R_types HO593.out BK598.out (by decide)) (fun _ hk => hk.2) (.int .i64 t590)) (fun _ hk => hk.2) (.slice Ao29 t591.length co29)) (fun _ h_ => h_.1))) hb); have n3_ := Aside0.mk (Kd.R_below (by (with_reducible repeat (first | apply Kd.R_alloc | apply Kd.R_drewN | apply Kd.R_drew)); exact (Kd.R_mono (Kd.R_far (p := ⟨gb598, 1, none⟩) (Kd.R_far (p := ⟨gb598, 0, none⟩) (Kd.R_types HO596.out BK598.out (by decide)) (fun _ hk => hk.2) (.int .i64 t590)) (fun _ hk => hk.2) (.slice Ao29 t591.length co29)) (fun _ h_ => h_.1))) hb); have n4_ := Aside0.mk (blk_below (g := gb577) (o := .cells #[.int .i64 a0_0, .slice A0_1 l0_1.length c0_1] 24 (0, 0)) (by (with_reducible repeat (first | refine blk_drewN ?_ _ | refine blk_drew ?_ | refine blk_alloc ?_ _)); refine blk_far ?_ NB577_598.out _; (with_reducible repeat (first | refine blk_drewN ?_ _ | refine blk_drew ?_ | refine blk_alloc ?_ _)); refine blk_far ?_ NB577_598.out _; (with_reducible repeat (first | refine blk_drewN ?_ _ | refine blk_drew ?_ | refine blk_alloc ?_ _)); exact BK577.out) hb); have n5_ := Aside0.mk (blk_below (g := gb589) (o := .cells #[.int .i64 t581, .slice Ao22 t582.length co22] 24 (0, 0)) (by (with_reducible repeat (first | refine blk_drewN ?_ _ | refine blk_drew ?_ | refine blk_alloc ?_ _)); refine blk_far ?_ NB589_598.out _; (with_reducible repeat (first | refine blk_drewN ?_ _ | refine blk_drew ?_ | refine blk_alloc ?_ _)); refine blk_far ?_ NB589_598.out _; (with_reducible repeat (first | refine blk_drewN ?_ _ | refine blk_drew ?_ | refine blk_alloc ?_ _)); exact BK589.out) hb); have n6_ := Aside0.mk (blk_below (g := gb598) (o := .cells #[.int .i64 t590, .slice Ao29 t591.length co29] 24 (0, 0)) (by (with_reducible repeat (first | refine blk_drewN ?_ _ | refine blk_drew ?_ | refine blk_alloc ?_ _)); refine blk_put (cs := #[.int .i64 t590, .slice none 0 0]) ?_ 1 _ rfl; (with_reducible repeat (first | refine blk_drewN ?_ _ | refine blk_drew ?_ | refine blk_alloc ?_ _)); refine blk_put (cs := #[.int .i64 0, .slice none 0 0]) ?_ 0 _ rfl; (with_reducible repeat (first | refine blk_drewN ?_ _ | refine blk_drew ?_ | refine blk_alloc ?_ _)); exact BK598.out) hb); have n7_ := Aside0.mk (below_step zB hb); clear HO584; clear HO587; clear HO593; clear HO596; clear BK577; clear BK589; clear BK598; clear HB; have HO584 := n0_; have HO587 := n1_; have HO593 := n2_; have HO596 := n3_; have BK577 := n4_; have BK589 := n5_; have BK598 := n6_; have HB := n7_; clear n0_ n1_ n2_ n3_ n4_ n5_ n6_ n7_; (try clear hb); (try clear hb2); (try clear hk); (try clear hi)))
       go_meet
       case rel => exact ⟨_, (true), zT, H', ⟨by have := HJ1.out; first | omega | exact Nat.le_refl _⟩, ⟨by (with_reducible repeat (first | apply Kd.R_alloc | apply Kd.R_drewN | apply Kd.R_drew)); exact Kd.R_mono HO587.out (fun _ hk => hk.2)⟩, ⟨by (with_reducible repeat (first | apply Kd.R_alloc | apply Kd.R_drewN | apply Kd.R_drew)); exact Kd.R_mono HO596.out (fun _ hk => hk.2)⟩, ⟨by (with_reducible repeat (first | apply Kd.R_alloc | apply Kd.R_drewN | apply Kd.R_drew)); exact Kd.R_mono HO584.out (fun _ hk => hk.2)⟩, ⟨by (with_reducible repeat (first | apply Kd.R_alloc | apply Kd.R_drewN | apply Kd.R_drew)); exact Kd.R_mono HO593.out (fun _ hk => hk.2)⟩, ⟨by (with_reducible repeat (first | refine blk_drewN ?_ _ | refine blk_drew ?_ | refine blk_alloc ?_ _)); exact BK577.out⟩, ⟨by (with_reducible repeat (first | refine blk_drewN ?_ _ | refine blk_drew ?_ | refine blk_alloc ?_ _)); exact BK589.out⟩, ⟨by (with_reducible repeat (first | refine blk_drewN ?_ _ | refine blk_drew ?_ | refine blk_alloc ?_ _)); exact BK598.out⟩, ⟨by repeat (first | (with_reducible first | exact HB.out | apply below_alloc | apply pw_below_drewN | apply below_drew1 | refine below_set ?_ GE577.out | refine below_set ?_ GE589.out | refine below_set ?_ GE598.out) | exact HB.out)⟩⟩
     ·rw [if_neg c30] at H
      have c30b0 : (t588 == t597) = false := beq_eq_false_iff_ne.mpr c30
      have c30b1 : (t588 != t597) = true := bne_iff_ne.mpr c30
      (first | rw [c30b0] | (simp only [i64_w, i32_w]; rw [c30b0]) | skip)
      (try rw [c30b1])
      have H' := Aside0.mk H
      clear H
      go_wp2
      go_meet
      case rel => exact ⟨_, (true), zT, H', ⟨by have := HJ1.out; first | omega | exact Nat.le_refl _⟩, ⟨by (with_reducible repeat (first | apply Kd.R_alloc | apply Kd.R_drewN | apply Kd.R_drew)); exact Kd.R_mono (Kd.R_far (p := ⟨gb598, 1, none⟩) (Kd.R_far (p := ⟨gb598, 0, none⟩) (Kd.R_types HO587.out BK598.out (by decide)) (fun _ hk => hk.2) (.int .i64 t590)) (fun _ hk => hk.2) (.slice Ao29 t591.length co29)) (fun _ hk => hk.1.2)⟩, ⟨by (with_reducible repeat (first | apply Kd.R_alloc | apply Kd.R_drewN | apply Kd.R_drew)); exact Kd.R_mono (Kd.R_far (p := ⟨gb598, 1, none⟩) (Kd.R_far (p := ⟨gb598, 0, none⟩) (Kd.R_types HO596.out BK598.out (by decide)) (fun _ hk => hk.2) (.int .i64 t590)) (fun _ hk => hk.2) (.slice Ao29 t591.length co29)) (fun _ hk => hk.1.2)⟩, ⟨by (with_reducible repeat (first | apply Kd.R_alloc | apply Kd.R_drewN | apply Kd.R_drew)); exact Kd.R_mono (Kd.R_far (p := ⟨gb598, 1, none⟩) (Kd.R_far (p := ⟨gb598, 0, none⟩) (Kd.R_types HO584.out BK598.out (by decide)) (fun _ hk => hk.2) (.int .i64 t590)) (fun _ hk => hk.2) (.slice Ao29 t591.length co29)) (fun _ hk => hk.1.2)⟩, ⟨by (with_reducible repeat (first | apply Kd.R_alloc | apply Kd.R_drewN | apply Kd.R_drew)); exact Kd.R_mono (Kd.R_far (p := ⟨gb598, 1, none⟩) (Kd.R_far (p := ⟨gb598, 0, none⟩) (Kd.R_types HO593.out BK598.out (by decide)) (fun _ hk => hk.2) (.int .i64 t590)) (fun _ hk => hk.2) (.slice Ao29 t591.length co29)) (fun _ hk => hk.1.2)⟩, ⟨by (with_reducible repeat (first | refine blk_drewN ?_ _ | refine blk_drew ?_ | refine blk_alloc ?_ _)); refine blk_far ?_ NB577_598.out _; (with_reducible repeat (first | refine blk_drewN ?_ _ | refine blk_drew ?_ | refine blk_alloc ?_ _)); refine blk_far ?_ NB577_598.out _; (with_reducible repeat (first | refine blk_drewN ?_ _ | refine blk_drew ?_ | refine blk_alloc ?_ _)); exact BK577.out⟩, ⟨by (with_reducible repeat (first | refine blk_drewN ?_ _ | refine blk_drew ?_ | refine blk_alloc ?_ _)); refine blk_far ?_ NB589_598.out _; (with_reducible repeat (first | refine blk_drewN ?_ _ | refine blk_drew ?_ | refine blk_alloc ?_ _)); refine blk_far ?_ NB589_598.out _; (with_reducible repeat (first | refine blk_drewN ?_ _ | refine blk_drew ?_ | refine blk_alloc ?_ _)); exact BK589.out⟩, ⟨by (with_reducible repeat (first | refine blk_drewN ?_ _ | refine blk_drew ?_ | refine blk_alloc ?_ _)); refine blk_put (cs := #[.int .i64 t590, .slice none 0 0]) ?_ 1 _ rfl; (with_reducible repeat (first | refine blk_drewN ?_ _ | refine blk_drew ?_ | refine blk_alloc ?_ _)); refine blk_put (cs := #[.int .i64 0, .slice none 0 0]) ?_ 0 _ rfl; (with_reducible repeat (first | refine blk_drewN ?_ _ | refine blk_drew ?_ | refine blk_alloc ?_ _)); exact BK598.out⟩, ⟨by repeat (first | (with_reducible first | exact HB.out | apply below_alloc | apply pw_below_drewN | apply below_drew1 | refine below_set ?_ GE577.out | refine below_set ?_ GE589.out | refine below_set ?_ GE598.out) | exact HB.out)⟩⟩
    case rest =>
     clear HC16
     try clear c1
     try clear c2
     try clear p2
     try clear c3
     try clear c4
     try clear c5
     try clear c9
     try clear c11
     try clear c13
     try clear c20
     try clear c26
     try clear c27
     try clear c30
     try clear c30b0
     try clear c30b1
     try clear c32
     try clear c34
     try clear c35
     try clear c36
     try clear c38
     try clear c43
     try clear c44
     try clear c46
     try clear c51
     try clear c52
     try clear c54
     try clear hcz17_0
     try clear hcz17_1
     try clear hcz21_0
     try clear hcz21_1
     try clear hcz23_0
     try clear hcz23_1
     try clear hcz28_0
     try clear hcz28_1
     try clear hcz37_0
     try clear hcz37_1
     try clear hcz39_0
     try clear hcz39_1
     try clear hcz45_0
     try clear hcz45_1
     try clear hcz47_0
     try clear hcz47_1
     try clear hcz53_0
     try clear hcz53_1
     try clear hcz55_0
     try clear hcz55_1
     try clear hcz8_0
     try clear hcz8_1
     try clear hfz17_0
     try clear hfz17_1
     try clear hfz21_0
     try clear hfz21_1
     try clear hfz23_0
     try clear hfz23_1
     try clear hfz28_0
     try clear hfz28_1
     try clear hfz37_0
     try clear hfz37_1
     try clear hfz39_0
     try clear hfz39_1
     try clear hfz45_0
     try clear hfz45_1
     try clear hfz47_0
     try clear hfz47_1
     try clear hfz53_0
     try clear hfz53_1
     try clear hfz55_0
     try clear hfz55_1
     try clear hfz8_0
     try clear hfz8_1
     try clear p2
     obtain ⟨kq, x49_15, rfl, HA, HJ15, HO_4, HO_7, HO_590001, HO_599001, BK577, BK589, BK598, HB⟩ := hcut
     cases kq with
     | zero => exact absurd HA.out (by simp [ancepslaw09_DagTrim.j1])
     | succ kj15 =>
      have H := HA.out
      clear HA
      simp only [ancepslaw09_DagTrim.j1] at H
      by_cases c57 : x49_15 = true
      ·subst c57
       have H1 : (if t588 = t597 then ((ancepsref09_Same.f kj15 t581 t582 t590 t591).bind fun t601 => (if t601 = true then ((slices_Equal_int_int.f kj15 t585 t594).bind fun t602 => (some t602)) else (some false))) else (some false)) = some r := by rw [if_pos rfl] at H; exact H
       clear H
       have H := H1
       clear H1
       by_cases c58 : t588 = t597
       ·rw [if_pos c58] at H
        have c58b0 : (t588 == t597) = true := beq_iff_eq.mpr c58
        have c58b1 : (t588 != t597) = false := bne_eq_false_iff_eq.mpr c58
        clear c58
        replace H := Option.bind_eq_some_iff.mp H
        obtain ⟨t601, A590, H⟩ := H
        replace H : (if t601 = true then ((slices_Equal_int_int.f kj15 t585 t594).bind fun t602 => (some t602)) else (some false)) = some r := H
        have A59 := Aside0.mk A590
        clear A590
        by_cases c60 : t601 = true
        ·subst c60
         have H1 : ((slices_Equal_int_int.f kj15 t585 t594).bind fun t602 => (some t602)) = some r := by rw [if_pos rfl] at H; exact H
         clear H
         have H := H1
         clear H1
         replace H := Option.bind_eq_some_iff.mp H
         obtain ⟨t602, A610, H⟩ := H
         replace H : (some t602) = some r := H
         have A61 := Aside0.mk A610
         clear A610
         obtain rfl := Option.some.inj H
         have hnb62 := NB589_577.out
         have hnc62 := NB577_589.out
         have hnb63 := NB589_598.out
         have hnc63 := NB598_589.out
         have hcz64_0 : wc.cell? ⟨gb589, 0, none⟩ = some (.int .i64 t581) := (blk_cell BK589.out 0).trans rfl
         have hcz64_1 : wc.cell? ⟨gb589, 1, none⟩ = some (.slice Ao22 t582.length co22) := (blk_cell BK589.out 1).trans rfl
         have hfz64_0 := blk_frozen BK589.out 0
         have hfz64_1 := blk_frozen BK589.out 1
         have hnb65 := NB598_577.out
         have hnc65 := NB577_598.out
         have hcz66_0 : wc.cell? ⟨gb598, 0, none⟩ = some (.int .i64 t590) := (blk_cell BK598.out 0).trans rfl
         have hcz66_1 : wc.cell? ⟨gb598, 1, none⟩ = some (.slice Ao29 t591.length co29) := (blk_cell BK598.out 1).trans rfl
         have hfz66_0 := blk_frozen BK598.out 0
         have hfz66_1 := blk_frozen BK598.out 1
         go_wp2_with (first | (go_at_call 29; (with_reducible refine (ancepsref09_Same.calls kj15 t581 _ _ t582 t590 _ _ t591 true _ ?side1 ?side2 ?side3 ?side4 A59.out).mono ?_); (case side1 => repeat (first | exact (Kd.R_reads' HO_590001.out).2.2 | (with_reducible refine Kd.C_alloc ?_ _) | (with_reducible refine Kd.C_drewN ?_ _) | (with_reducible refine Kd.C_drew ?_))); (case side2 => exact (Kd.R_reads' HO_590001.out).2.1); (case side3 => repeat (first | exact (Kd.R_reads' HO_599001.out).2.2 | (with_reducible refine Kd.C_alloc ?_ _) | (with_reducible refine Kd.C_drewN ?_ _) | (with_reducible refine Kd.C_drew ?_))); (case side4 => exact (Kd.R_reads' HO_599001.out).2.1); rintro e w67 ⟨rfl, hb⟩; have n0_ := Aside0.mk (Kd.R_below (zR HO_4) hb); have n1_ := Aside0.mk (Kd.R_below (zR HO_7) hb); have n2_ := Aside0.mk (Kd.R_below (zR HO_590001) hb); have n3_ := Aside0.mk (Kd.R_below (zR HO_599001) hb); have n4_ := Aside0.mk (blk_below (g := gb577) (o := .cells #[.int .i64 a0_0, .slice A0_1 l0_1.length c0_1] 24 (0, 0)) (zk BK577) hb); have n5_ := Aside0.mk (blk_below (g := gb589) (o := .cells #[.int .i64 t581, .slice Ao22 t582.length co22] 24 (0, 0)) (zk BK589) hb); have n6_ := Aside0.mk (blk_below (g := gb598) (o := .cells #[.int .i64 t590, .slice Ao29 t591.length co29] 24 (0, 0)) (zk BK598) hb); have n7_ := Aside0.mk (below_step zB hb); clear HO_4; clear HO_7; clear HO_590001; clear HO_599001; clear BK577; clear BK589; clear BK598; clear HB; have HO_4 := n0_; have HO_7 := n1_; have HO_590001 := n2_; have HO_599001 := n3_; have BK577 := n4_; have BK589 := n5_; have BK598 := n6_; have HB := n7_; clear n0_ n1_ n2_ n3_ n4_ n5_ n6_ n7_; (try clear hb); (try clear hb2); (try clear hk); (try clear hi); obtain ⟨Ao68, co68, eo68⟩ := Kd.R_slice HO_4.out; subst eo68; obtain ⟨Ao69, co69, eo69⟩ := Kd.R_slice HO_7.out; subst eo69) | (go_at_call 32; (with_reducible refine (slices_Equal_int_int.calls kj15 _ _ t585 _ _ t594 t602 _ ?side1 ?side2 ?side3 ?side4 A61.out).mono ?_); (case side1 => repeat (first | exact (Kd.R_reads' HO_4.out).2.2 | (with_reducible refine Kd.C_alloc ?_ _) | (with_reducible refine Kd.C_drewN ?_ _) | (with_reducible refine Kd.C_drew ?_))); (case side2 => exact (Kd.R_reads' HO_4.out).2.1); (case side3 => repeat (first | exact (Kd.R_reads' HO_7.out).2.2 | (with_reducible refine Kd.C_alloc ?_ _) | (with_reducible refine Kd.C_drewN ?_ _) | (with_reducible refine Kd.C_drew ?_))); (case side4 => exact (Kd.R_reads' HO_7.out).2.1); rintro e w' ⟨rfl, ⟨nd, rfl⟩⟩))
         go_ret
         exact ⟨by first | rfl | (simp [errW_none, errW_some] <;> rfl) | (simp [*, errW_none, errW_some] <;> rfl), by repeat (first | (with_reducible first | exact HB.out | apply below_alloc | apply pw_below_drewN | apply below_drew1 | refine below_set ?_ GE577.out | refine below_set ?_ GE589.out | refine below_set ?_ GE598.out) | exact HB.out)⟩
        ·replace c60 := Bool.eq_false_iff.mpr c60
         subst c60
         have H1 : (some false) = some r := by rw [if_neg (show ¬ (false = true) by decide)] at H; exact H
         clear H
         have H := H1
         clear H1
         obtain rfl := Option.some.inj H
         have hnb70 := NB589_577.out
         have hnc70 := NB577_589.out
         have hnb71 := NB589_598.out
         have hnc71 := NB598_589.out
         have hcz72_0 : wc.cell? ⟨gb589, 0, none⟩ = some (.int .i64 t581) := (blk_cell BK589.out 0).trans rfl
         have hcz72_1 : wc.cell? ⟨gb589, 1, none⟩ = some (.slice Ao22 t582.length co22) := (blk_cell BK589.out 1).trans rfl
         have hfz72_0 := blk_frozen BK589.out 0
         have hfz72_1 := blk_frozen BK589.out 1
         have hnb73 := NB598_577.out
         have hnc73 := NB577_598.out
         have hcz74_0 : wc.cell? ⟨gb598, 0, none⟩ = some (.int .i64 t590) := (blk_cell BK598.out 0).trans rfl
         have hcz74_1 : wc.cell? ⟨gb598, 1, none⟩ = some (.slice Ao29 t591.length co29) := (blk_cell BK598.out 1).trans rfl
         have hfz74_0 := blk_frozen BK598.out 0
         have hfz74_1 := blk_frozen BK598.out 1
         go_wp2_with (first | (go_at_call 29; (with_reducible refine (ancepsref09_Same.calls kj15 t581 _ _ t582 t590 _ _ t591 false _ ?side1 ?side2 ?side3 ?side4 A59.out).mono ?_); (case side1 => repeat (first | exact (Kd.R_reads' HO_590001.out).2.2 | (with_reducible refine Kd.C_alloc ?_ _) | (with_reducible refine Kd.C_drewN ?_ _) | (with_reducible refine Kd.C_drew ?_))); (case side2 => exact (Kd.R_reads' HO_590001.out).2.1); (case side3 => repeat (first | exact (Kd.R_reads' HO_599001.out).2.2 | (with_reducible refine Kd.C_alloc ?_ _) | (with_reducible refine Kd.C_drewN ?_ _) | (with_reducible refine Kd.C_drew ?_))); (case side4 => exact (Kd.R_reads' HO_599001.out).2.1); rintro e w75 ⟨rfl, hb⟩; have n0_ := Aside0.mk (Kd.R_below (zR HO_4) hb); have n1_ := Aside0.mk (Kd.R_below (zR HO_7) hb); have n2_ := Aside0.mk (Kd.R_below (zR HO_590001) hb); have n3_ := Aside0.mk (Kd.R_below (zR HO_599001) hb); have n4_ := Aside0.mk (blk_below (g := gb577) (o := .cells #[.int .i64 a0_0, .slice A0_1 l0_1.length c0_1] 24 (0, 0)) (zk BK577) hb); have n5_ := Aside0.mk (blk_below (g := gb589) (o := .cells #[.int .i64 t581, .slice Ao22 t582.length co22] 24 (0, 0)) (zk BK589) hb); have n6_ := Aside0.mk (blk_below (g := gb598) (o := .cells #[.int .i64 t590, .slice Ao29 t591.length co29] 24 (0, 0)) (zk BK598) hb); have n7_ := Aside0.mk (below_step zB hb); clear HO_4; clear HO_7; clear HO_590001; clear HO_599001; clear BK577; clear BK589; clear BK598; clear HB; have HO_4 := n0_; have HO_7 := n1_; have HO_590001 := n2_; have HO_599001 := n3_; have BK577 := n4_; have BK589 := n5_; have BK598 := n6_; have HB := n7_; clear n0_ n1_ n2_ n3_ n4_ n5_ n6_ n7_; (try clear hb); (try clear hb2); (try clear hk); (try clear hi)))
         go_ret
         exact ⟨by first | rfl | (simp [errW_none, errW_some] <;> rfl) | (simp [*, errW_none, errW_some] <;> rfl), by repeat (first | (with_reducible first | exact HB.out | apply below_alloc | apply pw_below_drewN | apply below_drew1 | refine below_set ?_ GE577.out | refine below_set ?_ GE589.out | refine below_set ?_ GE598.out) | exact HB.out)⟩
       ·rw [if_neg c58] at H
        have c58b0 : (t588 == t597) = false := beq_eq_false_iff_ne.mpr c58
        have c58b1 : (t588 != t597) = true := bne_iff_ne.mpr c58
        obtain rfl := Option.some.inj H
        go_wp2
        go_ret
        exact ⟨by first | rfl | (simp [errW_none, errW_some] <;> rfl) | (simp [*, errW_none, errW_some] <;> rfl), by repeat (first | (with_reducible first | exact HB.out | apply below_alloc | apply pw_below_drewN | apply below_drew1 | refine below_set ?_ GE577.out | refine below_set ?_ GE589.out | refine below_set ?_ GE598.out) | exact HB.out)⟩
      ·replace c57 := Bool.eq_false_iff.mpr c57
       subst c57
       have H1 : ((dag_Trim.f kj15 t581 t582).bind fun bt603 => (if bt603.2.2.2 = 0 then ((ancepsref09_Same.f kj15 bt603.1 bt603.2.1 t581 t582).bind fun t612 => (if t612 = true then (some ((bt603.2.2.1.length : Int) == t581)) else (some false))) else (some false))) = some r := by rw [if_neg (show ¬ (false = true) by decide)] at H; exact H
       clear H
       have H := H1
       clear H1
       replace H := Option.bind_eq_some_iff.mp H
       obtain ⟨⟨t603, t604, t607, t610⟩, A760, H⟩ := H
       replace H : (if t610 = 0 then ((ancepsref09_Same.f kj15 t603 t604 t581 t582).bind fun t612 => (if t612 = true then (some ((t607.length : Int) == t581)) else (some false))) else (some false)) = some r := H
       have A76 := Aside0.mk A760
       clear A760
       have HC77 := Aside0.mk H
       clear H
       have hnb78 := NB589_577.out
       have hnc78 := NB577_589.out
       have hnb79 := NB589_598.out
       have hnc79 := NB598_589.out
       have hcz80_0 : wc.cell? ⟨gb589, 0, none⟩ = some (.int .i64 t581) := (blk_cell BK589.out 0).trans rfl
       have hcz80_1 : wc.cell? ⟨gb589, 1, none⟩ = some (.slice Ao22 t582.length co22) := (blk_cell BK589.out 1).trans rfl
       have hfz80_0 := blk_frozen BK589.out 0
       have hfz80_1 := blk_frozen BK589.out 1
       go_upto_region 8 with (first | ((with_reducible refine gate_callee (f := 35) rfl ?_); refine goesL_ (some 65) rfl rfl Try.func35 zK rfl #[.agg #[.int .i64 t581, .slice Ao22 t582.length co22]] rfl zM ?_; (with_reducible refine (dag_Trim.calls kj15 t581 _ _ t582 t603 t604 t607 t610 _ ?side1 ?side2 A76.out).mono ?_); (case side1 => repeat (first | exact (Kd.R_reads' HO_590001.out).2.2 | (with_reducible refine Kd.C_alloc ?_ _) | (with_reducible refine Kd.C_drewN ?_ _) | (with_reducible refine Kd.C_drew ?_))); (case side2 => exact (Kd.R_reads' HO_590001.out).2.1); rintro e w81 ⟨v605, v608, rfl, ho0, ho1, hb⟩; refine ⟨_, rfl, ?_⟩; have n0_ := Aside0.mk (Kd.R_elder' (zR HO_4) (Kd.R_base ho1) hb); have n1_ := Aside0.mk (Kd.R_elder' (zR HO_7) (Kd.R_base ho1) hb); have n2_ := Aside0.mk (Kd.R_elder' (zR HO_590001) (Kd.R_base ho0) hb); have n3_ := Aside0.mk (Kd.R_elder' (zR HO_599001) (Kd.R_base ho0) hb); have n4_ := Aside0.mk (Kd.R_lower (Kd.R_new' (Kd.R_new' ho0 (Kd.R_lt (zR HO_590001))) (Kd.R_lt (zR HO_599001))) (below_size zB)); have n5_ := Aside0.mk (Kd.R_lower (Kd.R_new' (Kd.R_new' ho1 (Kd.R_lt (zR HO_4))) (Kd.R_lt (zR HO_7))) (below_size zB)); have n6_ := Aside0.mk (blk_below (g := gb577) (o := .cells #[.int .i64 a0_0, .slice A0_1 l0_1.length c0_1] 24 (0, 0)) (zk BK577) hb); have n7_ := Aside0.mk (blk_below (g := gb589) (o := .cells #[.int .i64 t581, .slice Ao22 t582.length co22] 24 (0, 0)) (zk BK589) hb); have n8_ := Aside0.mk (blk_below (g := gb598) (o := .cells #[.int .i64 t590, .slice Ao29 t591.length co29] 24 (0, 0)) (zk BK598) hb); have n9_ := Aside0.mk (below_step zB hb); clear HO_4; clear HO_7; clear HO_590001; clear HO_599001; clear BK577; clear BK589; clear BK598; clear HB; have HO_4 := n0_; have HO_7 := n1_; have HO_590001 := n2_; have HO_599001 := n3_; have HO606 := n4_; have HO609 := n5_; have BK577 := n6_; have BK589 := n7_; have BK598 := n8_; have HB := n9_; clear n0_ n1_ n2_ n3_ n4_ n5_ n6_ n7_ n8_ n9_; (try clear hb); (try clear hb2); (try clear hk); (try clear hi); (try clear ho0); (try clear ho1)) | ((with_reducible refine gate_dst (N := 9) rfl ?_); (try (refine gate_guard (by rfl) ?_; dsimp only)); refine box_event ?hg (N := 9) ?hd (cs := #[.int .i64 0, .slice none 0 0]) (t := 24) ?hr ?_; (case hd => rfl); (case hg => rfl); (case hr => first | (go_simp; done) | (go_simp; rfl)); intro gb611 hg w82 hbox hb; have n0_ := Aside0.mk (Kd.R_below (zR HO_4) hb); have n1_ := Aside0.mk (Kd.R_below (zR HO_7) hb); have n2_ := Aside0.mk (Kd.R_below (zR HO_590001) hb); have n3_ := Aside0.mk (Kd.R_below (zR HO_599001) hb); have n4_ := Aside0.mk (Kd.R_below (zR HO606) hb); have n5_ := Aside0.mk (Kd.R_below (zR HO609) hb); have n6_ := Aside0.mk (blk_below (g := gb577) (o := .cells #[.int .i64 a0_0, .slice A0_1 l0_1.length c0_1] 24 (0, 0)) (zk BK577) hb); have n7_ := Aside0.mk (blk_below (g := gb589) (o := .cells #[.int .i64 t581, .slice Ao22 t582.length co22] 24 (0, 0)) (zk BK589) hb); have n8_ := Aside0.mk (blk_below (g := gb598) (o := .cells #[.int .i64 t590, .slice Ao29 t591.length co29] 24 (0, 0)) (zk BK598) hb); have n9_ := Aside0.mk (below_step zB hb); have n10_ := Aside0.mk (hbox); have n11_ := Aside0.mk ((by rw [hg]; exact (below_size zB) : w.heap.size ≤ gb611)); have n12_ := Aside0.mk ((by rw [hg]; exact (below_size zB) : w.heap.size ≤ gb611)); have n13_ := Aside0.mk ((by rw [hg]; exact Nat.ne_of_lt (blk_lt (g := gb577) (o := .cells #[.int .i64 a0_0, .slice A0_1 l0_1.length c0_1] 24 (0, 0)) (zk BK577)) : gb577 ≠ gb611)); have n14_ := Aside0.mk ((by rw [hg]; exact Nat.ne_of_gt (blk_lt (g := gb577) (o := .cells #[.int .i64 a0_0, .slice A0_1 l0_1.length c0_1] 24 (0, 0)) (zk BK577)) : gb611 ≠ gb577)); have n15_ := Aside0.mk ((by rw [hg]; exact Nat.ne_of_lt (blk_lt (g := gb589) (o := .cells #[.int .i64 t581, .slice Ao22 t582.length co22] 24 (0, 0)) (zk BK589)) : gb589 ≠ gb611)); have n16_ := Aside0.mk ((by rw [hg]; exact Nat.ne_of_gt (blk_lt (g := gb589) (o := .cells #[.int .i64 t581, .slice Ao22 t582.length co22] 24 (0, 0)) (zk BK589)) : gb611 ≠ gb589)); have n17_ := Aside0.mk ((by rw [hg]; exact Nat.ne_of_lt (blk_lt (g := gb598) (o := .cells #[.int .i64 t590, .slice Ao29 t591.length co29] 24 (0, 0)) (zk BK598)) : gb598 ≠ gb611)); have n18_ := Aside0.mk ((by rw [hg]; exact Nat.ne_of_gt (blk_lt (g := gb598) (o := .cells #[.int .i64 t590, .slice Ao29 t591.length co29] 24 (0, 0)) (zk BK598)) : gb611 ≠ gb598)); clear HO_4; clear HO_7; clear HO_590001; clear HO_599001; clear HO606; clear HO609; clear BK577; clear BK589; clear BK598; clear HB; have HO_4 := n0_; have HO_7 := n1_; have HO_590001 := n2_; have HO_599001 := n3_; have HO606 := n4_; have HO609 := n5_; have BK577 := n6_; have BK589 := n7_; have BK598 := n8_; have HB := n9_; have BK611 := n10_; have GW611 := n11_; have GE611 := n12_; have NB577_611 := n13_; have NB611_577 := n14_; have NB589_611 := n15_; have NB611_589 := n16_; have NB598_611 := n17_; have NB611_598 := n18_; clear n0_ n1_ n2_ n3_ n4_ n5_ n6_ n7_ n8_ n9_ n10_ n11_ n12_ n13_ n14_ n15_ n16_ n17_ n18_; clear hb hbox hg; have hnb83 := NB611_577.out; have hnc83 := NB577_611.out; have hnb84 := NB611_589.out; have hnc84 := NB589_611.out; have hnb85 := NB611_598.out; have hnc85 := NB598_611.out; have hcz86_0 : w82.cell? ⟨gb611, 0, none⟩ = some (.int .i64 0) := (blk_cell BK611.out 0).trans rfl; have hcz86_1 : w82.cell? ⟨gb611, 1, none⟩ = some (.slice none 0 0) := (blk_cell BK611.out 1).trans rfl; have hfz86_0 := blk_frozen BK611.out 0; have hfz86_1 := blk_frozen BK611.out 1; obtain ⟨Ao87, co87, eo87⟩ := Kd.R_slice HO606.out; subst eo87))
       (try simp only [Act.put, List.setIfInBounds_toArray, List.set_cons_zero, List.set_cons_succ])
       have H := HC77.out
       clear HC77
       by_cases c88 : t610 = 0
       ·rw [if_pos c88] at H
        have c88b0 : (t610 == 0) = true := beq_iff_eq.mpr c88
        have c88b1 : (t610 != 0) = false := bne_eq_false_iff_eq.mpr c88
        clear c88
        (first | rw [c88b0] | (simp only [i64_w, i32_w]; rw [c88b0]) | skip)
        (try rw [c88b1])
        replace H := Option.bind_eq_some_iff.mp H
        obtain ⟨t612, A890, H⟩ := H
        replace H : (if t612 = true then (some ((t607.length : Int) == t581)) else (some false)) = some r := H
        have A89 := Aside0.mk A890
        clear A890
        by_cases c90 : t612 = true
        ·subst c90
         have H1 : (some ((t607.length : Int) == t581)) = some r := by rw [if_pos rfl] at H; exact H
         clear H
         have H := H1
         clear H1
         obtain rfl := Option.some.inj H
         have hnb91 := NB611_577.out
         have hnc91 := NB577_611.out
         have hnb92 := NB611_589.out
         have hnc92 := NB589_611.out
         have hnb93 := NB611_598.out
         have hnc93 := NB598_611.out
         have hcz94_0 : w82.cell? ⟨gb611, 0, none⟩ = some (.int .i64 0) := (blk_cell BK611.out 0).trans rfl
         have hcz94_1 : w82.cell? ⟨gb611, 1, none⟩ = some (.slice none 0 0) := (blk_cell BK611.out 1).trans rfl
         have hfz94_0 := blk_frozen BK611.out 0
         have hfz94_1 := blk_frozen BK611.out 1
         have hnb95 := NB589_577.out
         have hnc95 := NB577_589.out
         have hnb96 := NB589_598.out
         have hnc96 := NB598_589.out
         have hcz97_0 : w82.cell? ⟨gb589, 0, none⟩ = some (.int .i64 t581) := (blk_cell BK589.out 0).trans rfl
         have hcz97_1 : w82.cell? ⟨gb589, 1, none⟩ = some (.slice Ao22 t582.length co22) := (blk_cell BK589.out 1).trans rfl
         have hfz97_0 := blk_frozen BK589.out 0
         have hfz97_1 := blk_frozen BK589.out 1
         go_wp2_with (first | (go_at_call 29; (with_reducible refine (ancepsref09_Same.calls kj15 t603 _ _ t604 t581 _ _ t582 true _ ?side1 ?side2 ?side3 ?side4 A89.out).mono ?_); (case side1 => refine (Kd.R_reads' (e := 69) (base := w.heap.size) (ok := fun k_ => ((True ∧ some k_ ≠ (.slice Ao22 t582.length co22 : Value).ownBlock) ∧ some k_ ≠ (.slice Ao29 t591.length co29 : Value).ownBlock)) (n := t604.length) (c := co87) ?_).2.2; exact (by (with_reducible repeat (first | apply Kd.R_alloc | apply Kd.R_drewN | apply Kd.R_drew)); exact (Kd.R_mono (Kd.R_far (p := ⟨gb611, 1, none⟩) (Kd.R_far (p := ⟨gb611, 0, none⟩) (Kd.R_types HO606.out BK611.out (by decide)) (fun _ hk => hk.2) (.int .i64 t603)) (fun _ hk => hk.2) (.slice Ao87 t604.length co87)) (fun _ h_ => h_.1)))); (case side2 => exact (Kd.R_reads' HO606.out).2.1); (case side3 => refine (Kd.R_reads' (e := 69) (base := w.heap.size) (ok := fun k_ => (some k_ ≠ (.slice Ao29 t591.length co29 : Value).ownBlock ∧ some k_ ≠ (.slice Ao87 t604.length co87 : Value).ownBlock)) (n := t582.length) (c := co22) ?_).2.2; exact (by (with_reducible repeat (first | apply Kd.R_alloc | apply Kd.R_drewN | apply Kd.R_drew)); exact (Kd.R_mono (Kd.R_far (p := ⟨gb611, 1, none⟩) (Kd.R_far (p := ⟨gb611, 0, none⟩) (Kd.R_types HO_590001.out BK611.out (by decide)) (fun _ hk => hk.2) (.int .i64 t603)) (fun _ hk => hk.2) (.slice Ao87 t604.length co87)) (fun _ h_ => h_.1)))); (case side4 => exact (Kd.R_reads' HO_590001.out).2.1); rintro e w98 ⟨rfl, hb⟩; have n0_ := Aside0.mk (Kd.R_below (by (with_reducible repeat (first | apply Kd.R_alloc | apply Kd.R_drewN | apply Kd.R_drew)); exact (Kd.R_mono (Kd.R_far (p := ⟨gb611, 1, none⟩) (Kd.R_far (p := ⟨gb611, 0, none⟩) (Kd.R_types HO_4.out BK611.out (by decide)) (fun _ hk => hk.2) (.int .i64 t603)) (fun _ hk => hk.2) (.slice Ao87 t604.length co87)) (fun _ h_ => h_.1))) hb); have n1_ := Aside0.mk (Kd.R_below (by (with_reducible repeat (first | apply Kd.R_alloc | apply Kd.R_drewN | apply Kd.R_drew)); exact (Kd.R_mono (Kd.R_far (p := ⟨gb611, 1, none⟩) (Kd.R_far (p := ⟨gb611, 0, none⟩) (Kd.R_types HO_7.out BK611.out (by decide)) (fun _ hk => hk.2) (.int .i64 t603)) (fun _ hk => hk.2) (.slice Ao87 t604.length co87)) (fun _ h_ => h_.1))) hb); have n2_ := Aside0.mk (Kd.R_below (by (with_reducible repeat (first | apply Kd.R_alloc | apply Kd.R_drewN | apply Kd.R_drew)); exact (Kd.R_mono (Kd.R_far (p := ⟨gb611, 1, none⟩) (Kd.R_far (p := ⟨gb611, 0, none⟩) (Kd.R_types HO_590001.out BK611.out (by decide)) (fun _ hk => hk.2) (.int .i64 t603)) (fun _ hk => hk.2) (.slice Ao87 t604.length co87)) (fun _ h_ => h_.1))) hb); have n3_ := Aside0.mk (Kd.R_below (by (with_reducible repeat (first | apply Kd.R_alloc | apply Kd.R_drewN | apply Kd.R_drew)); exact (Kd.R_mono (Kd.R_far (p := ⟨gb611, 1, none⟩) (Kd.R_far (p := ⟨gb611, 0, none⟩) (Kd.R_types HO_599001.out BK611.out (by decide)) (fun _ hk => hk.2) (.int .i64 t603)) (fun _ hk => hk.2) (.slice Ao87 t604.length co87)) (fun _ h_ => h_.1))) hb); have n4_ := Aside0.mk (Kd.R_below (by (with_reducible repeat (first | apply Kd.R_alloc | apply Kd.R_drewN | apply Kd.R_drew)); exact (Kd.R_mono (Kd.R_far (p := ⟨gb611, 1, none⟩) (Kd.R_far (p := ⟨gb611, 0, none⟩) (Kd.R_types HO606.out BK611.out (by decide)) (fun _ hk => hk.2) (.int .i64 t603)) (fun _ hk => hk.2) (.slice Ao87 t604.length co87)) (fun _ h_ => h_.1))) hb); have n5_ := Aside0.mk (Kd.R_below (by (with_reducible repeat (first | apply Kd.R_alloc | apply Kd.R_drewN | apply Kd.R_drew)); exact (Kd.R_mono (Kd.R_far (p := ⟨gb611, 1, none⟩) (Kd.R_far (p := ⟨gb611, 0, none⟩) (Kd.R_types HO609.out BK611.out (by decide)) (fun _ hk => hk.2) (.int .i64 t603)) (fun _ hk => hk.2) (.slice Ao87 t604.length co87)) (fun _ h_ => h_.1))) hb); have n6_ := Aside0.mk (blk_below (g := gb577) (o := .cells #[.int .i64 a0_0, .slice A0_1 l0_1.length c0_1] 24 (0, 0)) (by (with_reducible repeat (first | refine blk_drewN ?_ _ | refine blk_drew ?_ | refine blk_alloc ?_ _)); refine blk_far ?_ NB577_611.out _; (with_reducible repeat (first | refine blk_drewN ?_ _ | refine blk_drew ?_ | refine blk_alloc ?_ _)); refine blk_far ?_ NB577_611.out _; (with_reducible repeat (first | refine blk_drewN ?_ _ | refine blk_drew ?_ | refine blk_alloc ?_ _)); exact BK577.out) hb); have n7_ := Aside0.mk (blk_below (g := gb589) (o := .cells #[.int .i64 t581, .slice Ao22 t582.length co22] 24 (0, 0)) (by (with_reducible repeat (first | refine blk_drewN ?_ _ | refine blk_drew ?_ | refine blk_alloc ?_ _)); refine blk_far ?_ NB589_611.out _; (with_reducible repeat (first | refine blk_drewN ?_ _ | refine blk_drew ?_ | refine blk_alloc ?_ _)); refine blk_far ?_ NB589_611.out _; (with_reducible repeat (first | refine blk_drewN ?_ _ | refine blk_drew ?_ | refine blk_alloc ?_ _)); exact BK589.out) hb); have n8_ := Aside0.mk (blk_below (g := gb598) (o := .cells #[.int .i64 t590, .slice Ao29 t591.length co29] 24 (0, 0)) (by (with_reducible repeat (first | refine blk_drewN ?_ _ | refine blk_drew ?_ | refine blk_alloc ?_ _)); refine blk_far ?_ NB598_611.out _; (with_reducible repeat (first | refine blk_drewN ?_ _ | refine blk_drew ?_ | refine blk_alloc ?_ _)); refine blk_far ?_ NB598_611.out _; (with_reducible repeat (first | refine blk_drewN ?_ _ | refine blk_drew ?_ | refine blk_alloc ?_ _)); exact BK598.out) hb); have n9_ := Aside0.mk (blk_below (g := gb611) (o := .cells #[.int .i64 t603, .slice Ao87 t604.length co87] 24 (0, 0)) (by (with_reducible repeat (first | refine blk_drewN ?_ _ | refine blk_drew ?_ | refine blk_alloc ?_ _)); refine blk_put (cs := #[.int .i64 t603, .slice none 0 0]) ?_ 1 _ rfl; (with_reducible repeat (first | refine blk_drewN ?_ _ | refine blk_drew ?_ | refine blk_alloc ?_ _)); refine blk_put (cs := #[.int .i64 0, .slice none 0 0]) ?_ 0 _ rfl; (with_reducible repeat (first | refine blk_drewN ?_ _ | refine blk_drew ?_ | refine blk_alloc ?_ _)); exact BK611.out) hb); have n10_ := Aside0.mk (below_step zB hb); clear HO_4; clear HO_7; clear HO_590001; clear HO_599001; clear HO606; clear HO609; clear BK577; clear BK589; clear BK598; clear BK611; clear HB; have HO_4 := n0_; have HO_7 := n1_; have HO_590001 := n2_; have HO_599001 := n3_; have HO606 := n4_; have HO609 := n5_; have BK577 := n6_; have BK589 := n7_; have BK598 := n8_; have BK611 := n9_; have HB := n10_; clear n0_ n1_ n2_ n3_ n4_ n5_ n6_ n7_ n8_ n9_ n10_; (try clear hb); (try clear hb2); (try clear hk); (try clear hi); obtain ⟨Ao99, co99, eo99⟩ := Kd.R_slice HO609.out; subst eo99; have hcz100_0 : w98.cell? ⟨gb589, 0, none⟩ = some (.int .i64 t581) := (blk_cell BK589.out 0).trans rfl; have hcz100_1 : w98.cell? ⟨gb589, 1, none⟩ = some (.slice Ao22 t582.length co22) := (blk_cell BK589.out 1).trans rfl; have hfz100_0 := blk_frozen BK589.out 0; have hfz100_1 := blk_frozen BK589.out 1))
         go_ret
         exact ⟨by first | rfl | (simp [errW_none, errW_some] <;> rfl) | (simp [*, errW_none, errW_some] <;> rfl), by repeat (first | (with_reducible first | exact HB.out | apply below_alloc | apply pw_below_drewN | apply below_drew1 | refine below_set ?_ GE577.out | refine below_set ?_ GE589.out | refine below_set ?_ GE598.out | refine below_set ?_ GE611.out) | exact HB.out)⟩
        ·replace c90 := Bool.eq_false_iff.mpr c90
         subst c90
         have H1 : (some false) = some r := by rw [if_neg (show ¬ (false = true) by decide)] at H; exact H
         clear H
         have H := H1
         clear H1
         obtain rfl := Option.some.inj H
         have hnb101 := NB611_577.out
         have hnc101 := NB577_611.out
         have hnb102 := NB611_589.out
         have hnc102 := NB589_611.out
         have hnb103 := NB611_598.out
         have hnc103 := NB598_611.out
         have hcz104_0 : w82.cell? ⟨gb611, 0, none⟩ = some (.int .i64 0) := (blk_cell BK611.out 0).trans rfl
         have hcz104_1 : w82.cell? ⟨gb611, 1, none⟩ = some (.slice none 0 0) := (blk_cell BK611.out 1).trans rfl
         have hfz104_0 := blk_frozen BK611.out 0
         have hfz104_1 := blk_frozen BK611.out 1
         have hnb105 := NB589_577.out
         have hnc105 := NB577_589.out
         have hnb106 := NB589_598.out
         have hnc106 := NB598_589.out
         have hcz107_0 : w82.cell? ⟨gb589, 0, none⟩ = some (.int .i64 t581) := (blk_cell BK589.out 0).trans rfl
         have hcz107_1 : w82.cell? ⟨gb589, 1, none⟩ = some (.slice Ao22 t582.length co22) := (blk_cell BK589.out 1).trans rfl
         have hfz107_0 := blk_frozen BK589.out 0
         have hfz107_1 := blk_frozen BK589.out 1
         go_wp2_with (first | (go_at_call 29; (with_reducible refine (ancepsref09_Same.calls kj15 t603 _ _ t604 t581 _ _ t582 false _ ?side1 ?side2 ?side3 ?side4 A89.out).mono ?_); (case side1 => refine (Kd.R_reads' (e := 69) (base := w.heap.size) (ok := fun k_ => ((True ∧ some k_ ≠ (.slice Ao22 t582.length co22 : Value).ownBlock) ∧ some k_ ≠ (.slice Ao29 t591.length co29 : Value).ownBlock)) (n := t604.length) (c := co87) ?_).2.2; exact (by (with_reducible repeat (first | apply Kd.R_alloc | apply Kd.R_drewN | apply Kd.R_drew)); exact (Kd.R_mono (Kd.R_far (p := ⟨gb611, 1, none⟩) (Kd.R_far (p := ⟨gb611, 0, none⟩) (Kd.R_types HO606.out BK611.out (by decide)) (fun _ hk => hk.2) (.int .i64 t603)) (fun _ hk => hk.2) (.slice Ao87 t604.length co87)) (fun _ h_ => h_.1)))); (case side2 => exact (Kd.R_reads' HO606.out).2.1); (case side3 => refine (Kd.R_reads' (e := 69) (base := w.heap.size) (ok := fun k_ => (some k_ ≠ (.slice Ao29 t591.length co29 : Value).ownBlock ∧ some k_ ≠ (.slice Ao87 t604.length co87 : Value).ownBlock)) (n := t582.length) (c := co22) ?_).2.2; exact (by (with_reducible repeat (first | apply Kd.R_alloc | apply Kd.R_drewN | apply Kd.R_drew)); exact (Kd.R_mono (Kd.R_far (p := ⟨gb611, 1, none⟩) (Kd.R_far (p := ⟨gb611, 0, none⟩) (Kd.R_types HO_590001.out BK611.out (by decide)) (fun _ hk => hk.2) (.int .i64 t603)) (fun _ hk => hk.2) (.slice Ao87 t604.length co87)) (fun _ h_ => h_.1)))); (case side4 => exact (Kd.R_reads' HO_590001.out).2.1); rintro e w108 ⟨rfl, hb⟩; have n0_ := Aside0.mk (Kd.R_below (by (with_reducible repeat (first | apply Kd.R_alloc | apply Kd.R_drewN | apply Kd.R_drew)); exact (Kd.R_mono (Kd.R_far (p := ⟨gb611, 1, none⟩) (Kd.R_far (p := ⟨gb611, 0, none⟩) (Kd.R_types HO_4.out BK611.out (by decide)) (fun _ hk => hk.2) (.int .i64 t603)) (fun _ hk => hk.2) (.slice Ao87 t604.length co87)) (fun _ h_ => h_.1))) hb); have n1_ := Aside0.mk (Kd.R_below (by (with_reducible repeat (first | apply Kd.R_alloc | apply Kd.R_drewN | apply Kd.R_drew)); exact (Kd.R_mono (Kd.R_far (p := ⟨gb611, 1, none⟩) (Kd.R_far (p := ⟨gb611, 0, none⟩) (Kd.R_types HO_7.out BK611.out (by decide)) (fun _ hk => hk.2) (.int .i64 t603)) (fun _ hk => hk.2) (.slice Ao87 t604.length co87)) (fun _ h_ => h_.1))) hb); have n2_ := Aside0.mk (Kd.R_below (by (with_reducible repeat (first | apply Kd.R_alloc | apply Kd.R_drewN | apply Kd.R_drew)); exact (Kd.R_mono (Kd.R_far (p := ⟨gb611, 1, none⟩) (Kd.R_far (p := ⟨gb611, 0, none⟩) (Kd.R_types HO_590001.out BK611.out (by decide)) (fun _ hk => hk.2) (.int .i64 t603)) (fun _ hk => hk.2) (.slice Ao87 t604.length co87)) (fun _ h_ => h_.1))) hb); have n3_ := Aside0.mk (Kd.R_below (by (with_reducible repeat (first | apply Kd.R_alloc | apply Kd.R_drewN | apply Kd.R_drew)); exact (Kd.R_mono (Kd.R_far (p := ⟨gb611, 1, none⟩) (Kd.R_far (p := ⟨gb611, 0, none⟩) (Kd.R_types HO_599001.out BK611.out (by decide)) (fun _ hk => hk.2) (.int .i64 t603)) (fun _ hk => hk.2) (.slice Ao87 t604.length co87)) (fun _ h_ => h_.1))) hb); have n4_ := Aside0.mk (Kd.R_below (by (with_reducible repeat (first | apply Kd.R_alloc | apply Kd.R_drewN | apply Kd.R_drew)); exact (Kd.R_mono (Kd.R_far (p := ⟨gb611, 1, none⟩) (Kd.R_far (p := ⟨gb611, 0, none⟩) (Kd.R_types HO606.out BK611.out (by decide)) (fun _ hk => hk.2) (.int .i64 t603)) (fun _ hk => hk.2) (.slice Ao87 t604.length co87)) (fun _ h_ => h_.1))) hb); have n5_ := Aside0.mk (Kd.R_below (by (with_reducible repeat (first | apply Kd.R_alloc | apply Kd.R_drewN | apply Kd.R_drew)); exact (Kd.R_mono (Kd.R_far (p := ⟨gb611, 1, none⟩) (Kd.R_far (p := ⟨gb611, 0, none⟩) (Kd.R_types HO609.out BK611.out (by decide)) (fun _ hk => hk.2) (.int .i64 t603)) (fun _ hk => hk.2) (.slice Ao87 t604.length co87)) (fun _ h_ => h_.1))) hb); have n6_ := Aside0.mk (blk_below (g := gb577) (o := .cells #[.int .i64 a0_0, .slice A0_1 l0_1.length c0_1] 24 (0, 0)) (by (with_reducible repeat (first | refine blk_drewN ?_ _ | refine blk_drew ?_ | refine blk_alloc ?_ _)); refine blk_far ?_ NB577_611.out _; (with_reducible repeat (first | refine blk_drewN ?_ _ | refine blk_drew ?_ | refine blk_alloc ?_ _)); refine blk_far ?_ NB577_611.out _; (with_reducible repeat (first | refine blk_drewN ?_ _ | refine blk_drew ?_ | refine blk_alloc ?_ _)); exact BK577.out) hb); have n7_ := Aside0.mk (blk_below (g := gb589) (o := .cells #[.int .i64 t581, .slice Ao22 t582.length co22] 24 (0, 0)) (by (with_reducible repeat (first | refine blk_drewN ?_ _ | refine blk_drew ?_ | refine blk_alloc ?_ _)); refine blk_far ?_ NB589_611.out _; (with_reducible repeat (first | refine blk_drewN ?_ _ | refine blk_drew ?_ | refine blk_alloc ?_ _)); refine blk_far ?_ NB589_611.out _; (with_reducible repeat (first | refine blk_drewN ?_ _ | refine blk_drew ?_ | refine blk_alloc ?_ _)); exact BK589.out) hb); have n8_ := Aside0.mk (blk_below (g := gb598) (o := .cells #[.int .i64 t590, .slice Ao29 t591.length co29] 24 (0, 0)) (by (with_reducible repeat (first | refine blk_drewN ?_ _ | refine blk_drew ?_ | refine blk_alloc ?_ _)); refine blk_far ?_ NB598_611.out _; (with_reducible repeat (first | refine blk_drewN ?_ _ | refine blk_drew ?_ | refine blk_alloc ?_ _)); refine blk_far ?_ NB598_611.out _; (with_reducible repeat (first | refine blk_drewN ?_ _ | refine blk_drew ?_ | refine blk_alloc ?_ _)); exact BK598.out) hb); have n9_ := Aside0.mk (blk_below (g := gb611) (o := .cells #[.int .i64 t603, .slice Ao87 t604.length co87] 24 (0, 0)) (by (with_reducible repeat (first | refine blk_drewN ?_ _ | refine blk_drew ?_ | refine blk_alloc ?_ _)); refine blk_put (cs := #[.int .i64 t603, .slice none 0 0]) ?_ 1 _ rfl; (with_reducible repeat (first | refine blk_drewN ?_ _ | refine blk_drew ?_ | refine blk_alloc ?_ _)); refine blk_put (cs := #[.int .i64 0, .slice none 0 0]) ?_ 0 _ rfl; (with_reducible repeat (first | refine blk_drewN ?_ _ | refine blk_drew ?_ | refine blk_alloc ?_ _)); exact BK611.out) hb); have n10_ := Aside0.mk (below_step zB hb); clear HO_4; clear HO_7; clear HO_590001; clear HO_599001; clear HO606; clear HO609; clear BK577; clear BK589; clear BK598; clear BK611; clear HB; have HO_4 := n0_; have HO_7 := n1_; have HO_590001 := n2_; have HO_599001 := n3_; have HO606 := n4_; have HO609 := n5_; have BK577 := n6_; have BK589 := n7_; have BK598 := n8_; have BK611 := n9_; have HB := n10_; clear n0_ n1_ n2_ n3_ n4_ n5_ n6_ n7_ n8_ n9_ n10_; (try clear hb); (try clear hb2); (try clear hk); (try clear hi)))
         go_ret
         exact ⟨by first | rfl | (simp [errW_none, errW_some] <;> rfl) | (simp [*, errW_none, errW_some] <;> rfl), by repeat (first | (with_reducible first | exact HB.out | apply below_alloc | apply pw_below_drewN | apply below_drew1 | refine below_set ?_ GE577.out | refine below_set ?_ GE589.out | refine below_set ?_ GE598.out | refine below_set ?_ GE611.out) | exact HB.out)⟩
       ·rw [if_neg c88] at H
        have c88b0 : (t610 == 0) = false := beq_eq_false_iff_ne.mpr c88
        have c88b1 : (t610 != 0) = true := bne_iff_ne.mpr c88
        (first | rw [c88b0] | (simp only [i64_w, i32_w]; rw [c88b0]) | skip)
        (try rw [c88b1])
        obtain rfl := Option.some.inj H
        go_wp2
        go_ret
        exact ⟨by first | rfl | (simp [errW_none, errW_some] <;> rfl) | (simp [*, errW_none, errW_some] <;> rfl), by repeat (first | (with_reducible first | exact HB.out | apply below_alloc | apply pw_below_drewN | apply below_drew1 | refine below_set ?_ GE577.out | refine below_set ?_ GE589.out | refine below_set ?_ GE598.out | refine below_set ?_ GE611.out) | exact HB.out)⟩
end Go.Proofs.Ytanbffoilianhaa.E
