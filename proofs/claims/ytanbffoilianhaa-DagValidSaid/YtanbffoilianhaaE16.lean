-- Written by wip/tools/myprint.py, a program of this session's.
import Derived.Test.YtanbffoilianhaaE0
import Derived.Test.YtanbffoilianhaaE3
import Derived.Test.YtanbffoilianhaaE6
import Derived.Test.YtanbffoilianhaaE7
import Derived.Test.YtanbffoilianhaaE15
import Derived.Test.YtanbffoilianhaaE17
namespace Go.Proofs.Ytanbffoilianhaa.E
open Go.RowKit Go.Proofs.YtanbffoilianhaaW.PrintWords Go.Proofs.YtanbffoilianhaaW.PrintLast Go.Proofs.YtanbffoilianhaaW.PrintMore
attribute [local go_sem] max2_int min2_int max_two min_two max_three min_three max_four min_four   -- for this text's walks alone
set_option linter.unusedVariables false
set_option linter.unusedSimpArgs false
/-! ### ancepslaw09_DagValid: function 6 -/
mutual
def ancepslaw09_DagValid.j0 : Nat → Bool → Int → List (S69) → Option (Bool)
 | 0, _, _, _ => none
 | k + 1, x15, x406000, x406001 => if x15 = true then ((ancepslaw09_awake.f k).bind fun t407 => (some t407)) else ((ancepslaw09_own.f x406000 x406001).bind fun bt408 => ((dag_Reverse.f k bt408.1 bt408.2).bind fun bt412 => ((ancepsref09_Reverse.f k x406000 x406001).bind fun bt418 => ((dag_Valid.f k x406000 x406001).bind fun t424 => ((ancepsref09_Valid.f k x406000 x406001).bind fun t425 => (if t424 = t425 then (if bt412.2.2 = bt418.2.2 then ((ancepsref09_Same.f k bt412.1 bt412.2.1 bt418.1 bt418.2.1).bind fun t426 => (ancepslaw09_DagValid.j1 k bt412.2.2 (!t426) x406000 x406001 bt412.1 bt412.2.1)) else (ancepslaw09_DagValid.j1 k bt412.2.2 true x406000 x406001 bt412.1 bt412.2.1)) else (ancepslaw09_DagValid.j1 k bt412.2.2 true x406000 x406001 bt412.1 bt412.2.1)))))))
def ancepslaw09_DagValid.j1 : Nat → Int → Bool → Int → List (S69) → Int → List (S69) → Option (Bool)
 | 0, _, _, _, _, _, _ => none
 | k + 1, x4, x43, x406000, x406001, x418000, x418001 => if x43 = true then (some false) else (if x4 = 0 then ((dag_Reverse.f k x418000 x418001).bind fun bt427 => (if bt427.2.2 = 0 then ((ancepsref09_Same.f k bt427.1 bt427.2.1 x406000 x406001).bind fun t433 => (some t433)) else (some false))) else (some true))
end
def ancepslaw09_DagValid.f (k : Nat) (a0_0 : Int) (l0_1 : List (S69)) : Option (Bool) := (ancepslaw09_awake.f k).bind fun t406 => (if t406 = true then (ancepslaw09_DagValid.j0 k (decide ((l0_1.length : Int) > 120)) a0_0 l0_1) else (ancepslaw09_DagValid.j0 k true a0_0 l0_1))
theorem ancepslaw09_DagValid.mono_l : ∀ k, (∀ y0 y1 y2, LeO (ancepslaw09_DagValid.j0 k y0 y1 y2) (ancepslaw09_DagValid.j0 (k + 1) y0 y1 y2)) ∧ (∀ y0 y1 y2 y3 y4 y5, LeO (ancepslaw09_DagValid.j1 k y0 y1 y2 y3 y4 y5) (ancepslaw09_DagValid.j1 (k + 1) y0 y1 y2 y3 y4 y5))
 | 0 => ⟨fun _ _ _ r h => by simp [ancepslaw09_DagValid.j0] at h, fun _ _ _ _ _ _ r h => by simp [ancepslaw09_DagValid.j1] at h⟩
 | k + 1 => by
  obtain ⟨ih0, ih1⟩ := ancepslaw09_DagValid.mono_l k
  refine ⟨?_, ?_⟩
  ·intro y0 y1 y2
   unfold ancepslaw09_DagValid.j0
   repeat' first
   | (with_reducible exact ih0 _ _ _)
   | (with_reducible exact ih1 _ _ _ _ _ _)
   | (with_reducible exact ancepslaw09_awake.mono _)
   | (with_reducible exact ancepsref09_Reverse.mono _ _ _)
   | (with_reducible exact ancepsref09_Same.mono _ _ _ _ _)
   | (with_reducible exact ancepsref09_Valid.mono _ _ _)
   | (with_reducible exact dag_Reverse.mono _ _ _)
   | (with_reducible exact dag_Valid.mono _ _ _)
   | (with_reducible exact LeO.refl _)
   | (with_reducible exact LeO.none _)
   | (with_reducible refine LeO.ite ?_ ?_)
   | (with_reducible refine LeO.bind ?_ (fun _ => ?_))
   | exact ih0 _ _ _
   | exact ih1 _ _ _ _ _ _
   | exact ancepslaw09_awake.mono _
   | exact ancepsref09_Reverse.mono _ _ _
   | exact ancepsref09_Same.mono _ _ _ _ _
   | exact ancepsref09_Valid.mono _ _ _
   | exact dag_Reverse.mono _ _ _
   | exact dag_Valid.mono _ _ _
   | exact LeO.none _
   | refine LeO.ite ?_ ?_
   | refine LeO.bind ?_ (fun _ => ?_)
  ·intro y0 y1 y2 y3 y4 y5
   unfold ancepslaw09_DagValid.j1
   repeat' first
   | (with_reducible exact ih0 _ _ _)
   | (with_reducible exact ih1 _ _ _ _ _ _)
   | (with_reducible exact ancepslaw09_awake.mono _)
   | (with_reducible exact ancepsref09_Reverse.mono _ _ _)
   | (with_reducible exact ancepsref09_Same.mono _ _ _ _ _)
   | (with_reducible exact ancepsref09_Valid.mono _ _ _)
   | (with_reducible exact dag_Reverse.mono _ _ _)
   | (with_reducible exact dag_Valid.mono _ _ _)
   | (with_reducible exact LeO.refl _)
   | (with_reducible exact LeO.none _)
   | (with_reducible refine LeO.ite ?_ ?_)
   | (with_reducible refine LeO.bind ?_ (fun _ => ?_))
   | exact ih0 _ _ _
   | exact ih1 _ _ _ _ _ _
   | exact ancepslaw09_awake.mono _
   | exact ancepsref09_Reverse.mono _ _ _
   | exact ancepsref09_Same.mono _ _ _ _ _
   | exact ancepsref09_Valid.mono _ _ _
   | exact dag_Reverse.mono _ _ _
   | exact dag_Valid.mono _ _ _
   | exact LeO.none _
   | refine LeO.ite ?_ ?_
   | refine LeO.bind ?_ (fun _ => ?_)
theorem ancepslaw09_DagValid.mono : ∀ a0 a1 k, LeO (ancepslaw09_DagValid.f k a0 a1) (ancepslaw09_DagValid.f (k + 1) a0 a1) := by
 intro a0 a1 k
 obtain ⟨ih0, ih1⟩ := ancepslaw09_DagValid.mono_l k
 unfold ancepslaw09_DagValid.f
 repeat' first
   | (with_reducible exact ih0 _ _ _)
   | (with_reducible exact ih1 _ _ _ _ _ _)
   | (with_reducible exact ancepslaw09_awake.mono _)
   | (with_reducible exact ancepsref09_Reverse.mono _ _ _)
   | (with_reducible exact ancepsref09_Same.mono _ _ _ _ _)
   | (with_reducible exact ancepsref09_Valid.mono _ _ _)
   | (with_reducible exact dag_Reverse.mono _ _ _)
   | (with_reducible exact dag_Valid.mono _ _ _)
   | (with_reducible exact LeO.refl _)
   | (with_reducible exact LeO.none _)
   | (with_reducible refine LeO.ite ?_ ?_)
   | (with_reducible refine LeO.bind ?_ (fun _ => ?_))
   | exact ih0 _ _ _
   | exact ih1 _ _ _ _ _ _
   | exact ancepslaw09_awake.mono _
   | exact ancepsref09_Reverse.mono _ _ _
   | exact ancepsref09_Same.mono _ _ _ _ _
   | exact ancepsref09_Valid.mono _ _ _
   | exact dag_Reverse.mono _ _ _
   | exact dag_Valid.mono _ _ _
   | exact LeO.none _
   | refine LeO.ite ?_ ?_
   | refine LeO.bind ?_ (fun _ => ?_)
def ancepslaw09_DagValid.T5 : Bool × List (List Nat × List Nat) := (true, [([], []), ([0], [0]), ([], []), ([2, 1], [2]), ([1, 3], [1, 3]), ([4, 3], [4]), ([5], [5]), ([5], [5]), ([6, 7, 5], [5, 6, 7]), ([5, 8], [5, 8]), ([9, 5], [9]), ([10], [10]), ([10], [10]), ([11, 12, 10, 10], [10, 11, 12]), ([13, 10], [10, 13]), ([10, 14], [10, 14])])
def ancepslaw09_DagValid.B5 : List Nat := [0, 1, 0, 7, 15, 31, 63, 63, 255, 511, 1023, 2047, 2047, 8191, 16383, 32767]
theorem ancepslaw09_DagValid.tab5 : rtab .any (opsOf Try.f6 5) = ancepslaw09_DagValid.T5 := by kernel_rfl
theorem ancepslaw09_DagValid.bits5 : waitsOk ancepslaw09_DagValid.T5.2 ancepslaw09_DagValid.B5 = true := by kernel_rfl
set_option maxHeartbeats 8000000 in
set_option maxRecDepth 100000 in
theorem ancepslaw09_DagValid.calls (k : Nat) (a0_0 : Int) (A0_1 : Option Addr) (c0_1 : Nat) (l0_1 : List (S69)) (r : Bool) (w : World) (hr0_1 : Kd.C k69 w A0_1 l0_1.length l0_1) (hc0_1 : l0_1.length ≤ c0_1) (h : ancepslaw09_DagValid.f k a0_0 l0_1 = some r) :
  Calls Try.prog 6 #[.agg #[.int .i64 a0_0, .slice A0_1 l0_1.length c0_1]] w fun e w' => e = .returned (.bool r) ∧ Below w.heap.size w w' := by
 have hu24 := Try.underlying24
 have hu22 := Try.underlying22
 have HR0_1 := Aside0.mk hr0_1
 have HC0_1 := Aside0.mk hc0_1
 clear hr0_1 hc0_1
 have HB := Aside0.mk (Below.refl w.heap.size w)
 have H : ((ancepslaw09_awake.f k).bind fun t406 => (if t406 = true then (ancepslaw09_DagValid.j0 k (decide ((l0_1.length : Int) > 120)) a0_0 l0_1) else (ancepslaw09_DagValid.j0 k true a0_0 l0_1))) = some r := h
 clear h
 have HC2 := Aside0.mk H
 clear H
 go_enter Try.func6, Try.ntmps6
 go_upto_region 1 with (first | ((with_reducible refine gate_dst (N := 1) rfl ?_); (try (refine gate_guard (by rfl) ?_; dsimp only)); refine box_event ?hg (N := 1) ?hd (cs := #[.int .i64 a0_0, .slice A0_1 l0_1.length c0_1]) (t := 24) ?hr ?_; (case hd => rfl); (case hg => rfl); (case hr => first | (go_simp; done) | (go_simp; rfl)); intro gb405 hg w3 hbox hb; have n0_ := Aside0.mk (below_step zB hb); have n1_ := Aside0.mk (hbox); have n2_ := Aside0.mk ((by rw [hg]; exact (below_size zB) : w.heap.size ≤ gb405)); have n3_ := Aside0.mk ((by rw [hg]; exact (below_size zB) : w.heap.size ≤ gb405)); clear HB; have HB := n0_; have BK405 := n1_; have GW405 := n2_; have GE405 := n3_; clear n0_ n1_ n2_ n3_; clear hb hbox hg))
 (try simp only [Act.put, List.setIfInBounds_toArray, List.set_cons_zero, List.set_cons_succ])
 go_cut [15] (fun v15 wc => ∃ (kq : Nat) (x15_1 : Bool), v15 = .bool x15_1 ∧ Aside0 (ancepslaw09_DagValid.j0 kq x15_1 a0_0 l0_1 = some r) ∧ Aside0 (kq ≤ k) ∧ Aside0 (wc.heap[gb405]? = some (.cells #[.int .i64 a0_0, (.slice A0_1 l0_1.length c0_1)] 24 (0, 0))) ∧ Aside0 (Below w.heap.size w wc))
 case first =>
  have H := HC2.out
  clear HC2
  replace H := Option.bind_eq_some_iff.mp H
  obtain ⟨t406, A40, H⟩ := H
  replace H : (if t406 = true then (ancepslaw09_DagValid.j0 k (decide ((l0_1.length : Int) > 120)) a0_0 l0_1) else (ancepslaw09_DagValid.j0 k true a0_0 l0_1)) = some r := H
  have A4 := Aside0.mk A40
  clear A40
  by_cases c5 : t406 = true
  ·subst c5
   have H1 : (ancepslaw09_DagValid.j0 k (decide ((l0_1.length : Int) > 120)) a0_0 l0_1) = some r := by rw [if_pos rfl] at H; exact H
   clear H
   have H := H1
   clear H1
   have H' := Aside0.mk H
   clear H
   go_wp2_with (first | ((with_reducible refine gate_callee (f := 13) rfl ?_); refine goesL_ (some 8) rfl rfl Try.func13 zK rfl #[] rfl zM ?_; (with_reducible refine (ancepslaw09_awake.calls k  true _ A4.out).mono ?_); rintro e w6 ⟨rfl, hb⟩; refine ⟨_, rfl, ?_⟩; have n0_ := Aside0.mk (blk_below (g := gb405) (o := .cells #[.int .i64 a0_0, .slice A0_1 l0_1.length c0_1] 24 (0, 0)) (zk BK405) hb); have n1_ := Aside0.mk (below_step zB hb); clear BK405; clear HB; have BK405 := n0_; have HB := n1_; clear n0_ n1_; (try clear hb); (try clear hb2); (try clear hk); (try clear hi); have hcz7_0 : w6.cell? ⟨gb405, 0, none⟩ = some (.int .i64 a0_0) := (blk_cell BK405.out 0).trans rfl; have hcz7_1 : w6.cell? ⟨gb405, 1, none⟩ = some (.slice A0_1 l0_1.length c0_1) := (blk_cell BK405.out 1).trans rfl; have hfz7_0 := blk_frozen BK405.out 0; have hfz7_1 := blk_frozen BK405.out 1))
   go_meet
   case rel => exact ⟨_, (decide ((l0_1.length : Int) > 120)), zT, H', ⟨by first | omega | exact Nat.le_refl _⟩, ⟨by (with_reducible repeat (first | refine blk_drewN ?_ _ | refine blk_drew ?_ | refine blk_alloc ?_ _)); exact BK405.out⟩, ⟨by repeat (first | (with_reducible first | exact HB.out | apply below_alloc | apply pw_below_drewN | apply below_drew1 | refine below_set ?_ GE405.out) | exact HB.out)⟩⟩
  ·replace c5 := Bool.eq_false_iff.mpr c5
   subst c5
   have H1 : (ancepslaw09_DagValid.j0 k true a0_0 l0_1) = some r := by rw [if_neg (show ¬ (false = true) by decide)] at H; exact H
   clear H
   have H := H1
   clear H1
   have H' := Aside0.mk H
   clear H
   go_wp2_with (first | ((with_reducible refine gate_callee (f := 13) rfl ?_); refine goesL_ (some 8) rfl rfl Try.func13 zK rfl #[] rfl zM ?_; (with_reducible refine (ancepslaw09_awake.calls k  false _ A4.out).mono ?_); rintro e w8 ⟨rfl, hb⟩; refine ⟨_, rfl, ?_⟩; have n0_ := Aside0.mk (blk_below (g := gb405) (o := .cells #[.int .i64 a0_0, .slice A0_1 l0_1.length c0_1] 24 (0, 0)) (zk BK405) hb); have n1_ := Aside0.mk (below_step zB hb); clear BK405; clear HB; have BK405 := n0_; have HB := n1_; clear n0_ n1_; (try clear hb); (try clear hb2); (try clear hk); (try clear hi)))
   go_meet
   case rel => exact ⟨_, (true), zT, H', ⟨by first | omega | exact Nat.le_refl _⟩, ⟨by (with_reducible repeat (first | refine blk_drewN ?_ _ | refine blk_drew ?_ | refine blk_alloc ?_ _)); exact BK405.out⟩, ⟨by repeat (first | (with_reducible first | exact HB.out | apply below_alloc | apply pw_below_drewN | apply below_drew1 | refine below_set ?_ GE405.out) | exact HB.out)⟩⟩
 case rest =>
  clear HC2
  try clear c1
  try clear p2
  try clear c5
  try clear c6
  try clear hcz7_0
  try clear hcz7_1
  try clear hfz7_0
  try clear hfz7_1
  obtain ⟨kq, x15_1, rfl, HA, HJ1, BK405, HB⟩ := hcut
  cases kq with
  | zero => exact absurd HA.out (by simp [ancepslaw09_DagValid.j0])
  | succ kj1 =>
   have H := HA.out
   clear HA
   simp only [ancepslaw09_DagValid.j0] at H
   by_cases c9 : x15_1 = true
   ·subst c9
    have H1 : ((ancepslaw09_awake.f kj1).bind fun t407 => (some t407)) = some r := by rw [if_pos rfl] at H; exact H
    clear H
    have H := H1
    clear H1
    replace H := Option.bind_eq_some_iff.mp H
    obtain ⟨t407, A100, H⟩ := H
    replace H : (some t407) = some r := H
    have A10 := Aside0.mk A100
    clear A100
    obtain rfl := Option.some.inj H
    go_wp2_with (first | ((with_reducible refine gate_callee (f := 13) rfl ?_); refine goesL_ (some 16) rfl rfl Try.func13 zK rfl #[] rfl zM ?_; (with_reducible refine (ancepslaw09_awake.calls kj1  t407 _ A10.out).mono ?_); rintro e w11 ⟨rfl, hb⟩; refine ⟨_, rfl, ?_⟩; have n0_ := Aside0.mk (blk_below (g := gb405) (o := .cells #[.int .i64 a0_0, .slice A0_1 l0_1.length c0_1] 24 (0, 0)) (zk BK405) hb); have n1_ := Aside0.mk (below_step zB hb); clear BK405; clear HB; have BK405 := n0_; have HB := n1_; clear n0_ n1_; (try clear hb); (try clear hb2); (try clear hk); (try clear hi)))
    go_ret
    exact ⟨by first | rfl | (simp [errW_none, errW_some] <;> rfl) | (simp [*, errW_none, errW_some] <;> rfl), by repeat (first | (with_reducible first | exact HB.out | apply below_alloc | apply pw_below_drewN | apply below_drew1 | refine below_set ?_ GE405.out) | exact HB.out)⟩
   ·replace c9 := Bool.eq_false_iff.mpr c9
    subst c9
    have H1 : ((ancepslaw09_own.f a0_0 l0_1).bind fun bt408 => ((dag_Reverse.f kj1 bt408.1 bt408.2).bind fun bt412 => ((ancepsref09_Reverse.f kj1 a0_0 l0_1).bind fun bt418 => ((dag_Valid.f kj1 a0_0 l0_1).bind fun t424 => ((ancepsref09_Valid.f kj1 a0_0 l0_1).bind fun t425 => (if t424 = t425 then (if bt412.2.2 = bt418.2.2 then ((ancepsref09_Same.f kj1 bt412.1 bt412.2.1 bt418.1 bt418.2.1).bind fun t426 => (ancepslaw09_DagValid.j1 kj1 bt412.2.2 (!t426) a0_0 l0_1 bt412.1 bt412.2.1)) else (ancepslaw09_DagValid.j1 kj1 bt412.2.2 true a0_0 l0_1 bt412.1 bt412.2.1)) else (ancepslaw09_DagValid.j1 kj1 bt412.2.2 true a0_0 l0_1 bt412.1 bt412.2.1))))))) = some r := by rw [if_neg (show ¬ (false = true) by decide)] at H; exact H
    clear H
    have H := H1
    clear H1
    replace H := Option.bind_eq_some_iff.mp H
    obtain ⟨⟨t408, t409⟩, A120, H⟩ := H
    replace H : ((dag_Reverse.f kj1 t408 t409).bind fun bt412 => ((ancepsref09_Reverse.f kj1 a0_0 l0_1).bind fun bt418 => ((dag_Valid.f kj1 a0_0 l0_1).bind fun t424 => ((ancepsref09_Valid.f kj1 a0_0 l0_1).bind fun t425 => (if t424 = t425 then (if bt412.2.2 = bt418.2.2 then ((ancepsref09_Same.f kj1 bt412.1 bt412.2.1 bt418.1 bt418.2.1).bind fun t426 => (ancepslaw09_DagValid.j1 kj1 bt412.2.2 (!t426) a0_0 l0_1 bt412.1 bt412.2.1)) else (ancepslaw09_DagValid.j1 kj1 bt412.2.2 true a0_0 l0_1 bt412.1 bt412.2.1)) else (ancepslaw09_DagValid.j1 kj1 bt412.2.2 true a0_0 l0_1 bt412.1 bt412.2.1)))))) = some r := H
    have A12 := Aside0.mk A120
    clear A120
    replace H := Option.bind_eq_some_iff.mp H
    obtain ⟨⟨t412, t413, t416⟩, A130, H⟩ := H
    replace H : ((ancepsref09_Reverse.f kj1 a0_0 l0_1).bind fun bt418 => ((dag_Valid.f kj1 a0_0 l0_1).bind fun t424 => ((ancepsref09_Valid.f kj1 a0_0 l0_1).bind fun t425 => (if t424 = t425 then (if t416 = bt418.2.2 then ((ancepsref09_Same.f kj1 t412 t413 bt418.1 bt418.2.1).bind fun t426 => (ancepslaw09_DagValid.j1 kj1 t416 (!t426) a0_0 l0_1 t412 t413)) else (ancepslaw09_DagValid.j1 kj1 t416 true a0_0 l0_1 t412 t413)) else (ancepslaw09_DagValid.j1 kj1 t416 true a0_0 l0_1 t412 t413))))) = some r := H
    have A13 := Aside0.mk A130
    clear A130
    replace H := Option.bind_eq_some_iff.mp H
    obtain ⟨⟨t418, t419, t422⟩, A140, H⟩ := H
    replace H : ((dag_Valid.f kj1 a0_0 l0_1).bind fun t424 => ((ancepsref09_Valid.f kj1 a0_0 l0_1).bind fun t425 => (if t424 = t425 then (if t416 = t422 then ((ancepsref09_Same.f kj1 t412 t413 t418 t419).bind fun t426 => (ancepslaw09_DagValid.j1 kj1 t416 (!t426) a0_0 l0_1 t412 t413)) else (ancepslaw09_DagValid.j1 kj1 t416 true a0_0 l0_1 t412 t413)) else (ancepslaw09_DagValid.j1 kj1 t416 true a0_0 l0_1 t412 t413)))) = some r := H
    have A14 := Aside0.mk A140
    clear A140
    have HC15 := Aside0.mk H
    clear H
    have hcz16_0 : wc.cell? ⟨gb405, 0, none⟩ = some (.int .i64 a0_0) := (blk_cell BK405.out 0).trans rfl
    have hcz16_1 : wc.cell? ⟨gb405, 1, none⟩ = some (.slice A0_1 l0_1.length c0_1) := (blk_cell BK405.out 1).trans rfl
    have hfz16_0 := blk_frozen BK405.out 0
    have hfz16_1 := blk_frozen BK405.out 1
    go_upto_region 5 with (first | ((with_reducible refine gate_callee (f := 25) rfl ?_); refine goesL_ (some 19) rfl rfl Try.func25 zK rfl #[.agg #[.int .i64 a0_0, .slice A0_1 l0_1.length c0_1]] rfl zM ?_; (with_reducible refine (ancepslaw09_own.calls a0_0 _ _ l0_1 t408 t409 _ ?side1 ?side2 A12.out).mono ?_); (case side1 => repeat (first | exact (Kd.C_below HR0_1.out HB.out) | (with_reducible refine Kd.C_alloc ?_ _) | (with_reducible refine Kd.C_drewN ?_ _) | (with_reducible refine Kd.C_drew ?_))); (case side2 => exact HC0_1.out); rintro e w17 ⟨v410, rfl, ho0, hb⟩; refine ⟨_, rfl, ?_⟩; have n0_ := Aside0.mk (Kd.R_lower ho0 (below_size zB)); have n1_ := Aside0.mk (blk_below (g := gb405) (o := .cells #[.int .i64 a0_0, .slice A0_1 l0_1.length c0_1] 24 (0, 0)) (zk BK405) hb); have n2_ := Aside0.mk (below_step zB hb); clear BK405; clear HB; have HO411 := n0_; have BK405 := n1_; have HB := n2_; clear n0_ n1_ n2_; (try clear hb); (try clear hb2); (try clear hk); (try clear hi); (try clear ho0); obtain ⟨Ao18, co18, eo18⟩ := Kd.R_slice HO411.out; subst eo18) | ((with_reducible refine gate_callee (f := 24) rfl ?_); refine goesL_ (some 20) rfl rfl Try.func24 zK rfl #[.agg #[.int .i64 t408, .slice Ao18 t409.length co18]] rfl zM ?_; (with_reducible refine (dag_Reverse.calls kj1 t408 _ _ t409 t412 t413 t416 _ ?side1 ?side2 A13.out).mono ?_); (case side1 => repeat (first | exact (Kd.R_reads' HO411.out).2.2 | (with_reducible refine Kd.C_alloc ?_ _) | (with_reducible refine Kd.C_drewN ?_ _) | (with_reducible refine Kd.C_drew ?_))); (case side2 => exact (Kd.R_reads' HO411.out).2.1); rintro e w19 ⟨v414, rfl, ho0, hb⟩; refine ⟨_, rfl, ?_⟩; have n0_ := Aside0.mk (Kd.R_elder' (zR HO411) (Kd.R_base ho0) hb); have n1_ := Aside0.mk (Kd.R_lower (Kd.R_new' ho0 (Kd.R_lt (zR HO411))) (below_size zB)); have n2_ := Aside0.mk (blk_below (g := gb405) (o := .cells #[.int .i64 a0_0, .slice A0_1 l0_1.length c0_1] 24 (0, 0)) (zk BK405) hb); have n3_ := Aside0.mk (below_step zB hb); clear HO411; clear BK405; clear HB; have HO411 := n0_; have HO415 := n1_; have BK405 := n2_; have HB := n3_; clear n0_ n1_ n2_ n3_; (try clear hb); (try clear hb2); (try clear hk); (try clear hi); (try clear ho0)) | ((with_reducible refine gate_dst (N := 3) rfl ?_); (try (refine gate_guard (by rfl) ?_; dsimp only)); refine box_event ?hg (N := 3) ?hd (cs := #[.int .i64 0, .slice none 0 0]) (t := 24) ?hr ?_; (case hd => rfl); (case hg => rfl); (case hr => first | (go_simp; done) | (go_simp; rfl)); intro gb417 hg w20 hbox hb; have n0_ := Aside0.mk (Kd.R_below (zR HO411) hb); have n1_ := Aside0.mk (Kd.R_below (zR HO415) hb); have n2_ := Aside0.mk (blk_below (g := gb405) (o := .cells #[.int .i64 a0_0, .slice A0_1 l0_1.length c0_1] 24 (0, 0)) (zk BK405) hb); have n3_ := Aside0.mk (below_step zB hb); have n4_ := Aside0.mk (hbox); have n5_ := Aside0.mk ((by rw [hg]; exact (below_size zB) : w.heap.size ≤ gb417)); have n6_ := Aside0.mk ((by rw [hg]; exact (below_size zB) : w.heap.size ≤ gb417)); have n7_ := Aside0.mk ((by rw [hg]; exact Nat.ne_of_lt (blk_lt (g := gb405) (o := .cells #[.int .i64 a0_0, .slice A0_1 l0_1.length c0_1] 24 (0, 0)) (zk BK405)) : gb405 ≠ gb417)); have n8_ := Aside0.mk ((by rw [hg]; exact Nat.ne_of_gt (blk_lt (g := gb405) (o := .cells #[.int .i64 a0_0, .slice A0_1 l0_1.length c0_1] 24 (0, 0)) (zk BK405)) : gb417 ≠ gb405)); clear HO411; clear HO415; clear BK405; clear HB; have HO411 := n0_; have HO415 := n1_; have BK405 := n2_; have HB := n3_; have BK417 := n4_; have GW417 := n5_; have GE417 := n6_; have NB405_417 := n7_; have NB417_405 := n8_; clear n0_ n1_ n2_ n3_ n4_ n5_ n6_ n7_ n8_; clear hb hbox hg; have hnb21 := NB417_405.out; have hnc21 := NB405_417.out; have hcz22_0 : w20.cell? ⟨gb417, 0, none⟩ = some (.int .i64 0) := (blk_cell BK417.out 0).trans rfl; have hcz22_1 : w20.cell? ⟨gb417, 1, none⟩ = some (.slice none 0 0) := (blk_cell BK417.out 1).trans rfl; have hfz22_0 := blk_frozen BK417.out 0; have hfz22_1 := blk_frozen BK417.out 1; obtain ⟨Ao23, co23, eo23⟩ := Kd.R_slice HO415.out; subst eo23; have hcz24_0 : w20.cell? ⟨gb405, 0, none⟩ = some (.int .i64 a0_0) := (blk_cell BK405.out 0).trans rfl; have hcz24_1 : w20.cell? ⟨gb405, 1, none⟩ = some (.slice A0_1 l0_1.length c0_1) := (blk_cell BK405.out 1).trans rfl; have hfz24_0 := blk_frozen BK405.out 0; have hfz24_1 := blk_frozen BK405.out 1) | ((with_reducible refine gate_callee (f := 26) rfl ?_); refine goesL_ (some 25) rfl rfl Try.func26 zK rfl #[.agg #[.int .i64 a0_0, .slice A0_1 l0_1.length c0_1]] rfl zM ?_; (with_reducible refine (ancepsref09_Reverse.calls kj1 a0_0 _ _ l0_1 t418 t419 t422 _ ?side1 ?side2 A14.out).mono ?_); (case side1 => exact Kd.C_below HR0_1.out zB); (case side2 => exact HC0_1.out); rintro e w25 ⟨v420, rfl, ho0, hb⟩; refine ⟨_, rfl, ?_⟩; have n0_ := Aside0.mk (Kd.R_elder' (by (with_reducible repeat (first | apply Kd.R_alloc | apply Kd.R_drewN | apply Kd.R_drew)); exact (Kd.R_mono (Kd.R_far (p := ⟨gb417, 1, none⟩) (Kd.R_far (p := ⟨gb417, 0, none⟩) (Kd.R_types HO411.out BK417.out (by decide)) (fun _ hk => hk.2) (.int .i64 t412)) (fun _ hk => hk.2) (.slice Ao23 t413.length co23)) (fun _ h_ => h_.1))) (Kd.R_base ho0) hb); have n1_ := Aside0.mk (Kd.R_elder' (by (with_reducible repeat (first | apply Kd.R_alloc | apply Kd.R_drewN | apply Kd.R_drew)); exact (Kd.R_mono (Kd.R_far (p := ⟨gb417, 1, none⟩) (Kd.R_far (p := ⟨gb417, 0, none⟩) (Kd.R_types HO415.out BK417.out (by decide)) (fun _ hk => hk.2) (.int .i64 t412)) (fun _ hk => hk.2) (.slice Ao23 t413.length co23)) (fun _ h_ => h_.1))) (Kd.R_base ho0) hb); have n2_ := Aside0.mk (Kd.R_lower (Kd.R_new' (Kd.R_new' ho0 (Kd.R_lt (by (with_reducible repeat (first | apply Kd.R_alloc | apply Kd.R_drewN | apply Kd.R_drew)); exact (Kd.R_mono (Kd.R_far (p := ⟨gb417, 1, none⟩) (Kd.R_far (p := ⟨gb417, 0, none⟩) (Kd.R_types HO411.out BK417.out (by decide)) (fun _ hk => hk.2) (.int .i64 t412)) (fun _ hk => hk.2) (.slice Ao23 t413.length co23)) (fun _ h_ => h_.1))))) (Kd.R_lt (by (with_reducible repeat (first | apply Kd.R_alloc | apply Kd.R_drewN | apply Kd.R_drew)); exact (Kd.R_mono (Kd.R_far (p := ⟨gb417, 1, none⟩) (Kd.R_far (p := ⟨gb417, 0, none⟩) (Kd.R_types HO415.out BK417.out (by decide)) (fun _ hk => hk.2) (.int .i64 t412)) (fun _ hk => hk.2) (.slice Ao23 t413.length co23)) (fun _ h_ => h_.1))))) (below_size zB)); have n3_ := Aside0.mk (blk_below (g := gb405) (o := .cells #[.int .i64 a0_0, .slice A0_1 l0_1.length c0_1] 24 (0, 0)) (by (with_reducible repeat (first | refine blk_drewN ?_ _ | refine blk_drew ?_ | refine blk_alloc ?_ _)); refine blk_far ?_ NB405_417.out _; (with_reducible repeat (first | refine blk_drewN ?_ _ | refine blk_drew ?_ | refine blk_alloc ?_ _)); refine blk_far ?_ NB405_417.out _; (with_reducible repeat (first | refine blk_drewN ?_ _ | refine blk_drew ?_ | refine blk_alloc ?_ _)); exact BK405.out) hb); have n4_ := Aside0.mk (blk_below (g := gb417) (o := .cells #[.int .i64 t412, .slice Ao23 t413.length co23] 24 (0, 0)) (by (with_reducible repeat (first | refine blk_drewN ?_ _ | refine blk_drew ?_ | refine blk_alloc ?_ _)); refine blk_put (cs := #[.int .i64 t412, .slice none 0 0]) ?_ 1 _ rfl; (with_reducible repeat (first | refine blk_drewN ?_ _ | refine blk_drew ?_ | refine blk_alloc ?_ _)); refine blk_put (cs := #[.int .i64 0, .slice none 0 0]) ?_ 0 _ rfl; (with_reducible repeat (first | refine blk_drewN ?_ _ | refine blk_drew ?_ | refine blk_alloc ?_ _)); exact BK417.out) hb); have n5_ := Aside0.mk (below_step zB hb); clear HO411; clear HO415; clear BK405; clear BK417; clear HB; have HO411 := n0_; have HO415 := n1_; have HO421 := n2_; have BK405 := n3_; have BK417 := n4_; have HB := n5_; clear n0_ n1_ n2_ n3_ n4_ n5_; (try clear hb); (try clear hb2); (try clear hk); (try clear hi); (try clear ho0)) | ((with_reducible refine gate_dst (N := 5) rfl ?_); (try (refine gate_guard (by rfl) ?_; dsimp only)); refine box_event ?hg (N := 5) ?hd (cs := #[.int .i64 0, .slice none 0 0]) (t := 24) ?hr ?_; (case hd => rfl); (case hg => rfl); (case hr => first | (go_simp; done) | (go_simp; rfl)); intro gb423 hg w26 hbox hb; have n0_ := Aside0.mk (Kd.R_below (zR HO411) hb); have n1_ := Aside0.mk (Kd.R_below (zR HO415) hb); have n2_ := Aside0.mk (Kd.R_below (zR HO421) hb); have n3_ := Aside0.mk (blk_below (g := gb405) (o := .cells #[.int .i64 a0_0, .slice A0_1 l0_1.length c0_1] 24 (0, 0)) (zk BK405) hb); have n4_ := Aside0.mk (blk_below (g := gb417) (o := .cells #[.int .i64 t412, .slice Ao23 t413.length co23] 24 (0, 0)) (zk BK417) hb); have n5_ := Aside0.mk (below_step zB hb); have n6_ := Aside0.mk (hbox); have n7_ := Aside0.mk ((by rw [hg]; exact (below_size zB) : w.heap.size ≤ gb423)); have n8_ := Aside0.mk ((by rw [hg]; exact (below_size zB) : w.heap.size ≤ gb423)); have n9_ := Aside0.mk ((by rw [hg]; exact Nat.ne_of_lt (blk_lt (g := gb405) (o := .cells #[.int .i64 a0_0, .slice A0_1 l0_1.length c0_1] 24 (0, 0)) (zk BK405)) : gb405 ≠ gb423)); have n10_ := Aside0.mk ((by rw [hg]; exact Nat.ne_of_gt (blk_lt (g := gb405) (o := .cells #[.int .i64 a0_0, .slice A0_1 l0_1.length c0_1] 24 (0, 0)) (zk BK405)) : gb423 ≠ gb405)); have n11_ := Aside0.mk ((by rw [hg]; exact Nat.ne_of_lt (blk_lt (g := gb417) (o := .cells #[.int .i64 t412, .slice Ao23 t413.length co23] 24 (0, 0)) (zk BK417)) : gb417 ≠ gb423)); have n12_ := Aside0.mk ((by rw [hg]; exact Nat.ne_of_gt (blk_lt (g := gb417) (o := .cells #[.int .i64 t412, .slice Ao23 t413.length co23] 24 (0, 0)) (zk BK417)) : gb423 ≠ gb417)); clear HO411; clear HO415; clear HO421; clear BK405; clear BK417; clear HB; have HO411 := n0_; have HO415 := n1_; have HO421 := n2_; have BK405 := n3_; have BK417 := n4_; have HB := n5_; have BK423 := n6_; have GW423 := n7_; have GE423 := n8_; have NB405_423 := n9_; have NB423_405 := n10_; have NB417_423 := n11_; have NB423_417 := n12_; clear n0_ n1_ n2_ n3_ n4_ n5_ n6_ n7_ n8_ n9_ n10_ n11_ n12_; clear hb hbox hg; have hnb27 := NB423_405.out; have hnc27 := NB405_423.out; have hnb28 := NB423_417.out; have hnc28 := NB417_423.out; have hcz29_0 : w26.cell? ⟨gb423, 0, none⟩ = some (.int .i64 0) := (blk_cell BK423.out 0).trans rfl; have hcz29_1 : w26.cell? ⟨gb423, 1, none⟩ = some (.slice none 0 0) := (blk_cell BK423.out 1).trans rfl; have hfz29_0 := blk_frozen BK423.out 0; have hfz29_1 := blk_frozen BK423.out 1; obtain ⟨Ao30, co30, eo30⟩ := Kd.R_slice HO421.out; subst eo30))
    (try simp only [Act.put, List.setIfInBounds_toArray, List.set_cons_zero, List.set_cons_succ])
    go_cut [43] (fun v43 wc => ∃ (kq : Nat) (x43_14 : Bool), v43 = .bool x43_14 ∧ Aside0 (ancepslaw09_DagValid.j1 kq t416 x43_14 a0_0 l0_1 t412 t413 = some r) ∧ Aside0 (kq ≤ kj1) ∧ Aside0 (Kd.R k69 69 wc w.heap.size (fun k_ => some k_ ≠ ((.slice Ao30 t419.length co30) : Value).ownBlock) (.slice Ao23 t413.length co23) t413) ∧ Aside0 (Kd.R k69 69 wc w.heap.size (fun k_ => some k_ ≠ ((.slice Ao23 t413.length co23) : Value).ownBlock) (.slice Ao30 t419.length co30) t419) ∧ Aside0 (wc.heap[gb405]? = some (.cells #[.int .i64 a0_0, (.slice A0_1 l0_1.length c0_1)] 24 (0, 0))) ∧ Aside0 (wc.heap[gb417]? = some (.cells #[.int .i64 t412, (.slice Ao23 t413.length co23)] 24 (0, 0))) ∧ Aside0 (wc.heap[gb423]? = some (.cells #[.int .i64 t418, (.slice Ao30 t419.length co30)] 24 (0, 0))) ∧ Aside0 (Below w.heap.size w wc))
    case first =>
     have H := HC15.out
     clear HC15
     replace H := Option.bind_eq_some_iff.mp H
     obtain ⟨t424, A310, H⟩ := H
     replace H : ((ancepsref09_Valid.f kj1 a0_0 l0_1).bind fun t425 => (if t424 = t425 then (if t416 = t422 then ((ancepsref09_Same.f kj1 t412 t413 t418 t419).bind fun t426 => (ancepslaw09_DagValid.j1 kj1 t416 (!t426) a0_0 l0_1 t412 t413)) else (ancepslaw09_DagValid.j1 kj1 t416 true a0_0 l0_1 t412 t413)) else (ancepslaw09_DagValid.j1 kj1 t416 true a0_0 l0_1 t412 t413))) = some r := H
     have A31 := Aside0.mk A310
     clear A310
     replace H := Option.bind_eq_some_iff.mp H
     obtain ⟨t425, A320, H⟩ := H
     replace H : (if t424 = t425 then (if t416 = t422 then ((ancepsref09_Same.f kj1 t412 t413 t418 t419).bind fun t426 => (ancepslaw09_DagValid.j1 kj1 t416 (!t426) a0_0 l0_1 t412 t413)) else (ancepslaw09_DagValid.j1 kj1 t416 true a0_0 l0_1 t412 t413)) else (ancepslaw09_DagValid.j1 kj1 t416 true a0_0 l0_1 t412 t413)) = some r := H
     have A32 := Aside0.mk A320
     clear A320
     by_cases c33 : t424 = t425
     ·rw [if_pos c33] at H
      have c33b0 : (t424 == t425) = true := beq_iff_eq.mpr c33
      have c33b1 : (t424 != t425) = false := bne_eq_false_iff_eq.mpr c33
      clear c33
      (first | rw [c33b0] | (simp only [i64_w, i32_w]; rw [c33b0]) | skip)
      (try rw [c33b1])
      by_cases c34 : t416 = t422
      ·rw [if_pos c34] at H
       have c34b0 : (t416 == t422) = true := beq_iff_eq.mpr c34
       have c34b1 : (t416 != t422) = false := bne_eq_false_iff_eq.mpr c34
       clear c34
       replace H := Option.bind_eq_some_iff.mp H
       obtain ⟨t426, A350, H⟩ := H
       replace H : (ancepslaw09_DagValid.j1 kj1 t416 (!t426) a0_0 l0_1 t412 t413) = some r := H
       have A35 := Aside0.mk A350
       clear A350
       have H' := Aside0.mk H
       clear H
       try go_wp2
       have n0_ : Aside0 (Kd.R k69 69 ((w26.setCell ⟨gb423, 0, none⟩ (.int .i64 t418)).setCell ⟨gb423, 1, none⟩ (.slice Ao30 t419.length co30)) w.heap.size (fun k_ => some k_ ≠ (.slice Ao23 t413.length co23 : Value).ownBlock ∧ some k_ ≠ (.slice Ao30 t419.length co30 : Value).ownBlock) (.slice Ao18 t409.length co18) t409) := ⟨by (with_reducible repeat (first | apply Kd.R_alloc | apply Kd.R_drewN | apply Kd.R_drew)); exact Kd.R_mono (Kd.R_far (p := ⟨gb423, 1, none⟩) (Kd.R_far (p := ⟨gb423, 0, none⟩) (Kd.R_types HO411.out BK423.out (by decide)) (fun _ hk => hk.2) (.int .i64 t418)) (fun _ hk => hk.2) (.slice Ao30 t419.length co30)) (fun _ hk => ⟨hk.1.1.2, hk.1.2⟩)⟩
       have n1_ : Aside0 (Kd.R k69 69 ((w26.setCell ⟨gb423, 0, none⟩ (.int .i64 t418)).setCell ⟨gb423, 1, none⟩ (.slice Ao30 t419.length co30)) w.heap.size (fun k_ => some k_ ≠ (.slice Ao18 t409.length co18 : Value).ownBlock ∧ some k_ ≠ (.slice Ao30 t419.length co30 : Value).ownBlock) (.slice Ao23 t413.length co23) t413) := ⟨by (with_reducible repeat (first | apply Kd.R_alloc | apply Kd.R_drewN | apply Kd.R_drew)); exact Kd.R_mono (Kd.R_far (p := ⟨gb423, 1, none⟩) (Kd.R_far (p := ⟨gb423, 0, none⟩) (Kd.R_types HO415.out BK423.out (by decide)) (fun _ hk => hk.2) (.int .i64 t418)) (fun _ hk => hk.2) (.slice Ao30 t419.length co30)) (fun _ hk => ⟨hk.1.1.2, hk.1.2⟩)⟩
       have n2_ : Aside0 (Kd.R k69 69 ((w26.setCell ⟨gb423, 0, none⟩ (.int .i64 t418)).setCell ⟨gb423, 1, none⟩ (.slice Ao30 t419.length co30)) w.heap.size (fun k_ => some k_ ≠ (.slice Ao18 t409.length co18 : Value).ownBlock ∧ some k_ ≠ (.slice Ao23 t413.length co23 : Value).ownBlock) (.slice Ao30 t419.length co30) t419) := ⟨by (with_reducible repeat (first | apply Kd.R_alloc | apply Kd.R_drewN | apply Kd.R_drew)); exact Kd.R_mono (Kd.R_far (p := ⟨gb423, 1, none⟩) (Kd.R_far (p := ⟨gb423, 0, none⟩) (Kd.R_types HO421.out BK423.out (by decide)) (fun _ hk => hk.2) (.int .i64 t418)) (fun _ hk => hk.2) (.slice Ao30 t419.length co30)) (fun _ hk => ⟨hk.1.1.2, hk.1.2⟩)⟩
       have n3_ : Aside0 (((w26.setCell ⟨gb423, 0, none⟩ (.int .i64 t418)).setCell ⟨gb423, 1, none⟩ (.slice Ao30 t419.length co30)).heap[gb405]? = some (.cells #[.int .i64 a0_0, .slice A0_1 l0_1.length c0_1] 24 (0, 0))) := ⟨by (with_reducible repeat (first | refine blk_drewN ?_ _ | refine blk_drew ?_ | refine blk_alloc ?_ _)); refine blk_far ?_ NB405_423.out _; (with_reducible repeat (first | refine blk_drewN ?_ _ | refine blk_drew ?_ | refine blk_alloc ?_ _)); refine blk_far ?_ NB405_423.out _; (with_reducible repeat (first | refine blk_drewN ?_ _ | refine blk_drew ?_ | refine blk_alloc ?_ _)); exact BK405.out⟩
       have n4_ : Aside0 (((w26.setCell ⟨gb423, 0, none⟩ (.int .i64 t418)).setCell ⟨gb423, 1, none⟩ (.slice Ao30 t419.length co30)).heap[gb417]? = some (.cells #[.int .i64 t412, .slice Ao23 t413.length co23] 24 (0, 0))) := ⟨by (with_reducible repeat (first | refine blk_drewN ?_ _ | refine blk_drew ?_ | refine blk_alloc ?_ _)); refine blk_far ?_ NB417_423.out _; (with_reducible repeat (first | refine blk_drewN ?_ _ | refine blk_drew ?_ | refine blk_alloc ?_ _)); refine blk_far ?_ NB417_423.out _; (with_reducible repeat (first | refine blk_drewN ?_ _ | refine blk_drew ?_ | refine blk_alloc ?_ _)); exact BK417.out⟩
       have n5_ : Aside0 (((w26.setCell ⟨gb423, 0, none⟩ (.int .i64 t418)).setCell ⟨gb423, 1, none⟩ (.slice Ao30 t419.length co30)).heap[gb423]? = some (.cells #[.int .i64 t418, .slice Ao30 t419.length co30] 24 (0, 0))) := ⟨by (with_reducible repeat (first | refine blk_drewN ?_ _ | refine blk_drew ?_ | refine blk_alloc ?_ _)); refine blk_put (cs := #[.int .i64 t418, .slice none 0 0]) ?_ 1 _ rfl; (with_reducible repeat (first | refine blk_drewN ?_ _ | refine blk_drew ?_ | refine blk_alloc ?_ _)); refine blk_put (cs := #[.int .i64 0, .slice none 0 0]) ?_ 0 _ rfl; (with_reducible repeat (first | refine blk_drewN ?_ _ | refine blk_drew ?_ | refine blk_alloc ?_ _)); exact BK423.out⟩
       have n6_ : Aside0 (Below w.heap.size w ((w26.setCell ⟨gb423, 0, none⟩ (.int .i64 t418)).setCell ⟨gb423, 1, none⟩ (.slice Ao30 t419.length co30))) := ⟨by repeat (first | (with_reducible first | exact HB.out | apply below_alloc | apply pw_below_drewN | apply below_drew1 | refine below_set ?_ GE405.out | refine below_set ?_ GE417.out | refine below_set ?_ GE423.out) | exact HB.out)⟩
       (try clear HO411)
       (try clear HO415)
       (try clear HO421)
       (try clear BK405)
       (try clear BK417)
       (try clear BK423)
       (try clear HB)
       generalize ((w26.setCell ⟨gb423, 0, none⟩ (.int .i64 t418)).setCell ⟨gb423, 1, none⟩ (.slice Ao30 t419.length co30)) = w36 at n0_ n1_ n2_ n3_ n4_ n5_ n6_ ⊢
       have HO411 := n0_
       have HO415 := n1_
       have HO421 := n2_
       have BK405 := n3_
       have BK417 := n4_
       have BK423 := n5_
       have HB := n6_
       clear n0_ n1_ n2_ n3_ n4_ n5_ n6_
       have n0_ := Aside0.mk (Kd.R_drew HO411.out)
       have n1_ := Aside0.mk (Kd.R_drew HO415.out)
       have n2_ := Aside0.mk (Kd.R_drew HO421.out)
       have n3_ := Aside0.mk (blk_drew BK405.out)
       have n4_ := Aside0.mk (blk_drew BK417.out)
       have n5_ := Aside0.mk (blk_drew BK423.out)
       have n6_ := Aside0.mk (below_drew1 HB.out)
       clear HO411
       clear HO415
       clear HO421
       clear BK405
       clear BK417
       clear BK423
       clear HB
       have HO411 := n0_
       have HO415 := n1_
       have HO421 := n2_
       have BK405 := n3_
       have BK417 := n4_
       have BK423 := n5_
       have HB := n6_
       clear n0_ n1_ n2_ n3_ n4_ n5_ n6_
       refine start_ (n := 16) (S := fun w' => w'.cell? ⟨gb405, 0, none⟩ = some (.int .i64 a0_0) ∧ w'.cell? ⟨gb405, 1, none⟩ = some (.slice A0_1 l0_1.length c0_1) ∧ w'.cell? ⟨gb417, 0, none⟩ = some (.int .i64 t412) ∧ w'.cell? ⟨gb417, 1, none⟩ = some (.slice Ao23 t413.length co23) ∧ w'.cell? ⟨gb423, 0, none⟩ = some (.int .i64 t418) ∧ w'.cell? ⟨gb423, 1, none⟩ = some (.slice Ao30 t419.length co30)) (ds := []) #[false, false, false, false, false, false, false, false, false, false, false, false, false, false, false, false] zK rfl rfl ⟨(blk_cell BK405.out 0).trans rfl, (blk_cell BK405.out 1).trans rfl, (blk_cell BK417.out 0).trans rfl, (blk_cell BK417.out 1).trans rfl, (blk_cell BK423.out 0).trans rfl, (blk_cell BK423.out 1).trans rfl⟩ (fun hHeld => ?_); refine with_tabW ancepslaw09_DagValid.tab5 ancepslaw09_DagValid.bits5 (fun HT_ HW_ => ?_)
       generalize w36.drew = w37 at HO411 HO415 HO421 BK405 BK417 BK423 HB hHeld ⊢
       refine take_ (i := 0) (N := some 28) (v := ?_) (a' := ?_) #[true, false, false, false, false, false, false, false, false, false, false, false, false, false, false, false] rfl rfl (take_ofW HT_.out HW_.out zK) (fun _ _ _ h => h) (Or.inl ⟨by rfl, ?_⟩) hHeld ?_ ?_
       rotate_left
       ·rintro w' ⟨s0, s1, s2, s3, s4, s5⟩
        go_simp
        with_reducible rfl
       rotate_left
       ·simp only [Act.put, List.setIfInBounds_toArray, List.set_cons_zero, List.set_cons_succ, i64_w, i32_w]
        rfl
       refine take_ (i := 2) (N := some 30) (v := ?_) (a' := ?_) #[true, false, true, false, false, false, false, false, false, false, false, false, false, false, false, false] rfl rfl (take_ofW HT_.out HW_.out zK) (fun _ _ _ h => h) (Or.inl ⟨by rfl, ?_⟩) hHeld ?_ ?_
       rotate_left
       ·rintro w' ⟨s0, s1, s2, s3, s4, s5⟩
        go_simp
        with_reducible rfl
       rotate_left
       ·simp only [Act.put, List.setIfInBounds_toArray, List.set_cons_zero, List.set_cons_succ, i64_w, i32_w]
        rfl
       refine one_ (i := 1) (N := some 29) #[true, true, true, false, false, false, false, false, false, false, false, false, false, false, false, false] rfl rfl (one_of HT_.out zK) (by decide) (fun K hK => ?_)
       refine goes_ Try.func27 zK rfl #[.agg #[.int .i64 a0_0, .slice A0_1 l0_1.length c0_1]] (by rfl) rfl rfl zM ?_
       with_reducible refine (dag_Valid.calls kj1 a0_0 _ _ l0_1 t424 _ ?side1 ?side2 A31.out).mono ?_
       (case side1 => repeat (first | exact (Kd.C_below HR0_1.out HB.out) | (with_reducible refine Kd.C_alloc ?_ _) | (with_reducible refine Kd.C_drewN ?_ _) | (with_reducible refine Kd.C_drew ?_)))
       (case side2 => exact HC0_1.out)
       rintro e w38 ⟨rfl, hb⟩
       refine ⟨_, rfl, ?_⟩
       have n0_ := Aside0.mk (Kd.R_below (zR HO411) hb)
       have n1_ := Aside0.mk (Kd.R_below (zR HO415) hb)
       have n2_ := Aside0.mk (Kd.R_below (zR HO421) hb)
       have n3_ := Aside0.mk (blk_below (g := gb405) (o := .cells #[.int .i64 a0_0, .slice A0_1 l0_1.length c0_1] 24 (0, 0)) (zk BK405) hb)
       have n4_ := Aside0.mk (blk_below (g := gb417) (o := .cells #[.int .i64 t412, .slice Ao23 t413.length co23] 24 (0, 0)) (zk BK417) hb)
       have n5_ := Aside0.mk (blk_below (g := gb423) (o := .cells #[.int .i64 t418, .slice Ao30 t419.length co30] 24 (0, 0)) (zk BK423) hb)
       have n6_ := Aside0.mk (below_step zB hb)
       clear HO411
       clear HO415
       clear HO421
       clear BK405
       clear BK417
       clear BK423
       clear HB
       have HO411 := n0_
       have HO415 := n1_
       have HO421 := n2_
       have BK405 := n3_
       have BK417 := n4_
       have BK423 := n5_
       have HB := n6_
       clear n0_ n1_ n2_ n3_ n4_ n5_ n6_
       (try clear hb)
       (try clear hb2)
       (try clear hk)
       (try clear hi)
       refine hK.out _ _ ⟨(blk_cell BK405.out 0).trans rfl, (blk_cell BK405.out 1).trans rfl, (blk_cell BK417.out 0).trans rfl, (blk_cell BK417.out 1).trans rfl, (blk_cell BK423.out 0).trans rfl, (blk_cell BK423.out 1).trans rfl⟩ (fun hHeld => ?_)
       clear hK K
       refine norm_ (a' := ?_) ?_ ?_
       rotate_left
       ·show Act.put _ (some 29) _ = _
        simp only [Act.put, List.setIfInBounds_toArray, List.set_cons_zero, List.set_cons_succ, i64_w, i32_w]
        rfl
       refine one_ (i := 3) (N := some 31) #[true, true, true, true, false, false, false, false, false, false, false, false, false, false, false, false] rfl rfl (one_of HT_.out zK) (by decide) (fun K hK => ?_)
       refine goes_ Try.func28 zK rfl #[.agg #[.int .i64 a0_0, .slice A0_1 l0_1.length c0_1]] (by rfl) rfl rfl zM ?_
       with_reducible refine (ancepsref09_Valid.calls kj1 a0_0 _ _ l0_1 t425 _ ?side1 ?side2 A32.out).mono ?_
       (case side1 => repeat (first | exact (Kd.C_below HR0_1.out HB.out) | (with_reducible refine Kd.C_alloc ?_ _) | (with_reducible refine Kd.C_drewN ?_ _) | (with_reducible refine Kd.C_drew ?_)))
       (case side2 => exact HC0_1.out)
       rintro e w39 ⟨rfl, hb⟩
       refine ⟨_, rfl, ?_⟩
       have n0_ := Aside0.mk (Kd.R_below (zR HO411) hb)
       have n1_ := Aside0.mk (Kd.R_below (zR HO415) hb)
       have n2_ := Aside0.mk (Kd.R_below (zR HO421) hb)
       have n3_ := Aside0.mk (blk_below (g := gb405) (o := .cells #[.int .i64 a0_0, .slice A0_1 l0_1.length c0_1] 24 (0, 0)) (zk BK405) hb)
       have n4_ := Aside0.mk (blk_below (g := gb417) (o := .cells #[.int .i64 t412, .slice Ao23 t413.length co23] 24 (0, 0)) (zk BK417) hb)
       have n5_ := Aside0.mk (blk_below (g := gb423) (o := .cells #[.int .i64 t418, .slice Ao30 t419.length co30] 24 (0, 0)) (zk BK423) hb)
       have n6_ := Aside0.mk (below_step zB hb)
       clear HO411
       clear HO415
       clear HO421
       clear BK405
       clear BK417
       clear BK423
       clear HB
       have HO411 := n0_
       have HO415 := n1_
       have HO421 := n2_
       have BK405 := n3_
       have BK417 := n4_
       have BK423 := n5_
       have HB := n6_
       clear n0_ n1_ n2_ n3_ n4_ n5_ n6_
       (try clear hb)
       (try clear hb2)
       (try clear hk)
       (try clear hi)
       refine hK.out _ _ ⟨(blk_cell BK405.out 0).trans rfl, (blk_cell BK405.out 1).trans rfl, (blk_cell BK417.out 0).trans rfl, (blk_cell BK417.out 1).trans rfl, (blk_cell BK423.out 0).trans rfl, (blk_cell BK423.out 1).trans rfl⟩ (fun hHeld => ?_)
       clear hK K
       refine norm_ (a' := ?_) ?_ ?_
       rotate_left
       ·show Act.put _ (some 31) _ = _
        simp only [Act.put, List.setIfInBounds_toArray, List.set_cons_zero, List.set_cons_succ, i64_w, i32_w]
        rfl
       refine pure_ (i := 4) (N := some 32) (v := ?_) (a' := ?_) #[true, true, true, true, true, false, false, false, false, false, false, false, false, false, false, false] rfl rfl (any_of HT_.out zK) (fun _ _ _ h => h) (Or.inl ⟨by rfl, ?_⟩) ?_ ?_
       rotate_left
       ·intro w'
        go_simp
        with_reducible rfl
       rotate_left
       ·simp only [Act.put, List.setIfInBounds_toArray, List.set_cons_zero, List.set_cons_succ, i64_w, i32_w]
        rfl
       refine pure_ (i := 5) (N := some 33) (v := ?_) (a' := ?_) #[true, true, true, true, true, true, false, false, false, false, false, false, false, false, false, false] rfl rfl (any_of HT_.out zK) (fun _ _ _ h => h) (Or.inl ⟨by rfl, ?_⟩) ?_ ?_
       rotate_left
       ·intro w'
        go_simp
        with_reducible rfl
       rotate_left
       ·simp only [Act.put, List.setIfInBounds_toArray, List.set_cons_zero, List.set_cons_succ, i64_w, i32_w]
        rfl
       refine pure_ (i := 6) (N := some 34) (v := ?_) (a' := ?_) #[true, true, true, true, true, true, true, false, false, false, false, false, false, false, false, false] rfl rfl (any_of HT_.out zK) (fun _ _ _ h => h) (Or.inl ⟨by rfl, ?_⟩) ?_ ?_
       rotate_left
       ·intro w'
        go_simp
        with_reducible rfl
       rotate_left
       ·simp only [Act.put, List.setIfInBounds_toArray, List.set_cons_zero, List.set_cons_succ, i64_w, i32_w]
        rfl
       refine pure_ (i := 7) (N := some 35) (v := ?_) (a' := ?_) #[true, true, true, true, true, true, true, true, false, false, false, false, false, false, false, false] rfl rfl (any_of HT_.out zK) (fun _ _ _ h => h) (Or.inl ⟨by rfl, ?_⟩) ?_ ?_
       rotate_left
       ·intro w'
        go_simp
        with_reducible rfl
       rotate_left
       ·simp only [Act.put, List.setIfInBounds_toArray, List.set_cons_zero, List.set_cons_succ, i64_w, i32_w]
        rfl
       refine pure_ (i := 8) (N := some 36) (v := ?_) (a' := ?_) #[true, true, true, true, true, true, true, true, true, false, false, false, false, false, false, false] rfl rfl (any_of HT_.out zK) (fun _ _ _ h => h) (Or.inl ⟨by rfl, ?_⟩) ?_ ?_
       rotate_left
       ·intro w'
        go_simp
        with_reducible rfl
       rotate_left
       ·simp only [Act.put, List.setIfInBounds_toArray, List.set_cons_zero, List.set_cons_succ, i64_w, i32_w]
        rfl
       refine pure_ (i := 9) (N := some 37) (v := ?_) (a' := ?_) #[true, true, true, true, true, true, true, true, true, true, false, false, false, false, false, false] rfl rfl (any_of HT_.out zK) (fun _ _ _ h => h) (Or.inl ⟨by rfl, ?_⟩) ?_ ?_
       rotate_left
       ·intro w'
        go_simp
        with_reducible rfl
       rotate_left
       ·simp only [Act.put, List.setIfInBounds_toArray, List.set_cons_zero, List.set_cons_succ, i64_w, i32_w]
        rfl
       refine pure_ (i := 10) (N := some 38) (v := ?_) (a' := ?_) #[true, true, true, true, true, true, true, true, true, true, true, false, false, false, false, false] rfl rfl (any_of HT_.out zK) (fun _ _ _ h => h) (Or.inl ⟨by rfl, ?_⟩) ?_ ?_
       rotate_left
       ·intro w'
        go_simp
        with_reducible rfl
       rotate_left
       ·simp only [Act.put, List.setIfInBounds_toArray, List.set_cons_zero, List.set_cons_succ, i64_w, i32_w]
        rfl
       refine take_ (i := 11) (N := some 39) (v := ?_) (a' := ?_) #[true, true, true, true, true, true, true, true, true, true, true, true, false, false, false, false] rfl rfl (take_ofW HT_.out HW_.out zK) (fun _ _ _ h => h) (Or.inl ⟨by rfl, ?_⟩) hHeld ?_ ?_
       rotate_left
       ·rintro w' ⟨s0, s1, s2, s3, s4, s5⟩
        go_simp
        with_reducible rfl
       rotate_left
       ·simp only [Act.put, List.setIfInBounds_toArray, List.set_cons_zero, List.set_cons_succ, i64_w, i32_w]
        rfl
       refine take_ (i := 12) (N := some 40) (v := ?_) (a' := ?_) #[true, true, true, true, true, true, true, true, true, true, true, true, true, false, false, false] rfl rfl (take_ofW HT_.out HW_.out zK) (fun _ _ _ h => h) (Or.inl ⟨by rfl, ?_⟩) hHeld ?_ ?_
       rotate_left
       ·rintro w' ⟨s0, s1, s2, s3, s4, s5⟩
        go_simp
        with_reducible rfl
       rotate_left
       ·simp only [Act.put, List.setIfInBounds_toArray, List.set_cons_zero, List.set_cons_succ, i64_w, i32_w]
        rfl
       refine one_ (i := 13) (N := some 41) #[true, true, true, true, true, true, true, true, true, true, true, true, true, true, false, false] rfl rfl (one_of HT_.out zK) (by decide) (fun K hK => ?_)
       refine goes_ Try.func29 zK rfl #[.agg #[.int .i64 t412, .slice Ao23 t413.length co23], .agg #[.int .i64 t418, .slice Ao30 t419.length co30]] (by rfl) rfl rfl zM ?_
       with_reducible refine (ancepsref09_Same.calls kj1 t412 _ _ t413 t418 _ _ t419 t426 _ ?side1 ?side2 ?side3 ?side4 A35.out).mono ?_
       (case side1 => repeat (first | exact (Kd.R_reads' HO415.out).2.2 | (with_reducible refine Kd.C_alloc ?_ _) | (with_reducible refine Kd.C_drewN ?_ _) | (with_reducible refine Kd.C_drew ?_)))
       (case side2 => exact (Kd.R_reads' HO415.out).2.1)
       (case side3 => repeat (first | exact (Kd.R_reads' HO421.out).2.2 | (with_reducible refine Kd.C_alloc ?_ _) | (with_reducible refine Kd.C_drewN ?_ _) | (with_reducible refine Kd.C_drew ?_)))
       (case side4 => exact (Kd.R_reads' HO421.out).2.1)
       rintro e w40 ⟨rfl, hb⟩
       refine ⟨_, rfl, ?_⟩
       have n0_ := Aside0.mk (Kd.R_below (zR HO411) hb)
       have n1_ := Aside0.mk (Kd.R_below (zR HO415) hb)
       have n2_ := Aside0.mk (Kd.R_below (zR HO421) hb)
       have n3_ := Aside0.mk (blk_below (g := gb405) (o := .cells #[.int .i64 a0_0, .slice A0_1 l0_1.length c0_1] 24 (0, 0)) (zk BK405) hb)
       have n4_ := Aside0.mk (blk_below (g := gb417) (o := .cells #[.int .i64 t412, .slice Ao23 t413.length co23] 24 (0, 0)) (zk BK417) hb)
       have n5_ := Aside0.mk (blk_below (g := gb423) (o := .cells #[.int .i64 t418, .slice Ao30 t419.length co30] 24 (0, 0)) (zk BK423) hb)
       have n6_ := Aside0.mk (below_step zB hb)
       clear HO411
       clear HO415
       clear HO421
       clear BK405
       clear BK417
       clear BK423
       clear HB
       have HO411 := n0_
       have HO415 := n1_
       have HO421 := n2_
       have BK405 := n3_
       have BK417 := n4_
       have BK423 := n5_
       have HB := n6_
       clear n0_ n1_ n2_ n3_ n4_ n5_ n6_
       (try clear hb)
       (try clear hb2)
       (try clear hk)
       (try clear hi)
       refine hK.out _ _ ⟨(blk_cell BK405.out 0).trans rfl, (blk_cell BK405.out 1).trans rfl, (blk_cell BK417.out 0).trans rfl, (blk_cell BK417.out 1).trans rfl, (blk_cell BK423.out 0).trans rfl, (blk_cell BK423.out 1).trans rfl⟩ (fun hHeld => ?_)
       clear hK K
       refine norm_ (a' := ?_) ?_ ?_
       rotate_left
       ·show Act.put _ (some 41) _ = _
        simp only [Act.put, List.setIfInBounds_toArray, List.set_cons_zero, List.set_cons_succ, i64_w, i32_w]
        rfl
       refine pure_ (i := 14) (N := some 42) (v := ?_) (a' := ?_) #[true, true, true, true, true, true, true, true, true, true, true, true, true, true, true, false] rfl rfl (any_of HT_.out zK) (fun _ _ _ h => h) (Or.inl ⟨by rfl, ?_⟩) ?_ ?_
       rotate_left
       ·intro w'
        go_simp
        with_reducible rfl
       rotate_left
       ·simp only [Act.put, List.setIfInBounds_toArray, List.set_cons_zero, List.set_cons_succ, i64_w, i32_w]
        rfl
       refine pure_ (i := 15) (N := some 43) (v := ?_) (a' := ?_) #[true, true, true, true, true, true, true, true, true, true, true, true, true, true, true, true] rfl rfl (any_of HT_.out zK) (fun _ _ _ h => h) (Or.inl ⟨by rfl, ?_⟩) ?_ ?_
       rotate_left
       ·intro w'
        go_simp
        with_reducible rfl
       rotate_left
       ·simp only [Act.put, List.setIfInBounds_toArray, List.set_cons_zero, List.set_cons_succ, i64_w, i32_w]
        rfl
       refine done_ (done_of HT_.out zK) ?_
       try go_wp2
       go_meet
       case rel => exact ⟨_, (!t426), zT, H', ⟨by have := HJ1.out; first | omega | exact Nat.le_refl _⟩, ⟨by (with_reducible repeat (first | apply Kd.R_alloc | apply Kd.R_drewN | apply Kd.R_drew)); exact Kd.R_mono HO415.out (fun _ hk => hk.2)⟩, ⟨by (with_reducible repeat (first | apply Kd.R_alloc | apply Kd.R_drewN | apply Kd.R_drew)); exact Kd.R_mono HO421.out (fun _ hk => hk.2)⟩, ⟨by (with_reducible repeat (first | refine blk_drewN ?_ _ | refine blk_drew ?_ | refine blk_alloc ?_ _)); exact BK405.out⟩, ⟨by (with_reducible repeat (first | refine blk_drewN ?_ _ | refine blk_drew ?_ | refine blk_alloc ?_ _)); exact BK417.out⟩, ⟨by (with_reducible repeat (first | refine blk_drewN ?_ _ | refine blk_drew ?_ | refine blk_alloc ?_ _)); exact BK423.out⟩, ⟨by repeat (first | (with_reducible first | exact HB.out | apply below_alloc | apply pw_below_drewN | apply below_drew1 | refine below_set ?_ GE405.out | refine below_set ?_ GE417.out | refine below_set ?_ GE423.out) | exact HB.out)⟩⟩
      ·rw [if_neg c34] at H
       have c34b0 : (t416 == t422) = false := beq_eq_false_iff_ne.mpr c34
       have c34b1 : (t416 != t422) = true := bne_iff_ne.mpr c34
       have H' := Aside0.mk H
       clear H
       try go_wp2
       have n0_ : Aside0 (Kd.R k69 69 ((w26.setCell ⟨gb423, 0, none⟩ (.int .i64 t418)).setCell ⟨gb423, 1, none⟩ (.slice Ao30 t419.length co30)) w.heap.size (fun k_ => some k_ ≠ (.slice Ao23 t413.length co23 : Value).ownBlock ∧ some k_ ≠ (.slice Ao30 t419.length co30 : Value).ownBlock) (.slice Ao18 t409.length co18) t409) := ⟨by (with_reducible repeat (first | apply Kd.R_alloc | apply Kd.R_drewN | apply Kd.R_drew)); exact Kd.R_mono (Kd.R_far (p := ⟨gb423, 1, none⟩) (Kd.R_far (p := ⟨gb423, 0, none⟩) (Kd.R_types HO411.out BK423.out (by decide)) (fun _ hk => hk.2) (.int .i64 t418)) (fun _ hk => hk.2) (.slice Ao30 t419.length co30)) (fun _ hk => ⟨hk.1.1.2, hk.1.2⟩)⟩
       have n1_ : Aside0 (Kd.R k69 69 ((w26.setCell ⟨gb423, 0, none⟩ (.int .i64 t418)).setCell ⟨gb423, 1, none⟩ (.slice Ao30 t419.length co30)) w.heap.size (fun k_ => some k_ ≠ (.slice Ao18 t409.length co18 : Value).ownBlock ∧ some k_ ≠ (.slice Ao30 t419.length co30 : Value).ownBlock) (.slice Ao23 t413.length co23) t413) := ⟨by (with_reducible repeat (first | apply Kd.R_alloc | apply Kd.R_drewN | apply Kd.R_drew)); exact Kd.R_mono (Kd.R_far (p := ⟨gb423, 1, none⟩) (Kd.R_far (p := ⟨gb423, 0, none⟩) (Kd.R_types HO415.out BK423.out (by decide)) (fun _ hk => hk.2) (.int .i64 t418)) (fun _ hk => hk.2) (.slice Ao30 t419.length co30)) (fun _ hk => ⟨hk.1.1.2, hk.1.2⟩)⟩
       have n2_ : Aside0 (Kd.R k69 69 ((w26.setCell ⟨gb423, 0, none⟩ (.int .i64 t418)).setCell ⟨gb423, 1, none⟩ (.slice Ao30 t419.length co30)) w.heap.size (fun k_ => some k_ ≠ (.slice Ao18 t409.length co18 : Value).ownBlock ∧ some k_ ≠ (.slice Ao23 t413.length co23 : Value).ownBlock) (.slice Ao30 t419.length co30) t419) := ⟨by (with_reducible repeat (first | apply Kd.R_alloc | apply Kd.R_drewN | apply Kd.R_drew)); exact Kd.R_mono (Kd.R_far (p := ⟨gb423, 1, none⟩) (Kd.R_far (p := ⟨gb423, 0, none⟩) (Kd.R_types HO421.out BK423.out (by decide)) (fun _ hk => hk.2) (.int .i64 t418)) (fun _ hk => hk.2) (.slice Ao30 t419.length co30)) (fun _ hk => ⟨hk.1.1.2, hk.1.2⟩)⟩
       have n3_ : Aside0 (((w26.setCell ⟨gb423, 0, none⟩ (.int .i64 t418)).setCell ⟨gb423, 1, none⟩ (.slice Ao30 t419.length co30)).heap[gb405]? = some (.cells #[.int .i64 a0_0, .slice A0_1 l0_1.length c0_1] 24 (0, 0))) := ⟨by (with_reducible repeat (first | refine blk_drewN ?_ _ | refine blk_drew ?_ | refine blk_alloc ?_ _)); refine blk_far ?_ NB405_423.out _; (with_reducible repeat (first | refine blk_drewN ?_ _ | refine blk_drew ?_ | refine blk_alloc ?_ _)); refine blk_far ?_ NB405_423.out _; (with_reducible repeat (first | refine blk_drewN ?_ _ | refine blk_drew ?_ | refine blk_alloc ?_ _)); exact BK405.out⟩
       have n4_ : Aside0 (((w26.setCell ⟨gb423, 0, none⟩ (.int .i64 t418)).setCell ⟨gb423, 1, none⟩ (.slice Ao30 t419.length co30)).heap[gb417]? = some (.cells #[.int .i64 t412, .slice Ao23 t413.length co23] 24 (0, 0))) := ⟨by (with_reducible repeat (first | refine blk_drewN ?_ _ | refine blk_drew ?_ | refine blk_alloc ?_ _)); refine blk_far ?_ NB417_423.out _; (with_reducible repeat (first | refine blk_drewN ?_ _ | refine blk_drew ?_ | refine blk_alloc ?_ _)); refine blk_far ?_ NB417_423.out _; (with_reducible repeat (first | refine blk_drewN ?_ _ | refine blk_drew ?_ | refine blk_alloc ?_ _)); exact BK417.out⟩
       have n5_ : Aside0 (((w26.setCell ⟨gb423, 0, none⟩ (.int .i64 t418)).setCell ⟨gb423, 1, none⟩ (.slice Ao30 t419.length co30)).heap[gb423]? = some (.cells #[.int .i64 t418, .slice Ao30 t419.length co30] 24 (0, 0))) := ⟨by (with_reducible repeat (first | refine blk_drewN ?_ _ | refine blk_drew ?_ | refine blk_alloc ?_ _)); refine blk_put (cs := #[.int .i64 t418, .slice none 0 0]) ?_ 1 _ rfl; (with_reducible repeat (first | refine blk_drewN ?_ _ | refine blk_drew ?_ | refine blk_alloc ?_ _)); refine blk_put (cs := #[.int .i64 0, .slice none 0 0]) ?_ 0 _ rfl; (with_reducible repeat (first | refine blk_drewN ?_ _ | refine blk_drew ?_ | refine blk_alloc ?_ _)); exact BK423.out⟩
       have n6_ : Aside0 (Below w.heap.size w ((w26.setCell ⟨gb423, 0, none⟩ (.int .i64 t418)).setCell ⟨gb423, 1, none⟩ (.slice Ao30 t419.length co30))) := ⟨by repeat (first | (with_reducible first | exact HB.out | apply below_alloc | apply pw_below_drewN | apply below_drew1 | refine below_set ?_ GE405.out | refine below_set ?_ GE417.out | refine below_set ?_ GE423.out) | exact HB.out)⟩
       (try clear HO411)
       (try clear HO415)
       (try clear HO421)
       (try clear BK405)
       (try clear BK417)
       (try clear BK423)
       (try clear HB)
       generalize ((w26.setCell ⟨gb423, 0, none⟩ (.int .i64 t418)).setCell ⟨gb423, 1, none⟩ (.slice Ao30 t419.length co30)) = w41 at n0_ n1_ n2_ n3_ n4_ n5_ n6_ ⊢
       have HO411 := n0_
       have HO415 := n1_
       have HO421 := n2_
       have BK405 := n3_
       have BK417 := n4_
       have BK423 := n5_
       have HB := n6_
       clear n0_ n1_ n2_ n3_ n4_ n5_ n6_
       have n0_ := Aside0.mk (Kd.R_drew HO411.out)
       have n1_ := Aside0.mk (Kd.R_drew HO415.out)
       have n2_ := Aside0.mk (Kd.R_drew HO421.out)
       have n3_ := Aside0.mk (blk_drew BK405.out)
       have n4_ := Aside0.mk (blk_drew BK417.out)
       have n5_ := Aside0.mk (blk_drew BK423.out)
       have n6_ := Aside0.mk (below_drew1 HB.out)
       clear HO411
       clear HO415
       clear HO421
       clear BK405
       clear BK417
       clear BK423
       clear HB
       have HO411 := n0_
       have HO415 := n1_
       have HO421 := n2_
       have BK405 := n3_
       have BK417 := n4_
       have BK423 := n5_
       have HB := n6_
       clear n0_ n1_ n2_ n3_ n4_ n5_ n6_
       refine start_ (n := 16) (S := fun w' => w'.cell? ⟨gb405, 0, none⟩ = some (.int .i64 a0_0) ∧ w'.cell? ⟨gb405, 1, none⟩ = some (.slice A0_1 l0_1.length c0_1)) (ds := []) #[false, false, false, false, false, false, false, false, false, false, false, false, false, false, false, false] zK rfl rfl ⟨(blk_cell BK405.out 0).trans rfl, (blk_cell BK405.out 1).trans rfl⟩ (fun hHeld => ?_); refine with_tabW ancepslaw09_DagValid.tab5 ancepslaw09_DagValid.bits5 (fun HT_ HW_ => ?_)
       generalize w41.drew = w42 at HO411 HO415 HO421 BK405 BK417 BK423 HB hHeld ⊢
       refine take_ (i := 0) (N := some 28) (v := ?_) (a' := ?_) #[true, false, false, false, false, false, false, false, false, false, false, false, false, false, false, false] rfl rfl (take_ofW HT_.out HW_.out zK) (fun _ _ _ h => h) (Or.inl ⟨by rfl, ?_⟩) hHeld ?_ ?_
       rotate_left
       ·rintro w' ⟨s0, s1⟩
        go_simp
        with_reducible rfl
       rotate_left
       ·simp only [Act.put, List.setIfInBounds_toArray, List.set_cons_zero, List.set_cons_succ, i64_w, i32_w]
        rfl
       refine take_ (i := 2) (N := some 30) (v := ?_) (a' := ?_) #[true, false, true, false, false, false, false, false, false, false, false, false, false, false, false, false] rfl rfl (take_ofW HT_.out HW_.out zK) (fun _ _ _ h => h) (Or.inl ⟨by rfl, ?_⟩) hHeld ?_ ?_
       rotate_left
       ·rintro w' ⟨s0, s1⟩
        go_simp
        with_reducible rfl
       rotate_left
       ·simp only [Act.put, List.setIfInBounds_toArray, List.set_cons_zero, List.set_cons_succ, i64_w, i32_w]
        rfl
       refine one_ (i := 1) (N := some 29) #[true, true, true, false, false, false, false, false, false, false, false, false, false, false, false, false] rfl rfl (one_of HT_.out zK) (by decide) (fun K hK => ?_)
       refine goes_ Try.func27 zK rfl #[.agg #[.int .i64 a0_0, .slice A0_1 l0_1.length c0_1]] (by rfl) rfl rfl zM ?_
       with_reducible refine (dag_Valid.calls kj1 a0_0 _ _ l0_1 t424 _ ?side1 ?side2 A31.out).mono ?_
       (case side1 => repeat (first | exact (Kd.C_below HR0_1.out HB.out) | (with_reducible refine Kd.C_alloc ?_ _) | (with_reducible refine Kd.C_drewN ?_ _) | (with_reducible refine Kd.C_drew ?_)))
       (case side2 => exact HC0_1.out)
       rintro e w43 ⟨rfl, hb⟩
       refine ⟨_, rfl, ?_⟩
       have n0_ := Aside0.mk (Kd.R_below (zR HO411) hb)
       have n1_ := Aside0.mk (Kd.R_below (zR HO415) hb)
       have n2_ := Aside0.mk (Kd.R_below (zR HO421) hb)
       have n3_ := Aside0.mk (blk_below (g := gb405) (o := .cells #[.int .i64 a0_0, .slice A0_1 l0_1.length c0_1] 24 (0, 0)) (zk BK405) hb)
       have n4_ := Aside0.mk (blk_below (g := gb417) (o := .cells #[.int .i64 t412, .slice Ao23 t413.length co23] 24 (0, 0)) (zk BK417) hb)
       have n5_ := Aside0.mk (blk_below (g := gb423) (o := .cells #[.int .i64 t418, .slice Ao30 t419.length co30] 24 (0, 0)) (zk BK423) hb)
       have n6_ := Aside0.mk (below_step zB hb)
       clear HO411
       clear HO415
       clear HO421
       clear BK405
       clear BK417
       clear BK423
       clear HB
       have HO411 := n0_
       have HO415 := n1_
       have HO421 := n2_
       have BK405 := n3_
       have BK417 := n4_
       have BK423 := n5_
       have HB := n6_
       clear n0_ n1_ n2_ n3_ n4_ n5_ n6_
       (try clear hb)
       (try clear hb2)
       (try clear hk)
       (try clear hi)
       refine hK.out _ _ ⟨(blk_cell BK405.out 0).trans rfl, (blk_cell BK405.out 1).trans rfl⟩ (fun hHeld => ?_)
       clear hK K
       refine norm_ (a' := ?_) ?_ ?_
       rotate_left
       ·show Act.put _ (some 29) _ = _
        simp only [Act.put, List.setIfInBounds_toArray, List.set_cons_zero, List.set_cons_succ, i64_w, i32_w]
        rfl
       refine one_ (i := 3) (N := some 31) #[true, true, true, true, false, false, false, false, false, false, false, false, false, false, false, false] rfl rfl (one_of HT_.out zK) (by decide) (fun K hK => ?_)
       refine goes_ Try.func28 zK rfl #[.agg #[.int .i64 a0_0, .slice A0_1 l0_1.length c0_1]] (by rfl) rfl rfl zM ?_
       with_reducible refine (ancepsref09_Valid.calls kj1 a0_0 _ _ l0_1 t425 _ ?side1 ?side2 A32.out).mono ?_
       (case side1 => repeat (first | exact (Kd.C_below HR0_1.out HB.out) | (with_reducible refine Kd.C_alloc ?_ _) | (with_reducible refine Kd.C_drewN ?_ _) | (with_reducible refine Kd.C_drew ?_)))
       (case side2 => exact HC0_1.out)
       rintro e w44 ⟨rfl, hb⟩
       refine ⟨_, rfl, ?_⟩
       have n0_ := Aside0.mk (Kd.R_below (zR HO411) hb)
       have n1_ := Aside0.mk (Kd.R_below (zR HO415) hb)
       have n2_ := Aside0.mk (Kd.R_below (zR HO421) hb)
       have n3_ := Aside0.mk (blk_below (g := gb405) (o := .cells #[.int .i64 a0_0, .slice A0_1 l0_1.length c0_1] 24 (0, 0)) (zk BK405) hb)
       have n4_ := Aside0.mk (blk_below (g := gb417) (o := .cells #[.int .i64 t412, .slice Ao23 t413.length co23] 24 (0, 0)) (zk BK417) hb)
       have n5_ := Aside0.mk (blk_below (g := gb423) (o := .cells #[.int .i64 t418, .slice Ao30 t419.length co30] 24 (0, 0)) (zk BK423) hb)
       have n6_ := Aside0.mk (below_step zB hb)
       clear HO411
       clear HO415
       clear HO421
       clear BK405
       clear BK417
       clear BK423
       clear HB
       have HO411 := n0_
       have HO415 := n1_
       have HO421 := n2_
       have BK405 := n3_
       have BK417 := n4_
       have BK423 := n5_
       have HB := n6_
       clear n0_ n1_ n2_ n3_ n4_ n5_ n6_
       (try clear hb)
       (try clear hb2)
       (try clear hk)
       (try clear hi)
       refine hK.out _ _ ⟨(blk_cell BK405.out 0).trans rfl, (blk_cell BK405.out 1).trans rfl⟩ (fun hHeld => ?_)
       clear hK K
       refine norm_ (a' := ?_) ?_ ?_
       rotate_left
       ·show Act.put _ (some 31) _ = _
        simp only [Act.put, List.setIfInBounds_toArray, List.set_cons_zero, List.set_cons_succ, i64_w, i32_w]
        rfl
       refine pure_ (i := 4) (N := some 32) (v := ?_) (a' := ?_) #[true, true, true, true, true, false, false, false, false, false, false, false, false, false, false, false] rfl rfl (any_of HT_.out zK) (fun _ _ _ h => h) (Or.inl ⟨by rfl, ?_⟩) ?_ ?_
       rotate_left
       ·intro w'
        go_simp
        with_reducible rfl
       rotate_left
       ·simp only [Act.put, List.setIfInBounds_toArray, List.set_cons_zero, List.set_cons_succ, i64_w, i32_w]
        rfl
       refine pure_ (i := 5) (N := some 33) (v := ?_) (a' := ?_) #[true, true, true, true, true, true, false, false, false, false, false, false, false, false, false, false] rfl rfl (any_of HT_.out zK) (fun _ _ _ h => h) (Or.inl ⟨by rfl, ?_⟩) ?_ ?_
       rotate_left
       ·intro w'
        go_simp
        with_reducible rfl
       rotate_left
       ·simp only [Act.put, List.setIfInBounds_toArray, List.set_cons_zero, List.set_cons_succ, i64_w, i32_w]
        rfl
       refine pure_ (i := 6) (N := some 34) (v := ?_) (a' := ?_) #[true, true, true, true, true, true, true, false, false, false, false, false, false, false, false, false] rfl rfl (any_of HT_.out zK) (fun _ _ _ h => h) (Or.inl ⟨by rfl, ?_⟩) ?_ ?_
       rotate_left
       ·intro w'
        go_simp
        with_reducible rfl
       rotate_left
       ·simp only [Act.put, List.setIfInBounds_toArray, List.set_cons_zero, List.set_cons_succ, i64_w, i32_w]
        rfl
       refine pure_ (i := 7) (N := some 35) (v := ?_) (a' := ?_) #[true, true, true, true, true, true, true, true, false, false, false, false, false, false, false, false] rfl rfl (any_of HT_.out zK) (fun _ _ _ h => h) (Or.inl ⟨by rfl, ?_⟩) ?_ ?_
       rotate_left
       ·intro w'
        go_simp
        with_reducible rfl
       rotate_left
       ·simp only [Act.put, List.setIfInBounds_toArray, List.set_cons_zero, List.set_cons_succ, i64_w, i32_w]
        rfl
       refine pure_ (i := 8) (N := some 36) (v := ?_) (a' := ?_) #[true, true, true, true, true, true, true, true, true, false, false, false, false, false, false, false] rfl rfl (any_of HT_.out zK) (fun _ _ _ h => h) (Or.inl ⟨by rfl, ?_⟩) ?_ ?_
       rotate_left
       ·intro w'
        go_simp
        with_reducible rfl
       rotate_left
       ·simp only [Act.put, List.setIfInBounds_toArray, List.set_cons_zero, List.set_cons_succ, i64_w, i32_w]
        rfl
       refine pure_ (i := 9) (N := some 37) (v := ?_) (a' := ?_) #[true, true, true, true, true, true, true, true, true, true, false, false, false, false, false, false] rfl rfl (any_of HT_.out zK) (fun _ _ _ h => h) (Or.inl ⟨by rfl, ?_⟩) ?_ ?_
       rotate_left
       ·intro w'
        go_simp
        with_reducible rfl
       rotate_left
       ·simp only [Act.put, List.setIfInBounds_toArray, List.set_cons_zero, List.set_cons_succ, i64_w, i32_w]
        rfl
       refine pure_ (i := 10) (N := some 38) (v := ?_) (a' := ?_) #[true, true, true, true, true, true, true, true, true, true, true, false, false, false, false, false] rfl rfl (any_of HT_.out zK) (fun _ _ _ h => h) (Or.inl ⟨by rfl, ?_⟩) ?_ ?_
       rotate_left
       ·intro w'
        go_simp
        with_reducible rfl
       rotate_left
       ·simp only [Act.put, List.setIfInBounds_toArray, List.set_cons_zero, List.set_cons_succ, i64_w, i32_w]
        rfl
       refine pure_ (i := 11) (N := some 39) (v := undef) (a' := ?_) #[true, true, true, true, true, true, true, true, true, true, true, true, false, false, false, false] rfl rfl (any_of HT_.out zK) (fun _ _ _ h => h) (Or.inr ⟨by rfl, rfl⟩) ?_ ?_
       rotate_left
       ·simp only [Act.put, List.setIfInBounds_toArray, List.set_cons_zero, List.set_cons_succ, i64_w, i32_w]
        rfl
       refine pure_ (i := 12) (N := some 40) (v := undef) (a' := ?_) #[true, true, true, true, true, true, true, true, true, true, true, true, true, false, false, false] rfl rfl (any_of HT_.out zK) (fun _ _ _ h => h) (Or.inr ⟨by rfl, rfl⟩) ?_ ?_
       rotate_left
       ·simp only [Act.put, List.setIfInBounds_toArray, List.set_cons_zero, List.set_cons_succ, i64_w, i32_w]
        rfl
       refine pure_ (i := 13) (N := some 41) (v := undef) (a' := ?_) #[true, true, true, true, true, true, true, true, true, true, true, true, true, true, false, false] rfl rfl (any_of HT_.out zK) (fun _ _ _ h => h) (Or.inr ⟨by rfl, rfl⟩) ?_ ?_
       rotate_left
       ·simp only [Act.put, List.setIfInBounds_toArray, List.set_cons_zero, List.set_cons_succ, i64_w, i32_w]
        rfl
       refine pure_ (i := 14) (N := some 42) (v := undef) (a' := ?_) #[true, true, true, true, true, true, true, true, true, true, true, true, true, true, true, false] rfl rfl (any_of HT_.out zK) (fun _ _ _ h => h) (Or.inr ⟨by rfl, rfl⟩) ?_ ?_
       rotate_left
       ·simp only [Act.put, List.setIfInBounds_toArray, List.set_cons_zero, List.set_cons_succ, i64_w, i32_w]
        rfl
       refine pure_ (i := 15) (N := some 43) (v := ?_) (a' := ?_) #[true, true, true, true, true, true, true, true, true, true, true, true, true, true, true, true] rfl rfl (any_of HT_.out zK) (fun _ _ _ h => h) (Or.inl ⟨by rfl, ?_⟩) ?_ ?_
       rotate_left
       ·intro w'
        go_simp
        with_reducible rfl
       rotate_left
       ·simp only [Act.put, List.setIfInBounds_toArray, List.set_cons_zero, List.set_cons_succ, i64_w, i32_w]
        rfl
       refine done_ (done_of HT_.out zK) ?_
       try go_wp2
       go_meet
       case rel => exact ⟨_, (true), zT, H', ⟨by have := HJ1.out; first | omega | exact Nat.le_refl _⟩, ⟨by (with_reducible repeat (first | apply Kd.R_alloc | apply Kd.R_drewN | apply Kd.R_drew)); exact Kd.R_mono HO415.out (fun _ hk => hk.2)⟩, ⟨by (with_reducible repeat (first | apply Kd.R_alloc | apply Kd.R_drewN | apply Kd.R_drew)); exact Kd.R_mono HO421.out (fun _ hk => hk.2)⟩, ⟨by (with_reducible repeat (first | refine blk_drewN ?_ _ | refine blk_drew ?_ | refine blk_alloc ?_ _)); exact BK405.out⟩, ⟨by (with_reducible repeat (first | refine blk_drewN ?_ _ | refine blk_drew ?_ | refine blk_alloc ?_ _)); exact BK417.out⟩, ⟨by (with_reducible repeat (first | refine blk_drewN ?_ _ | refine blk_drew ?_ | refine blk_alloc ?_ _)); exact BK423.out⟩, ⟨by repeat (first | (with_reducible first | exact HB.out | apply below_alloc | apply pw_below_drewN | apply below_drew1 | refine below_set ?_ GE405.out | refine below_set ?_ GE417.out | refine below_set ?_ GE423.out) | exact HB.out)⟩⟩
     ·rw [if_neg c33] at H
      have c33b0 : (t424 == t425) = false := beq_eq_false_iff_ne.mpr c33
      have c33b1 : (t424 != t425) = true := bne_iff_ne.mpr c33
      (first | rw [c33b0] | (simp only [i64_w, i32_w]; rw [c33b0]) | skip)
      (try rw [c33b1])
      have H' := Aside0.mk H
      clear H
      try go_wp2
      have n0_ : Aside0 (Kd.R k69 69 ((w26.setCell ⟨gb423, 0, none⟩ (.int .i64 t418)).setCell ⟨gb423, 1, none⟩ (.slice Ao30 t419.length co30)) w.heap.size (fun k_ => some k_ ≠ (.slice Ao23 t413.length co23 : Value).ownBlock ∧ some k_ ≠ (.slice Ao30 t419.length co30 : Value).ownBlock) (.slice Ao18 t409.length co18) t409) := ⟨by (with_reducible repeat (first | apply Kd.R_alloc | apply Kd.R_drewN | apply Kd.R_drew)); exact Kd.R_mono (Kd.R_far (p := ⟨gb423, 1, none⟩) (Kd.R_far (p := ⟨gb423, 0, none⟩) (Kd.R_types HO411.out BK423.out (by decide)) (fun _ hk => hk.2) (.int .i64 t418)) (fun _ hk => hk.2) (.slice Ao30 t419.length co30)) (fun _ hk => ⟨hk.1.1.2, hk.1.2⟩)⟩
      have n1_ : Aside0 (Kd.R k69 69 ((w26.setCell ⟨gb423, 0, none⟩ (.int .i64 t418)).setCell ⟨gb423, 1, none⟩ (.slice Ao30 t419.length co30)) w.heap.size (fun k_ => some k_ ≠ (.slice Ao18 t409.length co18 : Value).ownBlock ∧ some k_ ≠ (.slice Ao30 t419.length co30 : Value).ownBlock) (.slice Ao23 t413.length co23) t413) := ⟨by (with_reducible repeat (first | apply Kd.R_alloc | apply Kd.R_drewN | apply Kd.R_drew)); exact Kd.R_mono (Kd.R_far (p := ⟨gb423, 1, none⟩) (Kd.R_far (p := ⟨gb423, 0, none⟩) (Kd.R_types HO415.out BK423.out (by decide)) (fun _ hk => hk.2) (.int .i64 t418)) (fun _ hk => hk.2) (.slice Ao30 t419.length co30)) (fun _ hk => ⟨hk.1.1.2, hk.1.2⟩)⟩
      have n2_ : Aside0 (Kd.R k69 69 ((w26.setCell ⟨gb423, 0, none⟩ (.int .i64 t418)).setCell ⟨gb423, 1, none⟩ (.slice Ao30 t419.length co30)) w.heap.size (fun k_ => some k_ ≠ (.slice Ao18 t409.length co18 : Value).ownBlock ∧ some k_ ≠ (.slice Ao23 t413.length co23 : Value).ownBlock) (.slice Ao30 t419.length co30) t419) := ⟨by (with_reducible repeat (first | apply Kd.R_alloc | apply Kd.R_drewN | apply Kd.R_drew)); exact Kd.R_mono (Kd.R_far (p := ⟨gb423, 1, none⟩) (Kd.R_far (p := ⟨gb423, 0, none⟩) (Kd.R_types HO421.out BK423.out (by decide)) (fun _ hk => hk.2) (.int .i64 t418)) (fun _ hk => hk.2) (.slice Ao30 t419.length co30)) (fun _ hk => ⟨hk.1.1.2, hk.1.2⟩)⟩
      have n3_ : Aside0 (((w26.setCell ⟨gb423, 0, none⟩ (.int .i64 t418)).setCell ⟨gb423, 1, none⟩ (.slice Ao30 t419.length co30)).heap[gb405]? = some (.cells #[.int .i64 a0_0, .slice A0_1 l0_1.length c0_1] 24 (0, 0))) := ⟨by (with_reducible repeat (first | refine blk_drewN ?_ _ | refine blk_drew ?_ | refine blk_alloc ?_ _)); refine blk_far ?_ NB405_423.out _; (with_reducible repeat (first | refine blk_drewN ?_ _ | refine blk_drew ?_ | refine blk_alloc ?_ _)); refine blk_far ?_ NB405_423.out _; (with_reducible repeat (first | refine blk_drewN ?_ _ | refine blk_drew ?_ | refine blk_alloc ?_ _)); exact BK405.out⟩
      have n4_ : Aside0 (((w26.setCell ⟨gb423, 0, none⟩ (.int .i64 t418)).setCell ⟨gb423, 1, none⟩ (.slice Ao30 t419.length co30)).heap[gb417]? = some (.cells #[.int .i64 t412, .slice Ao23 t413.length co23] 24 (0, 0))) := ⟨by (with_reducible repeat (first | refine blk_drewN ?_ _ | refine blk_drew ?_ | refine blk_alloc ?_ _)); refine blk_far ?_ NB417_423.out _; (with_reducible repeat (first | refine blk_drewN ?_ _ | refine blk_drew ?_ | refine blk_alloc ?_ _)); refine blk_far ?_ NB417_423.out _; (with_reducible repeat (first | refine blk_drewN ?_ _ | refine blk_drew ?_ | refine blk_alloc ?_ _)); exact BK417.out⟩
      have n5_ : Aside0 (((w26.setCell ⟨gb423, 0, none⟩ (.int .i64 t418)).setCell ⟨gb423, 1, none⟩ (.slice Ao30 t419.length co30)).heap[gb423]? = some (.cells #[.int .i64 t418, .slice Ao30 t419.length co30] 24 (0, 0))) := ⟨by (with_reducible repeat (first | refine blk_drewN ?_ _ | refine blk_drew ?_ | refine blk_alloc ?_ _)); refine blk_put (cs := #[.int .i64 t418, .slice none 0 0]) ?_ 1 _ rfl; (with_reducible repeat (first | refine blk_drewN ?_ _ | refine blk_drew ?_ | refine blk_alloc ?_ _)); refine blk_put (cs := #[.int .i64 0, .slice none 0 0]) ?_ 0 _ rfl; (with_reducible repeat (first | refine blk_drewN ?_ _ | refine blk_drew ?_ | refine blk_alloc ?_ _)); exact BK423.out⟩
      have n6_ : Aside0 (Below w.heap.size w ((w26.setCell ⟨gb423, 0, none⟩ (.int .i64 t418)).setCell ⟨gb423, 1, none⟩ (.slice Ao30 t419.length co30))) := ⟨by repeat (first | (with_reducible first | exact HB.out | apply below_alloc | apply pw_below_drewN | apply below_drew1 | refine below_set ?_ GE405.out | refine below_set ?_ GE417.out | refine below_set ?_ GE423.out) | exact HB.out)⟩
      (try clear HO411)
      (try clear HO415)
      (try clear HO421)
      (try clear BK405)
      (try clear BK417)
      (try clear BK423)
      (try clear HB)
      generalize ((w26.setCell ⟨gb423, 0, none⟩ (.int .i64 t418)).setCell ⟨gb423, 1, none⟩ (.slice Ao30 t419.length co30)) = w45 at n0_ n1_ n2_ n3_ n4_ n5_ n6_ ⊢
      have HO411 := n0_
      have HO415 := n1_
      have HO421 := n2_
      have BK405 := n3_
      have BK417 := n4_
      have BK423 := n5_
      have HB := n6_
      clear n0_ n1_ n2_ n3_ n4_ n5_ n6_
      have n0_ := Aside0.mk (Kd.R_drew HO411.out)
      have n1_ := Aside0.mk (Kd.R_drew HO415.out)
      have n2_ := Aside0.mk (Kd.R_drew HO421.out)
      have n3_ := Aside0.mk (blk_drew BK405.out)
      have n4_ := Aside0.mk (blk_drew BK417.out)
      have n5_ := Aside0.mk (blk_drew BK423.out)
      have n6_ := Aside0.mk (below_drew1 HB.out)
      clear HO411
      clear HO415
      clear HO421
      clear BK405
      clear BK417
      clear BK423
      clear HB
      have HO411 := n0_
      have HO415 := n1_
      have HO421 := n2_
      have BK405 := n3_
      have BK417 := n4_
      have BK423 := n5_
      have HB := n6_
      clear n0_ n1_ n2_ n3_ n4_ n5_ n6_
      refine start_ (n := 16) (S := fun w' => w'.cell? ⟨gb405, 0, none⟩ = some (.int .i64 a0_0) ∧ w'.cell? ⟨gb405, 1, none⟩ = some (.slice A0_1 l0_1.length c0_1)) (ds := []) #[false, false, false, false, false, false, false, false, false, false, false, false, false, false, false, false] zK rfl rfl ⟨(blk_cell BK405.out 0).trans rfl, (blk_cell BK405.out 1).trans rfl⟩ (fun hHeld => ?_); refine with_tabW ancepslaw09_DagValid.tab5 ancepslaw09_DagValid.bits5 (fun HT_ HW_ => ?_)
      generalize w45.drew = w46 at HO411 HO415 HO421 BK405 BK417 BK423 HB hHeld ⊢
      refine take_ (i := 0) (N := some 28) (v := ?_) (a' := ?_) #[true, false, false, false, false, false, false, false, false, false, false, false, false, false, false, false] rfl rfl (take_ofW HT_.out HW_.out zK) (fun _ _ _ h => h) (Or.inl ⟨by rfl, ?_⟩) hHeld ?_ ?_
      rotate_left
      ·rintro w' ⟨s0, s1⟩
       go_simp
       with_reducible rfl
      rotate_left
      ·simp only [Act.put, List.setIfInBounds_toArray, List.set_cons_zero, List.set_cons_succ, i64_w, i32_w]
       rfl
      refine take_ (i := 2) (N := some 30) (v := ?_) (a' := ?_) #[true, false, true, false, false, false, false, false, false, false, false, false, false, false, false, false] rfl rfl (take_ofW HT_.out HW_.out zK) (fun _ _ _ h => h) (Or.inl ⟨by rfl, ?_⟩) hHeld ?_ ?_
      rotate_left
      ·rintro w' ⟨s0, s1⟩
       go_simp
       with_reducible rfl
      rotate_left
      ·simp only [Act.put, List.setIfInBounds_toArray, List.set_cons_zero, List.set_cons_succ, i64_w, i32_w]
       rfl
      refine one_ (i := 1) (N := some 29) #[true, true, true, false, false, false, false, false, false, false, false, false, false, false, false, false] rfl rfl (one_of HT_.out zK) (by decide) (fun K hK => ?_)
      refine goes_ Try.func27 zK rfl #[.agg #[.int .i64 a0_0, .slice A0_1 l0_1.length c0_1]] (by rfl) rfl rfl zM ?_
      with_reducible refine (dag_Valid.calls kj1 a0_0 _ _ l0_1 t424 _ ?side1 ?side2 A31.out).mono ?_
      (case side1 => repeat (first | exact (Kd.C_below HR0_1.out HB.out) | (with_reducible refine Kd.C_alloc ?_ _) | (with_reducible refine Kd.C_drewN ?_ _) | (with_reducible refine Kd.C_drew ?_)))
      (case side2 => exact HC0_1.out)
      rintro e w47 ⟨rfl, hb⟩
      refine ⟨_, rfl, ?_⟩
      have n0_ := Aside0.mk (Kd.R_below (zR HO411) hb)
      have n1_ := Aside0.mk (Kd.R_below (zR HO415) hb)
      have n2_ := Aside0.mk (Kd.R_below (zR HO421) hb)
      have n3_ := Aside0.mk (blk_below (g := gb405) (o := .cells #[.int .i64 a0_0, .slice A0_1 l0_1.length c0_1] 24 (0, 0)) (zk BK405) hb)
      have n4_ := Aside0.mk (blk_below (g := gb417) (o := .cells #[.int .i64 t412, .slice Ao23 t413.length co23] 24 (0, 0)) (zk BK417) hb)
      have n5_ := Aside0.mk (blk_below (g := gb423) (o := .cells #[.int .i64 t418, .slice Ao30 t419.length co30] 24 (0, 0)) (zk BK423) hb)
      have n6_ := Aside0.mk (below_step zB hb)
      clear HO411
      clear HO415
      clear HO421
      clear BK405
      clear BK417
      clear BK423
      clear HB
      have HO411 := n0_
      have HO415 := n1_
      have HO421 := n2_
      have BK405 := n3_
      have BK417 := n4_
      have BK423 := n5_
      have HB := n6_
      clear n0_ n1_ n2_ n3_ n4_ n5_ n6_
      (try clear hb)
      (try clear hb2)
      (try clear hk)
      (try clear hi)
      refine hK.out _ _ ⟨(blk_cell BK405.out 0).trans rfl, (blk_cell BK405.out 1).trans rfl⟩ (fun hHeld => ?_)
      clear hK K
      refine norm_ (a' := ?_) ?_ ?_
      rotate_left
      ·show Act.put _ (some 29) _ = _
       simp only [Act.put, List.setIfInBounds_toArray, List.set_cons_zero, List.set_cons_succ, i64_w, i32_w]
       rfl
      refine one_ (i := 3) (N := some 31) #[true, true, true, true, false, false, false, false, false, false, false, false, false, false, false, false] rfl rfl (one_of HT_.out zK) (by decide) (fun K hK => ?_)
      refine goes_ Try.func28 zK rfl #[.agg #[.int .i64 a0_0, .slice A0_1 l0_1.length c0_1]] (by rfl) rfl rfl zM ?_
      with_reducible refine (ancepsref09_Valid.calls kj1 a0_0 _ _ l0_1 t425 _ ?side1 ?side2 A32.out).mono ?_
      (case side1 => repeat (first | exact (Kd.C_below HR0_1.out HB.out) | (with_reducible refine Kd.C_alloc ?_ _) | (with_reducible refine Kd.C_drewN ?_ _) | (with_reducible refine Kd.C_drew ?_)))
      (case side2 => exact HC0_1.out)
      rintro e w48 ⟨rfl, hb⟩
      refine ⟨_, rfl, ?_⟩
      have n0_ := Aside0.mk (Kd.R_below (zR HO411) hb)
      have n1_ := Aside0.mk (Kd.R_below (zR HO415) hb)
      have n2_ := Aside0.mk (Kd.R_below (zR HO421) hb)
      have n3_ := Aside0.mk (blk_below (g := gb405) (o := .cells #[.int .i64 a0_0, .slice A0_1 l0_1.length c0_1] 24 (0, 0)) (zk BK405) hb)
      have n4_ := Aside0.mk (blk_below (g := gb417) (o := .cells #[.int .i64 t412, .slice Ao23 t413.length co23] 24 (0, 0)) (zk BK417) hb)
      have n5_ := Aside0.mk (blk_below (g := gb423) (o := .cells #[.int .i64 t418, .slice Ao30 t419.length co30] 24 (0, 0)) (zk BK423) hb)
      have n6_ := Aside0.mk (below_step zB hb)
      clear HO411
      clear HO415
      clear HO421
      clear BK405
      clear BK417
      clear BK423
      clear HB
      have HO411 := n0_
      have HO415 := n1_
      have HO421 := n2_
      have BK405 := n3_
      have BK417 := n4_
      have BK423 := n5_
      have HB := n6_
      clear n0_ n1_ n2_ n3_ n4_ n5_ n6_
      (try clear hb)
      (try clear hb2)
      (try clear hk)
      (try clear hi)
      refine hK.out _ _ ⟨(blk_cell BK405.out 0).trans rfl, (blk_cell BK405.out 1).trans rfl⟩ (fun hHeld => ?_)
      clear hK K
      refine norm_ (a' := ?_) ?_ ?_
      rotate_left
      ·show Act.put _ (some 31) _ = _
       simp only [Act.put, List.setIfInBounds_toArray, List.set_cons_zero, List.set_cons_succ, i64_w, i32_w]
       rfl
      refine pure_ (i := 4) (N := some 32) (v := ?_) (a' := ?_) #[true, true, true, true, true, false, false, false, false, false, false, false, false, false, false, false] rfl rfl (any_of HT_.out zK) (fun _ _ _ h => h) (Or.inl ⟨by rfl, ?_⟩) ?_ ?_
      rotate_left
      ·intro w'
       go_simp
       with_reducible rfl
      rotate_left
      ·simp only [Act.put, List.setIfInBounds_toArray, List.set_cons_zero, List.set_cons_succ, i64_w, i32_w]
       rfl
      refine pure_ (i := 5) (N := some 33) (v := ?_) (a' := ?_) #[true, true, true, true, true, true, false, false, false, false, false, false, false, false, false, false] rfl rfl (any_of HT_.out zK) (fun _ _ _ h => h) (Or.inl ⟨by rfl, ?_⟩) ?_ ?_
      rotate_left
      ·intro w'
       go_simp
       with_reducible rfl
      rotate_left
      ·simp only [Act.put, List.setIfInBounds_toArray, List.set_cons_zero, List.set_cons_succ, i64_w, i32_w]
       rfl
      refine pure_ (i := 6) (N := some 34) (v := undef) (a' := ?_) #[true, true, true, true, true, true, true, false, false, false, false, false, false, false, false, false] rfl rfl (any_of HT_.out zK) (fun _ _ _ h => h) (Or.inr ⟨by rfl, rfl⟩) ?_ ?_
      rotate_left
      ·simp only [Act.put, List.setIfInBounds_toArray, List.set_cons_zero, List.set_cons_succ, i64_w, i32_w]
       rfl
      refine pure_ (i := 7) (N := some 35) (v := undef) (a' := ?_) #[true, true, true, true, true, true, true, true, false, false, false, false, false, false, false, false] rfl rfl (any_of HT_.out zK) (fun _ _ _ h => h) (Or.inr ⟨by rfl, rfl⟩) ?_ ?_
      rotate_left
      ·simp only [Act.put, List.setIfInBounds_toArray, List.set_cons_zero, List.set_cons_succ, i64_w, i32_w]
       rfl
      refine pure_ (i := 8) (N := some 36) (v := undef) (a' := ?_) #[true, true, true, true, true, true, true, true, true, false, false, false, false, false, false, false] rfl rfl (any_of HT_.out zK) (fun _ _ _ h => h) (Or.inr ⟨by rfl, rfl⟩) ?_ ?_
      rotate_left
      ·simp only [Act.put, List.setIfInBounds_toArray, List.set_cons_zero, List.set_cons_succ, i64_w, i32_w]
       rfl
      refine pure_ (i := 9) (N := some 37) (v := ?_) (a' := ?_) #[true, true, true, true, true, true, true, true, true, true, false, false, false, false, false, false] rfl rfl (any_of HT_.out zK) (fun _ _ _ h => h) (Or.inl ⟨by rfl, ?_⟩) ?_ ?_
      rotate_left
      ·intro w'
       go_simp
       with_reducible rfl
      rotate_left
      ·simp only [Act.put, List.setIfInBounds_toArray, List.set_cons_zero, List.set_cons_succ, i64_w, i32_w]
       rfl
      refine pure_ (i := 10) (N := some 38) (v := ?_) (a' := ?_) #[true, true, true, true, true, true, true, true, true, true, true, false, false, false, false, false] rfl rfl (any_of HT_.out zK) (fun _ _ _ h => h) (Or.inl ⟨by rfl, ?_⟩) ?_ ?_
      rotate_left
      ·intro w'
       go_simp
       with_reducible rfl
      rotate_left
      ·simp only [Act.put, List.setIfInBounds_toArray, List.set_cons_zero, List.set_cons_succ, i64_w, i32_w]
       rfl
      refine pure_ (i := 11) (N := some 39) (v := undef) (a' := ?_) #[true, true, true, true, true, true, true, true, true, true, true, true, false, false, false, false] rfl rfl (any_of HT_.out zK) (fun _ _ _ h => h) (Or.inr ⟨by rfl, rfl⟩) ?_ ?_
      rotate_left
      ·simp only [Act.put, List.setIfInBounds_toArray, List.set_cons_zero, List.set_cons_succ, i64_w, i32_w]
       rfl
      refine pure_ (i := 12) (N := some 40) (v := undef) (a' := ?_) #[true, true, true, true, true, true, true, true, true, true, true, true, true, false, false, false] rfl rfl (any_of HT_.out zK) (fun _ _ _ h => h) (Or.inr ⟨by rfl, rfl⟩) ?_ ?_
      rotate_left
      ·simp only [Act.put, List.setIfInBounds_toArray, List.set_cons_zero, List.set_cons_succ, i64_w, i32_w]
       rfl
      refine pure_ (i := 13) (N := some 41) (v := undef) (a' := ?_) #[true, true, true, true, true, true, true, true, true, true, true, true, true, true, false, false] rfl rfl (any_of HT_.out zK) (fun _ _ _ h => h) (Or.inr ⟨by rfl, rfl⟩) ?_ ?_
      rotate_left
      ·simp only [Act.put, List.setIfInBounds_toArray, List.set_cons_zero, List.set_cons_succ, i64_w, i32_w]
       rfl
      refine pure_ (i := 14) (N := some 42) (v := undef) (a' := ?_) #[true, true, true, true, true, true, true, true, true, true, true, true, true, true, true, false] rfl rfl (any_of HT_.out zK) (fun _ _ _ h => h) (Or.inr ⟨by rfl, rfl⟩) ?_ ?_
      rotate_left
      ·simp only [Act.put, List.setIfInBounds_toArray, List.set_cons_zero, List.set_cons_succ, i64_w, i32_w]
       rfl
      refine pure_ (i := 15) (N := some 43) (v := ?_) (a' := ?_) #[true, true, true, true, true, true, true, true, true, true, true, true, true, true, true, true] rfl rfl (any_of HT_.out zK) (fun _ _ _ h => h) (Or.inl ⟨by rfl, ?_⟩) ?_ ?_
      rotate_left
      ·intro w'
       go_simp
       with_reducible rfl
      rotate_left
      ·simp only [Act.put, List.setIfInBounds_toArray, List.set_cons_zero, List.set_cons_succ, i64_w, i32_w]
       rfl
      refine done_ (done_of HT_.out zK) ?_
      try go_wp2
      go_meet
      case rel => exact ⟨_, (true), zT, H', ⟨by have := HJ1.out; first | omega | exact Nat.le_refl _⟩, ⟨by (with_reducible repeat (first | apply Kd.R_alloc | apply Kd.R_drewN | apply Kd.R_drew)); exact Kd.R_mono HO415.out (fun _ hk => hk.2)⟩, ⟨by (with_reducible repeat (first | apply Kd.R_alloc | apply Kd.R_drewN | apply Kd.R_drew)); exact Kd.R_mono HO421.out (fun _ hk => hk.2)⟩, ⟨by (with_reducible repeat (first | refine blk_drewN ?_ _ | refine blk_drew ?_ | refine blk_alloc ?_ _)); exact BK405.out⟩, ⟨by (with_reducible repeat (first | refine blk_drewN ?_ _ | refine blk_drew ?_ | refine blk_alloc ?_ _)); exact BK417.out⟩, ⟨by (with_reducible repeat (first | refine blk_drewN ?_ _ | refine blk_drew ?_ | refine blk_alloc ?_ _)); exact BK423.out⟩, ⟨by repeat (first | (with_reducible first | exact HB.out | apply below_alloc | apply pw_below_drewN | apply below_drew1 | refine below_set ?_ GE405.out | refine below_set ?_ GE417.out | refine below_set ?_ GE423.out) | exact HB.out)⟩⟩
    case rest =>
     clear HC15
     try clear c2
     try clear p2
     try clear c3
     try clear c27
     try clear c28
     try clear c29
     try clear c33
     try clear c33b0
     try clear c33b1
     try clear c34
     try clear c34b0
     try clear c34b1
     obtain ⟨kq, x43_14, rfl, HA, HJ14, HO_418001, HO_424001, BK405, BK417, BK423, HB⟩ := hcut
     cases kq with
     | zero => exact absurd HA.out (by simp [ancepslaw09_DagValid.j1])
     | succ kj14 =>
      have H := HA.out
      clear HA
      simp only [ancepslaw09_DagValid.j1] at H
      by_cases c49 : x43_14 = true
      ·subst c49
       have H1 : (some false) = some r := by rw [if_pos rfl] at H; exact H
       clear H
       have H := H1
       clear H1
       obtain rfl := Option.some.inj H
       go_wp2
       go_ret
       exact ⟨by first | rfl | (simp [errW_none, errW_some] <;> rfl) | (simp [*, errW_none, errW_some] <;> rfl), by repeat (first | (with_reducible first | exact HB.out | apply below_alloc | apply pw_below_drewN | apply below_drew1 | refine below_set ?_ GE405.out | refine below_set ?_ GE417.out | refine below_set ?_ GE423.out) | exact HB.out)⟩
      ·replace c49 := Bool.eq_false_iff.mpr c49
       subst c49
       have H1 : (if t416 = 0 then ((dag_Reverse.f kj14 t412 t413).bind fun bt427 => (if bt427.2.2 = 0 then ((ancepsref09_Same.f kj14 bt427.1 bt427.2.1 a0_0 l0_1).bind fun t433 => (some t433)) else (some false))) else (some true)) = some r := by rw [if_neg (show ¬ (false = true) by decide)] at H; exact H
       clear H
       have H := H1
       clear H1
       by_cases c50 : t416 = 0
       ·rw [if_pos c50] at H
        have c50b0 : (t416 == 0) = true := beq_iff_eq.mpr c50
        have c50b1 : (t416 != 0) = false := bne_eq_false_iff_eq.mpr c50
        clear c50
        replace H := Option.bind_eq_some_iff.mp H
        obtain ⟨⟨t427, t428, t431⟩, A510, H⟩ := H
        replace H : (if t431 = 0 then ((ancepsref09_Same.f kj14 t427 t428 a0_0 l0_1).bind fun t433 => (some t433)) else (some false)) = some r := H
        have A51 := Aside0.mk A510
        clear A510
        have HC52 := Aside0.mk H
        clear H
        have hnb53 := NB417_405.out
        have hnc53 := NB405_417.out
        have hnb54 := NB417_423.out
        have hnc54 := NB423_417.out
        have hcz55_0 : wc.cell? ⟨gb417, 0, none⟩ = some (.int .i64 t412) := (blk_cell BK417.out 0).trans rfl
        have hcz55_1 : wc.cell? ⟨gb417, 1, none⟩ = some (.slice Ao23 t413.length co23) := (blk_cell BK417.out 1).trans rfl
        have hfz55_0 := blk_frozen BK417.out 0
        have hfz55_1 := blk_frozen BK417.out 1
        go_upto_region 10 with (first | ((with_reducible refine gate_callee (f := 24) rfl ?_); refine goesL_ (some 48) rfl rfl Try.func24 zK rfl #[.agg #[.int .i64 t412, .slice Ao23 t413.length co23]] rfl zM ?_; (with_reducible refine (dag_Reverse.calls kj14 t412 _ _ t413 t427 t428 t431 _ ?side1 ?side2 A51.out).mono ?_); (case side1 => repeat (first | exact (Kd.R_reads' HO_418001.out).2.2 | (with_reducible refine Kd.C_alloc ?_ _) | (with_reducible refine Kd.C_drewN ?_ _) | (with_reducible refine Kd.C_drew ?_))); (case side2 => exact (Kd.R_reads' HO_418001.out).2.1); rintro e w56 ⟨v429, rfl, ho0, hb⟩; refine ⟨_, rfl, ?_⟩; have n0_ := Aside0.mk (Kd.R_elder' (zR HO_418001) (Kd.R_base ho0) hb); have n1_ := Aside0.mk (Kd.R_elder' (zR HO_424001) (Kd.R_base ho0) hb); have n2_ := Aside0.mk (Kd.R_lower (Kd.R_new' (Kd.R_new' ho0 (Kd.R_lt (zR HO_418001))) (Kd.R_lt (zR HO_424001))) (below_size zB)); have n3_ := Aside0.mk (blk_below (g := gb405) (o := .cells #[.int .i64 a0_0, .slice A0_1 l0_1.length c0_1] 24 (0, 0)) (zk BK405) hb); have n4_ := Aside0.mk (blk_below (g := gb417) (o := .cells #[.int .i64 t412, .slice Ao23 t413.length co23] 24 (0, 0)) (zk BK417) hb); have n5_ := Aside0.mk (blk_below (g := gb423) (o := .cells #[.int .i64 t418, .slice Ao30 t419.length co30] 24 (0, 0)) (zk BK423) hb); have n6_ := Aside0.mk (below_step zB hb); clear HO_418001; clear HO_424001; clear BK405; clear BK417; clear BK423; clear HB; have HO_418001 := n0_; have HO_424001 := n1_; have HO430 := n2_; have BK405 := n3_; have BK417 := n4_; have BK423 := n5_; have HB := n6_; clear n0_ n1_ n2_ n3_ n4_ n5_ n6_; (try clear hb); (try clear hb2); (try clear hk); (try clear hi); (try clear ho0)) | ((with_reducible refine gate_dst (N := 7) rfl ?_); (try (refine gate_guard (by rfl) ?_; dsimp only)); refine box_event ?hg (N := 7) ?hd (cs := #[.int .i64 0, .slice none 0 0]) (t := 24) ?hr ?_; (case hd => rfl); (case hg => rfl); (case hr => first | (go_simp; done) | (go_simp; rfl)); intro gb432 hg w57 hbox hb; have n0_ := Aside0.mk (Kd.R_below (zR HO_418001) hb); have n1_ := Aside0.mk (Kd.R_below (zR HO_424001) hb); have n2_ := Aside0.mk (Kd.R_below (zR HO430) hb); have n3_ := Aside0.mk (blk_below (g := gb405) (o := .cells #[.int .i64 a0_0, .slice A0_1 l0_1.length c0_1] 24 (0, 0)) (zk BK405) hb); have n4_ := Aside0.mk (blk_below (g := gb417) (o := .cells #[.int .i64 t412, .slice Ao23 t413.length co23] 24 (0, 0)) (zk BK417) hb); have n5_ := Aside0.mk (blk_below (g := gb423) (o := .cells #[.int .i64 t418, .slice Ao30 t419.length co30] 24 (0, 0)) (zk BK423) hb); have n6_ := Aside0.mk (below_step zB hb); have n7_ := Aside0.mk (hbox); have n8_ := Aside0.mk ((by rw [hg]; exact (below_size zB) : w.heap.size ≤ gb432)); have n9_ := Aside0.mk ((by rw [hg]; exact (below_size zB) : w.heap.size ≤ gb432)); have n10_ := Aside0.mk ((by rw [hg]; exact Nat.ne_of_lt (blk_lt (g := gb405) (o := .cells #[.int .i64 a0_0, .slice A0_1 l0_1.length c0_1] 24 (0, 0)) (zk BK405)) : gb405 ≠ gb432)); have n11_ := Aside0.mk ((by rw [hg]; exact Nat.ne_of_gt (blk_lt (g := gb405) (o := .cells #[.int .i64 a0_0, .slice A0_1 l0_1.length c0_1] 24 (0, 0)) (zk BK405)) : gb432 ≠ gb405)); have n12_ := Aside0.mk ((by rw [hg]; exact Nat.ne_of_lt (blk_lt (g := gb417) (o := .cells #[.int .i64 t412, .slice Ao23 t413.length co23] 24 (0, 0)) (zk BK417)) : gb417 ≠ gb432)); have n13_ := Aside0.mk ((by rw [hg]; exact Nat.ne_of_gt (blk_lt (g := gb417) (o := .cells #[.int .i64 t412, .slice Ao23 t413.length co23] 24 (0, 0)) (zk BK417)) : gb432 ≠ gb417)); have n14_ := Aside0.mk ((by rw [hg]; exact Nat.ne_of_lt (blk_lt (g := gb423) (o := .cells #[.int .i64 t418, .slice Ao30 t419.length co30] 24 (0, 0)) (zk BK423)) : gb423 ≠ gb432)); have n15_ := Aside0.mk ((by rw [hg]; exact Nat.ne_of_gt (blk_lt (g := gb423) (o := .cells #[.int .i64 t418, .slice Ao30 t419.length co30] 24 (0, 0)) (zk BK423)) : gb432 ≠ gb423)); clear HO_418001; clear HO_424001; clear HO430; clear BK405; clear BK417; clear BK423; clear HB; have HO_418001 := n0_; have HO_424001 := n1_; have HO430 := n2_; have BK405 := n3_; have BK417 := n4_; have BK423 := n5_; have HB := n6_; have BK432 := n7_; have GW432 := n8_; have GE432 := n9_; have NB405_432 := n10_; have NB432_405 := n11_; have NB417_432 := n12_; have NB432_417 := n13_; have NB423_432 := n14_; have NB432_423 := n15_; clear n0_ n1_ n2_ n3_ n4_ n5_ n6_ n7_ n8_ n9_ n10_ n11_ n12_ n13_ n14_ n15_; clear hb hbox hg; have hnb58 := NB432_405.out; have hnc58 := NB405_432.out; have hnb59 := NB432_417.out; have hnc59 := NB417_432.out; have hnb60 := NB432_423.out; have hnc60 := NB423_432.out; have hcz61_0 : w57.cell? ⟨gb432, 0, none⟩ = some (.int .i64 0) := (blk_cell BK432.out 0).trans rfl; have hcz61_1 : w57.cell? ⟨gb432, 1, none⟩ = some (.slice none 0 0) := (blk_cell BK432.out 1).trans rfl; have hfz61_0 := blk_frozen BK432.out 0; have hfz61_1 := blk_frozen BK432.out 1; obtain ⟨Ao62, co62, eo62⟩ := Kd.R_slice HO430.out; subst eo62))
        (try simp only [Act.put, List.setIfInBounds_toArray, List.set_cons_zero, List.set_cons_succ])
        have H := HC52.out
        clear HC52
        by_cases c63 : t431 = 0
        ·rw [if_pos c63] at H
         have c63b0 : (t431 == 0) = true := beq_iff_eq.mpr c63
         have c63b1 : (t431 != 0) = false := bne_eq_false_iff_eq.mpr c63
         clear c63
         (first | rw [c63b0] | (simp only [i64_w, i32_w]; rw [c63b0]) | skip)
         (try rw [c63b1])
         replace H := Option.bind_eq_some_iff.mp H
         obtain ⟨t433, A640, H⟩ := H
         replace H : (some t433) = some r := H
         have A64 := Aside0.mk A640
         clear A640
         obtain rfl := Option.some.inj H
         have hnb65 := NB432_405.out
         have hnc65 := NB405_432.out
         have hnb66 := NB432_417.out
         have hnc66 := NB417_432.out
         have hnb67 := NB432_423.out
         have hnc67 := NB423_432.out
         have hcz68_0 : w57.cell? ⟨gb432, 0, none⟩ = some (.int .i64 0) := (blk_cell BK432.out 0).trans rfl
         have hcz68_1 : w57.cell? ⟨gb432, 1, none⟩ = some (.slice none 0 0) := (blk_cell BK432.out 1).trans rfl
         have hfz68_0 := blk_frozen BK432.out 0
         have hfz68_1 := blk_frozen BK432.out 1
         have hnb69 := NB405_417.out
         have hnc69 := NB417_405.out
         have hnb70 := NB405_423.out
         have hnc70 := NB423_405.out
         have hcz71_0 : w57.cell? ⟨gb405, 0, none⟩ = some (.int .i64 a0_0) := (blk_cell BK405.out 0).trans rfl
         have hcz71_1 : w57.cell? ⟨gb405, 1, none⟩ = some (.slice A0_1 l0_1.length c0_1) := (blk_cell BK405.out 1).trans rfl
         have hfz71_0 := blk_frozen BK405.out 0
         have hfz71_1 := blk_frozen BK405.out 1
         go_wp2_with (first | (go_at_call 29; (with_reducible refine (ancepsref09_Same.calls kj14 t427 _ _ t428 a0_0 _ _ l0_1 t433 _ ?side1 ?side2 ?side3 ?side4 A64.out).mono ?_); (case side1 => refine (Kd.R_reads' (e := 69) (base := w.heap.size) (ok := fun k_ => ((True ∧ some k_ ≠ (.slice Ao23 t413.length co23 : Value).ownBlock) ∧ some k_ ≠ (.slice Ao30 t419.length co30 : Value).ownBlock)) (n := t428.length) (c := co62) ?_).2.2; exact (by (with_reducible repeat (first | apply Kd.R_alloc | apply Kd.R_drewN | apply Kd.R_drew)); exact (Kd.R_mono (Kd.R_far (p := ⟨gb432, 1, none⟩) (Kd.R_far (p := ⟨gb432, 0, none⟩) (Kd.R_types HO430.out BK432.out (by decide)) (fun _ hk => hk.2) (.int .i64 t427)) (fun _ hk => hk.2) (.slice Ao62 t428.length co62)) (fun _ h_ => h_.1)))); (case side2 => exact (Kd.R_reads' HO430.out).2.1); (case side3 => exact Kd.C_below HR0_1.out zB); (case side4 => exact HC0_1.out); rintro e w72 ⟨rfl, hb⟩; have n0_ := Aside0.mk (Kd.R_below (by (with_reducible repeat (first | apply Kd.R_alloc | apply Kd.R_drewN | apply Kd.R_drew)); exact (Kd.R_mono (Kd.R_far (p := ⟨gb432, 1, none⟩) (Kd.R_far (p := ⟨gb432, 0, none⟩) (Kd.R_types HO_418001.out BK432.out (by decide)) (fun _ hk => hk.2) (.int .i64 t427)) (fun _ hk => hk.2) (.slice Ao62 t428.length co62)) (fun _ h_ => h_.1))) hb); have n1_ := Aside0.mk (Kd.R_below (by (with_reducible repeat (first | apply Kd.R_alloc | apply Kd.R_drewN | apply Kd.R_drew)); exact (Kd.R_mono (Kd.R_far (p := ⟨gb432, 1, none⟩) (Kd.R_far (p := ⟨gb432, 0, none⟩) (Kd.R_types HO_424001.out BK432.out (by decide)) (fun _ hk => hk.2) (.int .i64 t427)) (fun _ hk => hk.2) (.slice Ao62 t428.length co62)) (fun _ h_ => h_.1))) hb); have n2_ := Aside0.mk (Kd.R_below (by (with_reducible repeat (first | apply Kd.R_alloc | apply Kd.R_drewN | apply Kd.R_drew)); exact (Kd.R_mono (Kd.R_far (p := ⟨gb432, 1, none⟩) (Kd.R_far (p := ⟨gb432, 0, none⟩) (Kd.R_types HO430.out BK432.out (by decide)) (fun _ hk => hk.2) (.int .i64 t427)) (fun _ hk => hk.2) (.slice Ao62 t428.length co62)) (fun _ h_ => h_.1))) hb); have n3_ := Aside0.mk (blk_below (g := gb405) (o := .cells #[.int .i64 a0_0, .slice A0_1 l0_1.length c0_1] 24 (0, 0)) (by (with_reducible repeat (first | refine blk_drewN ?_ _ | refine blk_drew ?_ | refine blk_alloc ?_ _)); refine blk_far ?_ NB405_432.out _; (with_reducible repeat (first | refine blk_drewN ?_ _ | refine blk_drew ?_ | refine blk_alloc ?_ _)); refine blk_far ?_ NB405_432.out _; (with_reducible repeat (first | refine blk_drewN ?_ _ | refine blk_drew ?_ | refine blk_alloc ?_ _)); exact BK405.out) hb); have n4_ := Aside0.mk (blk_below (g := gb417) (o := .cells #[.int .i64 t412, .slice Ao23 t413.length co23] 24 (0, 0)) (by (with_reducible repeat (first | refine blk_drewN ?_ _ | refine blk_drew ?_ | refine blk_alloc ?_ _)); refine blk_far ?_ NB417_432.out _; (with_reducible repeat (first | refine blk_drewN ?_ _ | refine blk_drew ?_ | refine blk_alloc ?_ _)); refine blk_far ?_ NB417_432.out _; (with_reducible repeat (first | refine blk_drewN ?_ _ | refine blk_drew ?_ | refine blk_alloc ?_ _)); exact BK417.out) hb); have n5_ := Aside0.mk (blk_below (g := gb423) (o := .cells #[.int .i64 t418, .slice Ao30 t419.length co30] 24 (0, 0)) (by (with_reducible repeat (first | refine blk_drewN ?_ _ | refine blk_drew ?_ | refine blk_alloc ?_ _)); refine blk_far ?_ NB423_432.out _; (with_reducible repeat (first | refine blk_drewN ?_ _ | refine blk_drew ?_ | refine blk_alloc ?_ _)); refine blk_far ?_ NB423_432.out _; (with_reducible repeat (first | refine blk_drewN ?_ _ | refine blk_drew ?_ | refine blk_alloc ?_ _)); exact BK423.out) hb); have n6_ := Aside0.mk (blk_below (g := gb432) (o := .cells #[.int .i64 t427, .slice Ao62 t428.length co62] 24 (0, 0)) (by (with_reducible repeat (first | refine blk_drewN ?_ _ | refine blk_drew ?_ | refine blk_alloc ?_ _)); refine blk_put (cs := #[.int .i64 t427, .slice none 0 0]) ?_ 1 _ rfl; (with_reducible repeat (first | refine blk_drewN ?_ _ | refine blk_drew ?_ | refine blk_alloc ?_ _)); refine blk_put (cs := #[.int .i64 0, .slice none 0 0]) ?_ 0 _ rfl; (with_reducible repeat (first | refine blk_drewN ?_ _ | refine blk_drew ?_ | refine blk_alloc ?_ _)); exact BK432.out) hb); have n7_ := Aside0.mk (below_step zB hb); clear HO_418001; clear HO_424001; clear HO430; clear BK405; clear BK417; clear BK423; clear BK432; clear HB; have HO_418001 := n0_; have HO_424001 := n1_; have HO430 := n2_; have BK405 := n3_; have BK417 := n4_; have BK423 := n5_; have BK432 := n6_; have HB := n7_; clear n0_ n1_ n2_ n3_ n4_ n5_ n6_ n7_; (try clear hb); (try clear hb2); (try clear hk); (try clear hi)))
         go_ret
         exact ⟨by first | rfl | (simp [errW_none, errW_some] <;> rfl) | (simp [*, errW_none, errW_some] <;> rfl), by repeat (first | (with_reducible first | exact HB.out | apply below_alloc | apply pw_below_drewN | apply below_drew1 | refine below_set ?_ GE405.out | refine below_set ?_ GE417.out | refine below_set ?_ GE423.out | refine below_set ?_ GE432.out) | exact HB.out)⟩
        ·rw [if_neg c63] at H
         have c63b0 : (t431 == 0) = false := beq_eq_false_iff_ne.mpr c63
         have c63b1 : (t431 != 0) = true := bne_iff_ne.mpr c63
         (first | rw [c63b0] | (simp only [i64_w, i32_w]; rw [c63b0]) | skip)
         (try rw [c63b1])
         obtain rfl := Option.some.inj H
         go_wp2
         go_ret
         exact ⟨by first | rfl | (simp [errW_none, errW_some] <;> rfl) | (simp [*, errW_none, errW_some] <;> rfl), by repeat (first | (with_reducible first | exact HB.out | apply below_alloc | apply pw_below_drewN | apply below_drew1 | refine below_set ?_ GE405.out | refine below_set ?_ GE417.out | refine below_set ?_ GE423.out | refine below_set ?_ GE432.out) | exact HB.out)⟩
       ·rw [if_neg c50] at H
        have c50b0 : (t416 == 0) = false := beq_eq_false_iff_ne.mpr c50
        have c50b1 : (t416 != 0) = true := bne_iff_ne.mpr c50
        obtain rfl := Option.some.inj H
        go_wp2
        go_ret
        exact ⟨by first | rfl | (simp [errW_none, errW_some] <;> rfl) | (simp [*, errW_none, errW_some] <;> rfl), by repeat (first | (with_reducible first | exact HB.out | apply below_alloc | apply pw_below_drewN | apply below_drew1 | refine below_set ?_ GE405.out | refine below_set ?_ GE417.out | refine below_set ?_ GE423.out) | exact HB.out)⟩
end Go.Proofs.Ytanbffoilianhaa.E
