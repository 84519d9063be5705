-- Written by wip/tools/myprint.py, a program of this session's.
import Derived.Test.YtanbffoilianhaaD0
namespace Go.Proofs.Ytanbffoilianhaa.D
open Go.RowKit Go.Proofs.YtanbffoilianhaaW.PrintWords Go.Proofs.YtanbffoilianhaaW.PrintLast Go.Proofs.YtanbffoilianhaaW.PrintMore
attribute [local go_sem] max2_int min2_int max_two min_two max_three min_three max_four min_four   -- for this text's walks alone
set_option linter.unusedVariables false
set_option linter.unusedSimpArgs false

/-! ### ancepsref09_Valid: function 28 -/
mutual
def ancepsref09_Valid.j0 : Nat → Bool → Int → List (S69) → Option (Int)
 | 0, _, _, _ => none
 | k + 1, x16, x262000, x262001 => if x16 = true then (some 3) else (ancepsref09_Valid.l0 k 0 x262000 x262001)
def ancepsref09_Valid.l0 : Nat → Int → Int → List (S69) → Option (Int)
 | 0, _, _, _ => none
 | k + 1, x3, x262000, x262001 => if x3 < (x262001.length : Int) then (if 0 ≤ x3 then (if ((rd_T69 x262001 x3).f0) < 0 then (ancepsref09_Valid.j2 k x3 true x262000 x262001 ((rd_T69 x262001 x3).f0) ((rd_T69 x262001 x3).f1) ((rd_T69 x262001 x3).f2)) else (if ((rd_T69 x262001 x3).f0) ≥ x262000 then (ancepsref09_Valid.j2 k x3 true x262000 x262001 ((rd_T69 x262001 x3).f0) ((rd_T69 x262001 x3).f1) ((rd_T69 x262001 x3).f2)) else (if ((rd_T69 x262001 x3).f1) < 0 then (ancepsref09_Valid.j2 k x3 true x262000 x262001 ((rd_T69 x262001 x3).f0) ((rd_T69 x262001 x3).f1) ((rd_T69 x262001 x3).f2)) else (if ((rd_T69 x262001 x3).f1) ≥ x262000 then (ancepsref09_Valid.j2 k x3 true x262000 x262001 ((rd_T69 x262001 x3).f0) ((rd_T69 x262001 x3).f1) ((rd_T69 x262001 x3).f2)) else (if ((rd_T69 x262001 x3).f2) < 0 then (ancepsref09_Valid.j2 k x3 true x262000 x262001 ((rd_T69 x262001 x3).f0) ((rd_T69 x262001 x3).f1) ((rd_T69 x262001 x3).f2)) else (ancepsref09_Valid.j2 k x3 (decide (((rd_T69 x262001 x3).f2) > 1000000)) x262000 x262001 ((rd_T69 x262001 x3).f0) ((rd_T69 x262001 x3).f1) ((rd_T69 x262001 x3).f2))))))) else (none)) else (some 0)
def ancepsref09_Valid.j2 : Nat → Int → Bool → Int → List (S69) → Int → Int → Int → Option (Int)
 | 0, _, _, _, _, _, _, _ => none
 | k + 1, x3, x60, x262000, x262001, x264000, x264001, x264002 => if x60 = true then (some 6) else (if x264001 ≤ x264000 then (some 18) else (ancepsref09_Valid.l0 k (wrap64 (x3 + 1)) x262000 x262001))
end
def ancepsref09_Valid.f (k : Nat) (a0_0 : Int) (l0_1 : List (S69)) : Option (Int) := if a0_0 < 1 then (some 7) else (if a0_0 > 2000 then (ancepsref09_Valid.j0 k true a0_0 l0_1) else (ancepsref09_Valid.j0 k (decide ((l0_1.length : Int) > 6000)) a0_0 l0_1))
theorem ancepsref09_Valid.mono_l : ∀ k, (∀ y0 y1 y2, LeO (ancepsref09_Valid.j0 k y0 y1 y2) (ancepsref09_Valid.j0 (k + 1) y0 y1 y2)) ∧ (∀ y0 y1 y2, LeO (ancepsref09_Valid.l0 k y0 y1 y2) (ancepsref09_Valid.l0 (k + 1) y0 y1 y2)) ∧ (∀ y0 y1 y2 y3 y4 y5 y6, LeO (ancepsref09_Valid.j2 k y0 y1 y2 y3 y4 y5 y6) (ancepsref09_Valid.j2 (k + 1) y0 y1 y2 y3 y4 y5 y6))
 | 0 => ⟨fun _ _ _ r h => by simp [ancepsref09_Valid.j0] at h, fun _ _ _ r h => by simp [ancepsref09_Valid.l0] at h, fun _ _ _ _ _ _ _ r h => by simp [ancepsref09_Valid.j2] at h⟩
 | k + 1 => by
  obtain ⟨ih0, ih1, ih2⟩ := ancepsref09_Valid.mono_l k
  refine ⟨?_, ?_, ?_⟩
  ·intro y0 y1 y2
   unfold ancepsref09_Valid.j0
   repeat' first
   | (with_reducible exact ih0 _ _ _)
   | (with_reducible exact ih1 _ _ _)
   | (with_reducible exact ih2 _ _ _ _ _ _ _)
   | (with_reducible exact LeO.refl _)
   | (with_reducible exact LeO.none _)
   | (with_reducible refine LeO.ite ?_ ?_)
   | (with_reducible refine LeO.bind ?_ (fun _ => ?_))
   | exact ih0 _ _ _
   | exact ih1 _ _ _
   | exact ih2 _ _ _ _ _ _ _
   | exact LeO.none _
   | refine LeO.ite ?_ ?_
   | refine LeO.bind ?_ (fun _ => ?_)
  ·intro y0 y1 y2
   unfold ancepsref09_Valid.l0
   repeat' first
   | (with_reducible exact ih0 _ _ _)
   | (with_reducible exact ih1 _ _ _)
   | (with_reducible exact ih2 _ _ _ _ _ _ _)
   | (with_reducible exact LeO.refl _)
   | (with_reducible exact LeO.none _)
   | (with_reducible refine LeO.ite ?_ ?_)
   | (with_reducible refine LeO.bind ?_ (fun _ => ?_))
   | exact ih0 _ _ _
   | exact ih1 _ _ _
   | exact ih2 _ _ _ _ _ _ _
   | exact LeO.none _
   | refine LeO.ite ?_ ?_
   | refine LeO.bind ?_ (fun _ => ?_)
  ·intro y0 y1 y2 y3 y4 y5 y6
   unfold ancepsref09_Valid.j2
   repeat' first
   | (with_reducible exact ih0 _ _ _)
   | (with_reducible exact ih1 _ _ _)
   | (with_reducible exact ih2 _ _ _ _ _ _ _)
   | (with_reducible exact LeO.refl _)
   | (with_reducible exact LeO.none _)
   | (with_reducible refine LeO.ite ?_ ?_)
   | (with_reducible refine LeO.bind ?_ (fun _ => ?_))
   | exact ih0 _ _ _
   | exact ih1 _ _ _
   | exact ih2 _ _ _ _ _ _ _
   | exact LeO.none _
   | refine LeO.ite ?_ ?_
   | refine LeO.bind ?_ (fun _ => ?_)
theorem ancepsref09_Valid.mono : ∀ a0 a1 k, LeO (ancepsref09_Valid.f k a0 a1) (ancepsref09_Valid.f (k + 1) a0 a1) := by
 intro a0 a1 k
 obtain ⟨ih0, ih1, ih2⟩ := ancepsref09_Valid.mono_l k
 unfold ancepsref09_Valid.f
 repeat' first
   | (with_reducible exact ih0 _ _ _)
   | (with_reducible exact ih1 _ _ _)
   | (with_reducible exact ih2 _ _ _ _ _ _ _)
   | (with_reducible exact LeO.refl _)
   | (with_reducible exact LeO.none _)
   | (with_reducible refine LeO.ite ?_ ?_)
   | (with_reducible refine LeO.bind ?_ (fun _ => ?_))
   | exact ih0 _ _ _
   | exact ih1 _ _ _
   | exact ih2 _ _ _ _ _ _ _
   | exact LeO.none _
   | refine LeO.ite ?_ ?_
   | refine LeO.bind ?_ (fun _ => ?_)
set_option maxHeartbeats 8000000 in
set_option maxRecDepth 100000 in
theorem ancepsref09_Valid.calls (k : Nat) (a0_0 : Int) (A0_1 : Option Addr) (c0_1 : Nat) (l0_1 : List (S69)) (r : Int) (w : World) (hr0_1 : Kd.C k69 w A0_1 l0_1.length l0_1) (hc0_1 : l0_1.length ≤ c0_1) (h : ancepsref09_Valid.f k a0_0 l0_1 = some r) :
  Calls Try.prog 28 #[.agg #[.int .i64 a0_0, .slice A0_1 l0_1.length c0_1]] w fun e w' => e = .returned (.int .i64 r) ∧ Below w.heap.size w w' := by
 have hu24 := Try.underlying24
 have hu3 := Try.underlying3
 have hu22 := Try.underlying22
 have hu69 := Try.underlying69
 have HR0_1 := Aside0.mk hr0_1
 have HC0_1 := Aside0.mk hc0_1
 clear hr0_1 hc0_1
 have HB := Aside0.mk (Below.refl w.heap.size w)
 have H : (if a0_0 < 1 then (some 7) else (if a0_0 > 2000 then (ancepsref09_Valid.j0 k true a0_0 l0_1) else (ancepsref09_Valid.j0 k (decide ((l0_1.length : Int) > 6000)) a0_0 l0_1))) = some r := h
 clear h
 by_cases c2 : a0_0 < 1
 ·rw [if_pos c2] at H
  have c2b0 : decide (a0_0 < 1) = true := decide_eq_true c2
  clear c2
  obtain rfl := Option.some.inj H
  go_enter Try.func28, Try.ntmps28
  go_wp2_with (first | ((with_reducible refine gate_dst (N := 1) rfl ?_); (try (refine gate_guard (by rfl) ?_; dsimp only)); refine box_event ?hg (N := 1) ?hd (cs := #[.int .i64 a0_0, .slice A0_1 l0_1.length c0_1]) (t := 24) ?hr ?_; (case hd => rfl); (case hg => rfl); (case hr => first | (go_simp; done) | (go_simp; rfl)); intro gb261 hg w3 hbox hb; have n0_ := Aside0.mk (below_step (by repeat (first | (with_reducible first | exact HB.out | apply below_alloc | apply pw_below_drewN | apply below_drew1) | exact HB.out)) hb); have n1_ := Aside0.mk (hbox); have n2_ := Aside0.mk ((by rw [hg]; exact (below_size (by repeat (first | (with_reducible first | exact HB.out | apply below_alloc | apply pw_below_drewN | apply below_drew1) | exact HB.out))) : w.heap.size ≤ gb261)); have n3_ := Aside0.mk ((by rw [hg]; exact (below_size (by repeat (first | (with_reducible first | exact HB.out | apply below_alloc | apply pw_below_drewN | apply below_drew1) | exact HB.out))) : w.heap.size ≤ gb261)); clear HB; have HB := n0_; have BK261 := n1_; have GW261 := n2_; have GE261 := n3_; clear n0_ n1_ n2_ n3_; clear hb hbox hg; have hcz4_0 : w3.cell? ⟨gb261, 0, none⟩ = some (.int .i64 a0_0) := (blk_cell BK261.out 0).trans rfl; have hcz4_1 : w3.cell? ⟨gb261, 1, none⟩ = some (.slice A0_1 l0_1.length c0_1) := (blk_cell BK261.out 1).trans rfl; have hfz4_0 := blk_frozen BK261.out 0; have hfz4_1 := blk_frozen BK261.out 1))
  go_ret
  exact ⟨by first | rfl | (simp [errW_none, errW_some] <;> rfl) | (simp [*, errW_none, errW_some] <;> rfl), by repeat (first | (with_reducible first | exact HB.out | apply below_alloc | apply pw_below_drewN | apply below_drew1 | refine below_set ?_ GE261.out) | exact HB.out)⟩
 ·rw [if_neg c2] at H
  have c2b0 : decide (a0_0 < 1) = false := decide_eq_false c2
  clear c2
  have HC5 := Aside0.mk H
  clear H
  go_enter Try.func28, Try.ntmps28
  go_upto_region 3 with (first | ((with_reducible refine gate_dst (N := 1) rfl ?_); (try (refine gate_guard (by rfl) ?_; dsimp only)); refine box_event ?hg (N := 1) ?hd (cs := #[.int .i64 a0_0, .slice A0_1 l0_1.length c0_1]) (t := 24) ?hr ?_; (case hd => rfl); (case hg => rfl); (case hr => first | (go_simp; done) | (go_simp; rfl)); intro gb261 hg w6 hbox hb; have n0_ := Aside0.mk (below_step (by repeat (first | (with_reducible first | exact HB.out | apply below_alloc | apply pw_below_drewN | apply below_drew1) | exact HB.out)) hb); have n1_ := Aside0.mk (hbox); have n2_ := Aside0.mk ((by rw [hg]; exact (below_size (by repeat (first | (with_reducible first | exact HB.out | apply below_alloc | apply pw_below_drewN | apply below_drew1) | exact HB.out))) : w.heap.size ≤ gb261)); have n3_ := Aside0.mk ((by rw [hg]; exact (below_size (by repeat (first | (with_reducible first | exact HB.out | apply below_alloc | apply pw_below_drewN | apply below_drew1) | exact HB.out))) : w.heap.size ≤ gb261)); clear HB; have HB := n0_; have BK261 := n1_; have GW261 := n2_; have GE261 := n3_; clear n0_ n1_ n2_ n3_; clear hb hbox hg; have hcz7_0 : w6.cell? ⟨gb261, 0, none⟩ = some (.int .i64 a0_0) := (blk_cell BK261.out 0).trans rfl; have hcz7_1 : w6.cell? ⟨gb261, 1, none⟩ = some (.slice A0_1 l0_1.length c0_1) := (blk_cell BK261.out 1).trans rfl; have hfz7_0 := blk_frozen BK261.out 0; have hfz7_1 := blk_frozen BK261.out 1))
  (try simp only [Act.put, List.setIfInBounds_toArray, List.set_cons_zero, List.set_cons_succ])
  go_cut [16] (fun v16 wc => ∃ (kq : Nat) (x16_4 : Bool), v16 = .bool x16_4 ∧ Aside0 (ancepsref09_Valid.j0 kq x16_4 a0_0 l0_1 = some r) ∧ Aside0 (kq ≤ k) ∧ Aside0 (wc.heap[gb261]? = some (.cells #[.int .i64 a0_0, (.slice A0_1 l0_1.length c0_1)] 24 (0, 0))) ∧ Aside0 (Below w.heap.size w wc))
  case first =>
   have H := HC5.out
   clear HC5
   by_cases c8 : a0_0 > 2000
   ·rw [if_pos c8] at H
    have c8b0 : decide (2000 < a0_0) = true := decide_eq_true c8
    clear c8
    (first | rw [c8b0] | (simp only [i64_w, i32_w]; rw [c8b0]) | skip)
    have H' := Aside0.mk H
    clear H
    have hcz9_0 : w6.cell? ⟨gb261, 0, none⟩ = some (.int .i64 a0_0) := (blk_cell BK261.out 0).trans rfl
    have hcz9_1 : w6.cell? ⟨gb261, 1, none⟩ = some (.slice A0_1 l0_1.length c0_1) := (blk_cell BK261.out 1).trans rfl
    have hfz9_0 := blk_frozen BK261.out 0
    have hfz9_1 := blk_frozen BK261.out 1
    go_wp2
    go_meet
    case rel => exact ⟨_, (true), (by first | rfl | (simp; done) | (simp [*]; done)), H', ⟨by first | omega | exact Nat.le_refl _⟩, ⟨by (with_reducible repeat (first | refine blk_drewN ?_ _ | refine blk_drew ?_ | refine blk_alloc ?_ _)); exact BK261.out⟩, ⟨by repeat (first | (with_reducible first | exact HB.out | apply below_alloc | apply pw_below_drewN | apply below_drew1 | refine below_set ?_ GE261.out) | exact HB.out)⟩⟩
   ·rw [if_neg c8] at H
    have c8b0 : decide (2000 < a0_0) = false := decide_eq_false c8
    clear c8
    (first | rw [c8b0] | (simp only [i64_w, i32_w]; rw [c8b0]) | skip)
    have H' := Aside0.mk H
    clear H
    have hcz10_0 : w6.cell? ⟨gb261, 0, none⟩ = some (.int .i64 a0_0) := (blk_cell BK261.out 0).trans rfl
    have hcz10_1 : w6.cell? ⟨gb261, 1, none⟩ = some (.slice A0_1 l0_1.length c0_1) := (blk_cell BK261.out 1).trans rfl
    have hfz10_0 := blk_frozen BK261.out 0
    have hfz10_1 := blk_frozen BK261.out 1
    go_wp2
    go_meet
    case rel => exact ⟨_, (decide ((l0_1.length : Int) > 6000)), (by first | rfl | (simp; done) | (simp [*]; done)), H', ⟨by first | omega | exact Nat.le_refl _⟩, ⟨by (with_reducible repeat (first | refine blk_drewN ?_ _ | refine blk_drew ?_ | refine blk_alloc ?_ _)); exact BK261.out⟩, ⟨by repeat (first | (with_reducible first | exact HB.out | apply below_alloc | apply pw_below_drewN | apply below_drew1 | refine below_set ?_ GE261.out) | exact HB.out)⟩⟩
  case rest =>
   clear HC5
   try clear c2
   try clear c2b0
   try clear p2
   try clear c8
   try clear c8b0
   try clear hcz10_0
   try clear hcz10_1
   try clear hcz4_0
   try clear hcz4_1
   try clear hcz7_0
   try clear hcz7_1
   try clear hcz9_0
   try clear hcz9_1
   try clear hfz10_0
   try clear hfz10_1
   try clear hfz4_0
   try clear hfz4_1
   try clear hfz7_0
   try clear hfz7_1
   try clear hfz9_0
   try clear hfz9_1
   obtain ⟨kq, x16_4, rfl, HA, HJ4, BK261, HB⟩ := hcut
   cases kq with
   | zero => exact absurd HA.out (by simp [ancepsref09_Valid.j0])
   | succ kj4 =>
    have H := HA.out
    clear HA
    simp only [ancepsref09_Valid.j0] at H
    by_cases c11 : x16_4 = true
    ·subst c11
     have H1 : (some 3) = some r := by rw [if_pos rfl] at H; exact H
     clear H
     have H := H1
     clear H1
     obtain rfl := Option.some.inj H
     go_wp2
     go_ret
     exact ⟨by first | rfl | (simp [errW_none, errW_some] <;> rfl) | (simp [*, errW_none, errW_some] <;> rfl), by repeat (first | (with_reducible first | exact HB.out | apply below_alloc | apply pw_below_drewN | apply below_drew1 | refine below_set ?_ GE261.out) | exact HB.out)⟩
    ·replace c11 := Bool.eq_false_iff.mpr c11
     subst c11
     have H1 : (ancepsref09_Valid.l0 kj4 0 a0_0 l0_1) = some r := by rw [if_neg (show ¬ (false = true) by decide)] at H; exact H
     clear H
     have H := H1
     clear H1
     have H' := Aside0.mk H
     clear H
     go_wp2
     go_loopg [3] kj4 (fun kq v3 w' => ∃ (x3_2 : Int), v3 = .int .i64 x3_2 ∧ Aside0 (ancepsref09_Valid.l0 kq x3_2 a0_0 l0_1 = some r) ∧ Aside0 (kq ≤ kj4) ∧ Aside0 (w'.heap[gb261]? = some (.cells #[.int .i64 a0_0, (.slice A0_1 l0_1.length c0_1)] 24 (0, 0))) ∧ Aside0 (Below w.heap.size w w'))
     case atStart => exact ⟨(0), (by first | rfl | (simp; done) | (simp [*]; done)), H', ⟨Nat.le_refl _⟩, ⟨by (with_reducible repeat (first | refine blk_drewN ?_ _ | refine blk_drew ?_ | refine blk_alloc ?_ _)); exact BK261.out⟩, ⟨by repeat (first | (with_reducible first | exact HB.out | apply below_alloc | apply pw_below_drewN | apply below_drew1 | refine below_set ?_ GE261.out) | exact HB.out)⟩⟩
     case round =>
      clear H'
      try clear c1
      try clear c2
      try clear c2b0
      try clear p2
      try clear c8
      try clear c8b0
      try clear c11
      try clear hcz10_0
      try clear hcz10_1
      try clear hcz4_0
      try clear hcz4_1
      try clear hcz7_0
      try clear hcz7_1
      try clear hcz9_0
      try clear hcz9_1
      try clear hfz10_0
      try clear hfz10_1
      try clear hfz4_0
      try clear hfz4_1
      try clear hfz7_0
      try clear hfz7_1
      try clear hfz9_0
      try clear hfz9_1
      try clear p2
      obtain ⟨x3_2, rfl, HA, HK2, BK261, HB⟩ := hrel
      cases gk with
      | zero => exact absurd HA.out (by simp [ancepsref09_Valid.l0])
      | succ k2 =>
       have H := HA.out
       clear HA
       simp only [ancepsref09_Valid.l0] at H
       by_cases c12 : x3_2 < (l0_1.length : Int)
       ·rw [if_pos c12] at H
        have c12b0 : decide (x3_2 < (l0_1.length : Int)) = true := decide_eq_true c12
        clear c12
        by_cases c13 : 0 ≤ x3_2
        ·rw [if_pos c13] at H
         have c13b0 : decide (0 ≤ x3_2) = true := decide_eq_true c13
         clear c13
         have HC14 := Aside0.mk H
         clear H
         have hcz15_0 : wr.cell? ⟨gb261, 0, none⟩ = some (.int .i64 a0_0) := (blk_cell BK261.out 0).trans rfl
         have hcz15_1 : wr.cell? ⟨gb261, 1, none⟩ = some (.slice A0_1 l0_1.length c0_1) := (blk_cell BK261.out 1).trans rfl
         have hfz15_0 := blk_frozen BK261.out 0
         have hfz15_1 := blk_frozen BK261.out 1
         have p262 : 0 ≤ (x3_2 : Int) := of_decide_eq_true (by first | (with_reducible assumption) | assumption)
         have q262 : x3_2 < (l0_1.length : Int) := of_decide_eq_true (by first | (with_reducible assumption) | assumption)
         obtain ⟨ad262, e262, hx262_0, hx262_1, hx262_2⟩ := at_T69 HR0_1.out x3_2 p262 q262
         cases e262
         replace hx262_0 := (HB.out.cell (World.block_lt_of_cell? w _ hx262_0)).trans hx262_0
         replace hx262_1 := (HB.out.cell (World.block_lt_of_cell? w _ hx262_1)).trans hx262_1
         replace hx262_2 := (HB.out.cell (World.block_lt_of_cell? w _ hx262_2)).trans hx262_2
         replace p262 := eq_true p262
         replace q262 := eq_true q262
         go_upto_region 9 with (first | ((with_reducible refine gate_dst (N := 4) rfl ?_); (try (refine gate_guard (by rfl) ?_; dsimp only)); refine box_event ?hg (N := 4) ?hd (cs := #[.int .i64 0, .int .i64 0, .int .i64 0]) (t := 69) ?hr ?_; (case hd => rfl); (case hg => rfl); (case hr => first | (go_simp; done) | (go_simp; rfl)); intro gb263 hg w16 hbox hb; have n0_ := Aside0.mk (blk_below (g := gb261) (o := .cells #[.int .i64 a0_0, .slice (some ad262) l0_1.length c0_1] 24 (0, 0)) (by (with_reducible repeat (first | refine blk_drewN ?_ _ | refine blk_drew ?_ | refine blk_alloc ?_ _)); exact BK261.out) hb); have n1_ := Aside0.mk (below_step (by repeat (first | (with_reducible first | exact HB.out | apply below_alloc | apply pw_below_drewN | apply below_drew1 | refine below_set ?_ GE261.out) | exact HB.out)) hb); have n2_ := Aside0.mk (hbox); have n3_ := Aside0.mk ((by rw [hg]; exact (below_size (by repeat (first | (with_reducible first | exact HB.out | apply below_alloc | apply pw_below_drewN | apply below_drew1 | refine below_set ?_ GE261.out) | exact HB.out))) : w.heap.size ≤ gb263)); have n4_ := Aside0.mk ((by rw [hg]; exact (below_size (by repeat (first | (with_reducible first | exact HB.out | apply below_alloc | apply pw_below_drewN | apply below_drew1 | refine below_set ?_ GE261.out) | exact HB.out))) : w.heap.size ≤ gb263)); have n5_ := Aside0.mk ((by rw [hg]; exact Nat.ne_of_lt (blk_lt (g := gb261) (o := .cells #[.int .i64 a0_0, .slice (some ad262) l0_1.length c0_1] 24 (0, 0)) (by (with_reducible repeat (first | refine blk_drewN ?_ _ | refine blk_drew ?_ | refine blk_alloc ?_ _)); exact BK261.out)) : gb261 ≠ gb263)); have n6_ := Aside0.mk ((by rw [hg]; exact Nat.ne_of_gt (blk_lt (g := gb261) (o := .cells #[.int .i64 a0_0, .slice (some ad262) l0_1.length c0_1] 24 (0, 0)) (by (with_reducible repeat (first | refine blk_drewN ?_ _ | refine blk_drew ?_ | refine blk_alloc ?_ _)); exact BK261.out)) : gb263 ≠ gb261)); clear BK261; clear HB; have BK261 := n0_; have HB := n1_; have BK263 := n2_; have GW263 := n3_; have GE263 := n4_; have NB261_263 := n5_; have NB263_261 := n6_; clear n0_ n1_ n2_ n3_ n4_ n5_ n6_; clear hb hbox hg; have hnb17 := NB263_261.out; have hnc17 := NB261_263.out; have hcz18_0 : w16.cell? ⟨gb263, 0, none⟩ = some (.int .i64 0) := (blk_cell BK263.out 0).trans rfl; have hcz18_1 : w16.cell? ⟨gb263, 1, none⟩ = some (.int .i64 0) := (blk_cell BK263.out 1).trans rfl; have hcz18_2 : w16.cell? ⟨gb263, 2, none⟩ = some (.int .i64 0) := (blk_cell BK263.out 2).trans rfl; have hfz18_0 := blk_frozen BK263.out 0; have hfz18_1 := blk_frozen BK263.out 1; have hfz18_2 := blk_frozen BK263.out 2))
         (try simp only [Act.put, List.setIfInBounds_toArray, List.set_cons_zero, List.set_cons_succ])
         go_cut [60] (fun v60 wc => ∃ (kq : Nat) (x60_13 : Bool), v60 = .bool x60_13 ∧ Aside0 (ancepsref09_Valid.j2 kq x3_2 x60_13 a0_0 l0_1 ((rd_T69 l0_1 x3_2).f0) ((rd_T69 l0_1 x3_2).f1) ((rd_T69 l0_1 x3_2).f2) = some r) ∧ Aside0 (kq ≤ k2) ∧ Aside0 (wc.heap[gb261]? = some (.cells #[.int .i64 a0_0, (.slice (some ad262) l0_1.length c0_1)] 24 (0, 0))) ∧ Aside0 (wc.heap[gb263]? = some (.cells #[.int .i64 ((rd_T69 l0_1 x3_2).f0), .int .i64 ((rd_T69 l0_1 x3_2).f1), .int .i64 ((rd_T69 l0_1 x3_2).f2)] 69 (0, 0))) ∧ Aside0 (Below w.heap.size w wc))
         case first =>
          have H := HC14.out
          clear HC14
          by_cases c19 : ((rd_T69 l0_1 x3_2).f0) < 0
          ·rw [if_pos c19] at H
           have c19b0 : decide (((rd_T69 l0_1 x3_2).f0) < 0) = true := decide_eq_true c19
           clear c19
           (first | rw [c19b0] | (simp only [i64_w, i32_w]; rw [c19b0]) | skip)
           have H' := Aside0.mk H
           clear H
           have hnb20 := NB263_261.out
           have hnc20 := NB261_263.out
           have hcz21_0 : w16.cell? ⟨gb263, 0, none⟩ = some (.int .i64 0) := (blk_cell BK263.out 0).trans rfl
           have hcz21_1 : w16.cell? ⟨gb263, 1, none⟩ = some (.int .i64 0) := (blk_cell BK263.out 1).trans rfl
           have hcz21_2 : w16.cell? ⟨gb263, 2, none⟩ = some (.int .i64 0) := (blk_cell BK263.out 2).trans rfl
           have hfz21_0 := blk_frozen BK263.out 0
           have hfz21_1 := blk_frozen BK263.out 1
           have hfz21_2 := blk_frozen BK263.out 2
           go_wp2
           go_meet
           case rel => exact ⟨_, (true), (by first | rfl | (simp; done) | (simp [*]; done)), H', ⟨by have := HJ4.out; have := HK2.out; first | omega | exact Nat.le_refl _⟩, ⟨by (with_reducible repeat (first | refine blk_drewN ?_ _ | refine blk_drew ?_ | refine blk_alloc ?_ _)); refine blk_far ?_ NB261_263.out _; (with_reducible repeat (first | refine blk_drewN ?_ _ | refine blk_drew ?_ | refine blk_alloc ?_ _)); refine blk_far ?_ NB261_263.out _; (with_reducible repeat (first | refine blk_drewN ?_ _ | refine blk_drew ?_ | refine blk_alloc ?_ _)); refine blk_far ?_ NB261_263.out _; (with_reducible repeat (first | refine blk_drewN ?_ _ | refine blk_drew ?_ | refine blk_alloc ?_ _)); exact BK261.out⟩, ⟨by (with_reducible repeat (first | refine blk_drewN ?_ _ | refine blk_drew ?_ | refine blk_alloc ?_ _)); refine blk_put (cs := #[.int .i64 ((rd_T69 l0_1 x3_2).f0), .int .i64 ((rd_T69 l0_1 x3_2).f1), .int .i64 0]) ?_ 2 _ rfl; (with_reducible repeat (first | refine blk_drewN ?_ _ | refine blk_drew ?_ | refine blk_alloc ?_ _)); refine blk_put (cs := #[.int .i64 ((rd_T69 l0_1 x3_2).f0), .int .i64 0, .int .i64 0]) ?_ 1 _ rfl; (with_reducible repeat (first | refine blk_drewN ?_ _ | refine blk_drew ?_ | refine blk_alloc ?_ _)); refine blk_put (cs := #[.int .i64 0, .int .i64 0, .int .i64 0]) ?_ 0 _ rfl; (with_reducible repeat (first | refine blk_drewN ?_ _ | refine blk_drew ?_ | refine blk_alloc ?_ _)); exact BK263.out⟩, ⟨by repeat (first | (with_reducible first | exact HB.out | apply below_alloc | apply pw_below_drewN | apply below_drew1 | refine below_set ?_ GE261.out | refine below_set ?_ GE263.out) | exact HB.out)⟩⟩
          ·rw [if_neg c19] at H
           have c19b0 : decide (((rd_T69 l0_1 x3_2).f0) < 0) = false := decide_eq_false c19
           clear c19
           (first | rw [c19b0] | (simp only [i64_w, i32_w]; rw [c19b0]) | skip)
           by_cases c22 : ((rd_T69 l0_1 x3_2).f0) ≥ a0_0
           ·rw [if_pos c22] at H
            have c22b0 : decide (a0_0 ≤ ((rd_T69 l0_1 x3_2).f0)) = true := decide_eq_true c22
            clear c22
            have H' := Aside0.mk H
            clear H
            have hnb23 := NB263_261.out
            have hnc23 := NB261_263.out
            have hcz24_0 : w16.cell? ⟨gb263, 0, none⟩ = some (.int .i64 0) := (blk_cell BK263.out 0).trans rfl
            have hcz24_1 : w16.cell? ⟨gb263, 1, none⟩ = some (.int .i64 0) := (blk_cell BK263.out 1).trans rfl
            have hcz24_2 : w16.cell? ⟨gb263, 2, none⟩ = some (.int .i64 0) := (blk_cell BK263.out 2).trans rfl
            have hfz24_0 := blk_frozen BK263.out 0
            have hfz24_1 := blk_frozen BK263.out 1
            have hfz24_2 := blk_frozen BK263.out 2
            have hcz25_0 : w16.cell? ⟨gb261, 0, none⟩ = some (.int .i64 a0_0) := (blk_cell BK261.out 0).trans rfl
            have hcz25_1 : w16.cell? ⟨gb261, 1, none⟩ = some (.slice (some ad262) l0_1.length c0_1) := (blk_cell BK261.out 1).trans rfl
            have hfz25_0 := blk_frozen BK261.out 0
            have hfz25_1 := blk_frozen BK261.out 1
            go_wp2
            go_meet
            case rel => exact ⟨_, (true), (by first | rfl | (simp; done) | (simp [*]; done)), H', ⟨by have := HJ4.out; have := HK2.out; first | omega | exact Nat.le_refl _⟩, ⟨by (with_reducible repeat (first | refine blk_drewN ?_ _ | refine blk_drew ?_ | refine blk_alloc ?_ _)); refine blk_far ?_ NB261_263.out _; (with_reducible repeat (first | refine blk_drewN ?_ _ | refine blk_drew ?_ | refine blk_alloc ?_ _)); refine blk_far ?_ NB261_263.out _; (with_reducible repeat (first | refine blk_drewN ?_ _ | refine blk_drew ?_ | refine blk_alloc ?_ _)); refine blk_far ?_ NB261_263.out _; (with_reducible repeat (first | refine blk_drewN ?_ _ | refine blk_drew ?_ | refine blk_alloc ?_ _)); exact BK261.out⟩, ⟨by (with_reducible repeat (first | refine blk_drewN ?_ _ | refine blk_drew ?_ | refine blk_alloc ?_ _)); refine blk_put (cs := #[.int .i64 ((rd_T69 l0_1 x3_2).f0), .int .i64 ((rd_T69 l0_1 x3_2).f1), .int .i64 0]) ?_ 2 _ rfl; (with_reducible repeat (first | refine blk_drewN ?_ _ | refine blk_drew ?_ | refine blk_alloc ?_ _)); refine blk_put (cs := #[.int .i64 ((rd_T69 l0_1 x3_2).f0), .int .i64 0, .int .i64 0]) ?_ 1 _ rfl; (with_reducible repeat (first | refine blk_drewN ?_ _ | refine blk_drew ?_ | refine blk_alloc ?_ _)); refine blk_put (cs := #[.int .i64 0, .int .i64 0, .int .i64 0]) ?_ 0 _ rfl; (with_reducible repeat (first | refine blk_drewN ?_ _ | refine blk_drew ?_ | refine blk_alloc ?_ _)); exact BK263.out⟩, ⟨by repeat (first | (with_reducible first | exact HB.out | apply below_alloc | apply pw_below_drewN | apply below_drew1 | refine below_set ?_ GE261.out | refine below_set ?_ GE263.out) | exact HB.out)⟩⟩
           ·rw [if_neg c22] at H
            have c22b0 : decide (a0_0 ≤ ((rd_T69 l0_1 x3_2).f0)) = false := decide_eq_false c22
            clear c22
            by_cases c26 : ((rd_T69 l0_1 x3_2).f1) < 0
            ·rw [if_pos c26] at H
             have c26b0 : decide (((rd_T69 l0_1 x3_2).f1) < 0) = true := decide_eq_true c26
             clear c26
             have H' := Aside0.mk H
             clear H
             have hnb27 := NB263_261.out
             have hnc27 := NB261_263.out
             have hcz28_0 : w16.cell? ⟨gb263, 0, none⟩ = some (.int .i64 0) := (blk_cell BK263.out 0).trans rfl
             have hcz28_1 : w16.cell? ⟨gb263, 1, none⟩ = some (.int .i64 0) := (blk_cell BK263.out 1).trans rfl
             have hcz28_2 : w16.cell? ⟨gb263, 2, none⟩ = some (.int .i64 0) := (blk_cell BK263.out 2).trans rfl
             have hfz28_0 := blk_frozen BK263.out 0
             have hfz28_1 := blk_frozen BK263.out 1
             have hfz28_2 := blk_frozen BK263.out 2
             have hcz29_0 : w16.cell? ⟨gb261, 0, none⟩ = some (.int .i64 a0_0) := (blk_cell BK261.out 0).trans rfl
             have hcz29_1 : w16.cell? ⟨gb261, 1, none⟩ = some (.slice (some ad262) l0_1.length c0_1) := (blk_cell BK261.out 1).trans rfl
             have hfz29_0 := blk_frozen BK261.out 0
             have hfz29_1 := blk_frozen BK261.out 1
             go_wp2
             go_meet
             case rel => exact ⟨_, (true), (by first | rfl | (simp; done) | (simp [*]; done)), H', ⟨by have := HJ4.out; have := HK2.out; first | omega | exact Nat.le_refl _⟩, ⟨by (with_reducible repeat (first | refine blk_drewN ?_ _ | refine blk_drew ?_ | refine blk_alloc ?_ _)); refine blk_far ?_ NB261_263.out _; (with_reducible repeat (first | refine blk_drewN ?_ _ | refine blk_drew ?_ | refine blk_alloc ?_ _)); refine blk_far ?_ NB261_263.out _; (with_reducible repeat (first | refine blk_drewN ?_ _ | refine blk_drew ?_ | refine blk_alloc ?_ _)); refine blk_far ?_ NB261_263.out _; (with_reducible repeat (first | refine blk_drewN ?_ _ | refine blk_drew ?_ | refine blk_alloc ?_ _)); exact BK261.out⟩, ⟨by (with_reducible repeat (first | refine blk_drewN ?_ _ | refine blk_drew ?_ | refine blk_alloc ?_ _)); refine blk_put (cs := #[.int .i64 ((rd_T69 l0_1 x3_2).f0), .int .i64 ((rd_T69 l0_1 x3_2).f1), .int .i64 0]) ?_ 2 _ rfl; (with_reducible repeat (first | refine blk_drewN ?_ _ | refine blk_drew ?_ | refine blk_alloc ?_ _)); refine blk_put (cs := #[.int .i64 ((rd_T69 l0_1 x3_2).f0), .int .i64 0, .int .i64 0]) ?_ 1 _ rfl; (with_reducible repeat (first | refine blk_drewN ?_ _ | refine blk_drew ?_ | refine blk_alloc ?_ _)); refine blk_put (cs := #[.int .i64 0, .int .i64 0, .int .i64 0]) ?_ 0 _ rfl; (with_reducible repeat (first | refine blk_drewN ?_ _ | refine blk_drew ?_ | refine blk_alloc ?_ _)); exact BK263.out⟩, ⟨by repeat (first | (with_reducible first | exact HB.out | apply below_alloc | apply pw_below_drewN | apply below_drew1 | refine below_set ?_ GE261.out | refine below_set ?_ GE263.out) | exact HB.out)⟩⟩
            ·rw [if_neg c26] at H
             have c26b0 : decide (((rd_T69 l0_1 x3_2).f1) < 0) = false := decide_eq_false c26
             clear c26
             by_cases c30 : ((rd_T69 l0_1 x3_2).f1) ≥ a0_0
             ·rw [if_pos c30] at H
              have c30b0 : decide (a0_0 ≤ ((rd_T69 l0_1 x3_2).f1)) = true := decide_eq_true c30
              clear c30
              have H' := Aside0.mk H
              clear H
              have hnb31 := NB263_261.out
              have hnc31 := NB261_263.out
              have hcz32_0 : w16.cell? ⟨gb263, 0, none⟩ = some (.int .i64 0) := (blk_cell BK263.out 0).trans rfl
              have hcz32_1 : w16.cell? ⟨gb263, 1, none⟩ = some (.int .i64 0) := (blk_cell BK263.out 1).trans rfl
              have hcz32_2 : w16.cell? ⟨gb263, 2, none⟩ = some (.int .i64 0) := (blk_cell BK263.out 2).trans rfl
              have hfz32_0 := blk_frozen BK263.out 0
              have hfz32_1 := blk_frozen BK263.out 1
              have hfz32_2 := blk_frozen BK263.out 2
              have hcz33_0 : w16.cell? ⟨gb261, 0, none⟩ = some (.int .i64 a0_0) := (blk_cell BK261.out 0).trans rfl
              have hcz33_1 : w16.cell? ⟨gb261, 1, none⟩ = some (.slice (some ad262) l0_1.length c0_1) := (blk_cell BK261.out 1).trans rfl
              have hfz33_0 := blk_frozen BK261.out 0
              have hfz33_1 := blk_frozen BK261.out 1
              go_wp2
              go_meet
              case rel => exact ⟨_, (true), (by first | rfl | (simp; done) | (simp [*]; done)), H', ⟨by have := HJ4.out; have := HK2.out; first | omega | exact Nat.le_refl _⟩, ⟨by (with_reducible repeat (first | refine blk_drewN ?_ _ | refine blk_drew ?_ | refine blk_alloc ?_ _)); refine blk_far ?_ NB261_263.out _; (with_reducible repeat (first | refine blk_drewN ?_ _ | refine blk_drew ?_ | refine blk_alloc ?_ _)); refine blk_far ?_ NB261_263.out _; (with_reducible repeat (first | refine blk_drewN ?_ _ | refine blk_drew ?_ | refine blk_alloc ?_ _)); refine blk_far ?_ NB261_263.out _; (with_reducible repeat (first | refine blk_drewN ?_ _ | refine blk_drew ?_ | refine blk_alloc ?_ _)); exact BK261.out⟩, ⟨by (with_reducible repeat (first | refine blk_drewN ?_ _ | refine blk_drew ?_ | refine blk_alloc ?_ _)); refine blk_put (cs := #[.int .i64 ((rd_T69 l0_1 x3_2).f0), .int .i64 ((rd_T69 l0_1 x3_2).f1), .int .i64 0]) ?_ 2 _ rfl; (with_reducible repeat (first | refine blk_drewN ?_ _ | refine blk_drew ?_ | refine blk_alloc ?_ _)); refine blk_put (cs := #[.int .i64 ((rd_T69 l0_1 x3_2).f0), .int .i64 0, .int .i64 0]) ?_ 1 _ rfl; (with_reducible repeat (first | refine blk_drewN ?_ _ | refine blk_drew ?_ | refine blk_alloc ?_ _)); refine blk_put (cs := #[.int .i64 0, .int .i64 0, .int .i64 0]) ?_ 0 _ rfl; (with_reducible repeat (first | refine blk_drewN ?_ _ | refine blk_drew ?_ | refine blk_alloc ?_ _)); exact BK263.out⟩, ⟨by repeat (first | (with_reducible first | exact HB.out | apply below_alloc | apply pw_below_drewN | apply below_drew1 | refine below_set ?_ GE261.out | refine below_set ?_ GE263.out) | exact HB.out)⟩⟩
             ·rw [if_neg c30] at H
              have c30b0 : decide (a0_0 ≤ ((rd_T69 l0_1 x3_2).f1)) = false := decide_eq_false c30
              clear c30
              by_cases c34 : ((rd_T69 l0_1 x3_2).f2) < 0
              ·rw [if_pos c34] at H
               have c34b0 : decide (((rd_T69 l0_1 x3_2).f2) < 0) = true := decide_eq_true c34
               clear c34
               have H' := Aside0.mk H
               clear H
               have hnb35 := NB263_261.out
               have hnc35 := NB261_263.out
               have hcz36_0 : w16.cell? ⟨gb263, 0, none⟩ = some (.int .i64 0) := (blk_cell BK263.out 0).trans rfl
               have hcz36_1 : w16.cell? ⟨gb263, 1, none⟩ = some (.int .i64 0) := (blk_cell BK263.out 1).trans rfl
               have hcz36_2 : w16.cell? ⟨gb263, 2, none⟩ = some (.int .i64 0) := (blk_cell BK263.out 2).trans rfl
               have hfz36_0 := blk_frozen BK263.out 0
               have hfz36_1 := blk_frozen BK263.out 1
               have hfz36_2 := blk_frozen BK263.out 2
               have hcz37_0 : w16.cell? ⟨gb261, 0, none⟩ = some (.int .i64 a0_0) := (blk_cell BK261.out 0).trans rfl
               have hcz37_1 : w16.cell? ⟨gb261, 1, none⟩ = some (.slice (some ad262) l0_1.length c0_1) := (blk_cell BK261.out 1).trans rfl
               have hfz37_0 := blk_frozen BK261.out 0
               have hfz37_1 := blk_frozen BK261.out 1
               go_wp2
               go_meet
               case rel => exact ⟨_, (true), (by first | rfl | (simp; done) | (simp [*]; done)), H', ⟨by have := HJ4.out; have := HK2.out; first | omega | exact Nat.le_refl _⟩, ⟨by (with_reducible repeat (first | refine blk_drewN ?_ _ | refine blk_drew ?_ | refine blk_alloc ?_ _)); refine blk_far ?_ NB261_263.out _; (with_reducible repeat (first | refine blk_drewN ?_ _ | refine blk_drew ?_ | refine blk_alloc ?_ _)); refine blk_far ?_ NB261_263.out _; (with_reducible repeat (first | refine blk_drewN ?_ _ | refine blk_drew ?_ | refine blk_alloc ?_ _)); refine blk_far ?_ NB261_263.out _; (with_reducible repeat (first | refine blk_drewN ?_ _ | refine blk_drew ?_ | refine blk_alloc ?_ _)); exact BK261.out⟩, ⟨by (with_reducible repeat (first | refine blk_drewN ?_ _ | refine blk_drew ?_ | refine blk_alloc ?_ _)); refine blk_put (cs := #[.int .i64 ((rd_T69 l0_1 x3_2).f0), .int .i64 ((rd_T69 l0_1 x3_2).f1), .int .i64 0]) ?_ 2 _ rfl; (with_reducible repeat (first | refine blk_drewN ?_ _ | refine blk_drew ?_ | refine blk_alloc ?_ _)); refine blk_put (cs := #[.int .i64 ((rd_T69 l0_1 x3_2).f0), .int .i64 0, .int .i64 0]) ?_ 1 _ rfl; (with_reducible repeat (first | refine blk_drewN ?_ _ | refine blk_drew ?_ | refine blk_alloc ?_ _)); refine blk_put (cs := #[.int .i64 0, .int .i64 0, .int .i64 0]) ?_ 0 _ rfl; (with_reducible repeat (first | refine blk_drewN ?_ _ | refine blk_drew ?_ | refine blk_alloc ?_ _)); exact BK263.out⟩, ⟨by repeat (first | (with_reducible first | exact HB.out | apply below_alloc | apply pw_below_drewN | apply below_drew1 | refine below_set ?_ GE261.out | refine below_set ?_ GE263.out) | exact HB.out)⟩⟩
              ·rw [if_neg c34] at H
               have c34b0 : decide (((rd_T69 l0_1 x3_2).f2) < 0) = false := decide_eq_false c34
               clear c34
               have H' := Aside0.mk H
               clear H
               have hnb38 := NB263_261.out
               have hnc38 := NB261_263.out
               have hcz39_0 : w16.cell? ⟨gb263, 0, none⟩ = some (.int .i64 0) := (blk_cell BK263.out 0).trans rfl
               have hcz39_1 : w16.cell? ⟨gb263, 1, none⟩ = some (.int .i64 0) := (blk_cell BK263.out 1).trans rfl
               have hcz39_2 : w16.cell? ⟨gb263, 2, none⟩ = some (.int .i64 0) := (blk_cell BK263.out 2).trans rfl
               have hfz39_0 := blk_frozen BK263.out 0
               have hfz39_1 := blk_frozen BK263.out 1
               have hfz39_2 := blk_frozen BK263.out 2
               have hcz40_0 : w16.cell? ⟨gb261, 0, none⟩ = some (.int .i64 a0_0) := (blk_cell BK261.out 0).trans rfl
               have hcz40_1 : w16.cell? ⟨gb261, 1, none⟩ = some (.slice (some ad262) l0_1.length c0_1) := (blk_cell BK261.out 1).trans rfl
               have hfz40_0 := blk_frozen BK261.out 0
               have hfz40_1 := blk_frozen BK261.out 1
               go_wp2
               go_meet
               case rel => exact ⟨_, (decide (((rd_T69 l0_1 x3_2).f2) > 1000000)), (by first | rfl | (simp; done) | (simp [*]; done)), H', ⟨by have := HJ4.out; have := HK2.out; first | omega | exact Nat.le_refl _⟩, ⟨by (with_reducible repeat (first | refine blk_drewN ?_ _ | refine blk_drew ?_ | refine blk_alloc ?_ _)); refine blk_far ?_ NB261_263.out _; (with_reducible repeat (first | refine blk_drewN ?_ _ | refine blk_drew ?_ | refine blk_alloc ?_ _)); refine blk_far ?_ NB261_263.out _; (with_reducible repeat (first | refine blk_drewN ?_ _ | refine blk_drew ?_ | refine blk_alloc ?_ _)); refine blk_far ?_ NB261_263.out _; (with_reducible repeat (first | refine blk_drewN ?_ _ | refine blk_drew ?_ | refine blk_alloc ?_ _)); exact BK261.out⟩, ⟨by (with_reducible repeat (first | refine blk_drewN ?_ _ | refine blk_drew ?_ | refine blk_alloc ?_ _)); refine blk_put (cs := #[.int .i64 ((rd_T69 l0_1 x3_2).f0), .int .i64 ((rd_T69 l0_1 x3_2).f1), .int .i64 0]) ?_ 2 _ rfl; (with_reducible repeat (first | refine blk_drewN ?_ _ | refine blk_drew ?_ | refine blk_alloc ?_ _)); refine blk_put (cs := #[.int .i64 ((rd_T69 l0_1 x3_2).f0), .int .i64 0, .int .i64 0]) ?_ 1 _ rfl; (with_reducible repeat (first | refine blk_drewN ?_ _ | refine blk_drew ?_ | refine blk_alloc ?_ _)); refine blk_put (cs := #[.int .i64 0, .int .i64 0, .int .i64 0]) ?_ 0 _ rfl; (with_reducible repeat (first | refine blk_drewN ?_ _ | refine blk_drew ?_ | refine blk_alloc ?_ _)); exact BK263.out⟩, ⟨by repeat (first | (with_reducible first | exact HB.out | apply below_alloc | apply pw_below_drewN | apply below_drew1 | refine below_set ?_ GE261.out | refine below_set ?_ GE263.out) | exact HB.out)⟩⟩
         case rest =>
          clear HC14
          try clear c1
          try clear c2
          try clear c2b0
          try clear p2
          try clear q2
          try clear hx2
          try clear c3
          try clear c8
          try clear c8b0
          try clear c11
          try clear c12
          try clear c12b0
          try clear c13
          try clear c13b0
          try clear c17
          try clear c19
          try clear c19b0
          try clear c20
          try clear c22
          try clear c22b0
          try clear c23
          try clear c26
          try clear c26b0
          try clear p26
          try clear q26
          try clear hx26
          try clear c27
          try clear c28
          try clear c30
          try clear c30b0
          try clear c31
          try clear c34
          try clear c34b0
          try clear c35
          try clear c38
          try clear hcz10_0
          try clear hcz10_1
          try clear hcz15_0
          try clear hcz15_1
          try clear hcz18_0
          try clear hcz18_1
          try clear hcz18_2
          try clear hcz21_0
          try clear hcz21_1
          try clear hcz21_2
          try clear hcz24_0
          try clear hcz24_1
          try clear hcz24_2
          try clear hcz25_0
          try clear hcz25_1
          try clear hcz28_0
          try clear hcz28_1
          try clear hcz28_2
          try clear hcz29_0
          try clear hcz29_1
          try clear hcz32_0
          try clear hcz32_1
          try clear hcz32_2
          try clear hcz33_0
          try clear hcz33_1
          try clear hcz36_0
          try clear hcz36_1
          try clear hcz36_2
          try clear hcz37_0
          try clear hcz37_1
          try clear hcz39_0
          try clear hcz39_1
          try clear hcz39_2
          try clear hcz40_0
          try clear hcz40_1
          try clear hcz4_0
          try clear hcz4_1
          try clear hcz7_0
          try clear hcz7_1
          try clear hcz9_0
          try clear hcz9_1
          try clear hfz10_0
          try clear hfz10_1
          try clear hfz15_0
          try clear hfz15_1
          try clear hfz18_0
          try clear hfz18_1
          try clear hfz18_2
          try clear hfz21_0
          try clear hfz21_1
          try clear hfz21_2
          try clear hfz24_0
          try clear hfz24_1
          try clear hfz24_2
          try clear hfz25_0
          try clear hfz25_1
          try clear hfz28_0
          try clear hfz28_1
          try clear hfz28_2
          try clear hfz29_0
          try clear hfz29_1
          try clear hfz32_0
          try clear hfz32_1
          try clear hfz32_2
          try clear hfz33_0
          try clear hfz33_1
          try clear hfz36_0
          try clear hfz36_1
          try clear hfz36_2
          try clear hfz37_0
          try clear hfz37_1
          try clear hfz39_0
          try clear hfz39_1
          try clear hfz39_2
          try clear hfz40_0
          try clear hfz40_1
          try clear hfz4_0
          try clear hfz4_1
          try clear hfz7_0
          try clear hfz7_1
          try clear hfz9_0
          try clear hfz9_1
          try clear hx262_0
          try clear hx262_1
          try clear hx262_2
          try clear p2
          try clear p262
          try clear q262
          obtain ⟨kq, x60_13, rfl, HA, HJ13, BK261, BK263, HB⟩ := hcut
          cases kq with
          | zero => exact absurd HA.out (by simp [ancepsref09_Valid.j2])
          | succ kj13 =>
           have H := HA.out
           clear HA
           simp only [ancepsref09_Valid.j2] at H
           by_cases c41 : x60_13 = true
           ·subst c41
            have H1 : (some 6) = some r := by rw [if_pos rfl] at H; exact H
            clear H
            have H := H1
            clear H1
            obtain rfl := Option.some.inj H
            go_wp2
            go_ret
            exact ⟨by first | rfl | (simp [errW_none, errW_some] <;> rfl) | (simp [*, errW_none, errW_some] <;> rfl), by repeat (first | (with_reducible first | exact HB.out | apply below_alloc | apply pw_below_drewN | apply below_drew1 | refine below_set ?_ GE261.out | refine below_set ?_ GE263.out) | exact HB.out)⟩
           ·replace c41 := Bool.eq_false_iff.mpr c41
            subst c41
            have H1 : (if ((rd_T69 l0_1 x3_2).f1) ≤ ((rd_T69 l0_1 x3_2).f0) then (some 18) else (ancepsref09_Valid.l0 kj13 (wrap64 (x3_2 + 1)) a0_0 l0_1)) = some r := by rw [if_neg (show ¬ (false = true) by decide)] at H; exact H
            clear H
            have H := H1
            clear H1
            by_cases c42 : ((rd_T69 l0_1 x3_2).f1) ≤ ((rd_T69 l0_1 x3_2).f0)
            ·rw [if_pos c42] at H
             have c42b0 : decide (((rd_T69 l0_1 x3_2).f1) ≤ ((rd_T69 l0_1 x3_2).f0)) = true := decide_eq_true c42
             clear c42
             obtain rfl := Option.some.inj H
             have hnb43 := NB263_261.out
             have hnc43 := NB261_263.out
             have hcz44_0 : wc.cell? ⟨gb263, 0, none⟩ = some (.int .i64 ((rd_T69 l0_1 x3_2).f0)) := (blk_cell BK263.out 0).trans rfl
             have hcz44_1 : wc.cell? ⟨gb263, 1, none⟩ = some (.int .i64 ((rd_T69 l0_1 x3_2).f1)) := (blk_cell BK263.out 1).trans rfl
             have hcz44_2 : wc.cell? ⟨gb263, 2, none⟩ = some (.int .i64 ((rd_T69 l0_1 x3_2).f2)) := (blk_cell BK263.out 2).trans rfl
             have hfz44_0 := blk_frozen BK263.out 0
             have hfz44_1 := blk_frozen BK263.out 1
             have hfz44_2 := blk_frozen BK263.out 2
             go_wp2
             go_ret
             exact ⟨by first | rfl | (simp [errW_none, errW_some] <;> rfl) | (simp [*, errW_none, errW_some] <;> rfl), by repeat (first | (with_reducible first | exact HB.out | apply below_alloc | apply pw_below_drewN | apply below_drew1 | refine below_set ?_ GE261.out | refine below_set ?_ GE263.out) | exact HB.out)⟩
            ·rw [if_neg c42] at H
             have c42b0 : decide (((rd_T69 l0_1 x3_2).f1) ≤ ((rd_T69 l0_1 x3_2).f0)) = false := decide_eq_false c42
             clear c42
             have H' := Aside0.mk H
             clear H
             have hnb45 := NB263_261.out
             have hnc45 := NB261_263.out
             have hcz46_0 : wc.cell? ⟨gb263, 0, none⟩ = some (.int .i64 ((rd_T69 l0_1 x3_2).f0)) := (blk_cell BK263.out 0).trans rfl
             have hcz46_1 : wc.cell? ⟨gb263, 1, none⟩ = some (.int .i64 ((rd_T69 l0_1 x3_2).f1)) := (blk_cell BK263.out 1).trans rfl
             have hcz46_2 : wc.cell? ⟨gb263, 2, none⟩ = some (.int .i64 ((rd_T69 l0_1 x3_2).f2)) := (blk_cell BK263.out 2).trans rfl
             have hfz46_0 := blk_frozen BK263.out 0
             have hfz46_1 := blk_frozen BK263.out 1
             have hfz46_2 := blk_frozen BK263.out 2
             go_wp2
             go_roundg kj13
             case measure => have := HJ4.out; have := HK2.out; have := HJ13.out; omega
             case rel => exact ⟨(wrap64 (x3_2 + 1)), (by first | rfl | (simp; done) | (simp [*]; done)), H', ⟨by have := HJ4.out; have := HK2.out; have := HJ13.out; omega⟩, ⟨by (with_reducible repeat (first | refine blk_drewN ?_ _ | refine blk_drew ?_ | refine blk_alloc ?_ _)); exact BK261.out⟩, ⟨by repeat (first | (with_reducible first | exact HB.out | apply below_alloc | apply pw_below_drewN | apply below_drew1 | refine below_set ?_ GE261.out | refine below_set ?_ GE263.out) | exact HB.out)⟩⟩
        ·rw [if_neg c13] at H
         exact absurd H (by simp)
       ·rw [if_neg c12] at H
        have c12b0 : decide (x3_2 < (l0_1.length : Int)) = false := decide_eq_false c12
        clear c12
        obtain rfl := Option.some.inj H
        have hcz47_0 : wr.cell? ⟨gb261, 0, none⟩ = some (.int .i64 a0_0) := (blk_cell BK261.out 0).trans rfl
        have hcz47_1 : wr.cell? ⟨gb261, 1, none⟩ = some (.slice A0_1 l0_1.length c0_1) := (blk_cell BK261.out 1).trans rfl
        have hfz47_0 := blk_frozen BK261.out 0
        have hfz47_1 := blk_frozen BK261.out 1
        go_wp2
        go_ret
        exact ⟨by first | rfl | (simp [errW_none, errW_some] <;> rfl) | (simp [*, errW_none, errW_some] <;> rfl), by repeat (first | (with_reducible first | exact HB.out | apply below_alloc | apply pw_below_drewN | apply below_drew1 | refine below_set ?_ GE261.out) | exact HB.out)⟩

/-! ### ancepsref09_Check: function 18 -/
def ancepsref09_Check.l0 : Nat → List Int → Int → Int → Int → List (S69) → Option (Bool)
 | 0, _, _, _, _, _ => none
 | k + 1, x1, x5, x6, x265000, x265001 => if x6 < (x1.length : Int) then (if 0 ≤ x6 then (if (rd x1 x6) < 0 then (some false) else (if (rd x1 x6) ≥ (x265001.length : Int) then (some false) else (if 0 ≤ (rd x1 x6) then (if (rd x1 x6) < (x265001.length : Int) then (if ((rd_T69 x265001 (rd x1 x6)).f0) = x5 then (ancepsref09_Check.l0 k x1 ((rd_T69 x265001 (rd x1 x6)).f1) (wrap64 (x6 + 1)) x265000 x265001) else (some false)) else (none)) else (none)))) else (none)) else (some (x5 == (wrap64 (x265000 - 1))))
def ancepsref09_Check.f (k : Nat) (a0_0 : Int) (l0_1 : List (S69)) (l1 : List Int) : Option (Bool) := (ancepsref09_Valid.f k a0_0 l0_1).bind fun t265 => (if t265 = 0 then (ancepsref09_Check.l0 k l1 0 0 a0_0 l0_1) else (some false))
theorem ancepsref09_Check.mono_l : ∀ k, (∀ y0 y1 y2 y3 y4, LeO (ancepsref09_Check.l0 k y0 y1 y2 y3 y4) (ancepsref09_Check.l0 (k + 1) y0 y1 y2 y3 y4))
 | 0 => fun _ _ _ _ _ r h => by simp [ancepsref09_Check.l0] at h
 | k + 1 => by
  have ih0 := ancepsref09_Check.mono_l k
  ·intro y0 y1 y2 y3 y4
   unfold ancepsref09_Check.l0
   repeat' first
   | (with_reducible exact ih0 _ _ _ _ _)
   | (with_reducible exact ancepsref09_Valid.mono _ _ _)
   | (with_reducible exact LeO.refl _)
   | (with_reducible exact LeO.none _)
   | (with_reducible refine LeO.ite ?_ ?_)
   | (with_reducible refine LeO.bind ?_ (fun _ => ?_))
   | exact ih0 _ _ _ _ _
   | exact ancepsref09_Valid.mono _ _ _
   | exact LeO.none _
   | refine LeO.ite ?_ ?_
   | refine LeO.bind ?_ (fun _ => ?_)
theorem ancepsref09_Check.mono : ∀ a0 a1 a2 k, LeO (ancepsref09_Check.f k a0 a1 a2) (ancepsref09_Check.f (k + 1) a0 a1 a2) := by
 intro a0 a1 a2 k
 have ih0 := ancepsref09_Check.mono_l k
 unfold ancepsref09_Check.f
 repeat' first
   | (with_reducible exact ih0 _ _ _ _ _)
   | (with_reducible exact ancepsref09_Valid.mono _ _ _)
   | (with_reducible exact LeO.refl _)
   | (with_reducible exact LeO.none _)
   | (with_reducible refine LeO.ite ?_ ?_)
   | (with_reducible refine LeO.bind ?_ (fun _ => ?_))
   | exact ih0 _ _ _ _ _
   | exact ancepsref09_Valid.mono _ _ _
   | exact LeO.none _
   | refine LeO.ite ?_ ?_
   | refine LeO.bind ?_ (fun _ => ?_)
set_option maxHeartbeats 8000000 in
set_option maxRecDepth 100000 in
theorem ancepsref09_Check.calls (k : Nat) (a0_0 : Int) (A0_1 : Option Addr) (c0_1 : Nat) (l0_1 : List (S69)) (A1 : Option Addr) (c1 : Nat) (l1 : List Int) (r : Bool) (w : World) (hr0_1 : Kd.C k69 w A0_1 l0_1.length l0_1) (hc0_1 : l0_1.length ≤ c0_1) (hr1 : Kd.C (Kd.int .i64) w A1 l1.length l1) (hc1 : l1.length ≤ c1) (h : ancepsref09_Check.f k a0_0 l0_1 l1 = some r) :
  Calls Try.prog 18 #[.agg #[.int .i64 a0_0, .slice A0_1 l0_1.length c0_1], .slice A1 l1.length c1] w fun e w' => e = .returned (.bool r) ∧ Below w.heap.size w w' := by
 have hu24 := Try.underlying24
 have hu3 := Try.underlying3
 have hu22 := Try.underlying22
 have HR0_1 := Aside0.mk hr0_1
 have HC0_1 := Aside0.mk hc0_1
 clear hr0_1 hc0_1
 have HR1 := Aside0.mk hr1
 have HC1 := Aside0.mk hc1
 clear hr1 hc1
 have HB := Aside0.mk (Below.refl w.heap.size w)
 have H : ((ancepsref09_Valid.f k a0_0 l0_1).bind fun t265 => (if t265 = 0 then (ancepsref09_Check.l0 k l1 0 0 a0_0 l0_1) else (some false))) = some r := h
 clear h
 replace H := Option.bind_eq_some_iff.mp H
 obtain ⟨t265, A30, H⟩ := H
 replace H : (if t265 = 0 then (ancepsref09_Check.l0 k l1 0 0 a0_0 l0_1) else (some false)) = some r := H
 have A3 := Aside0.mk A30
 clear A30
 by_cases c4 : t265 = 0
 ·rw [if_pos c4] at H
  have c4b0 : (t265 == 0) = true := beq_iff_eq.mpr c4
  have c4b1 : (t265 != 0) = false := bne_eq_false_iff_eq.mpr c4
  clear c4
  have H' := Aside0.mk H
  clear H
  go_enter Try.func18, Try.ntmps18
  go_wp2_with (first | ((with_reducible refine gate_dst (N := 2) rfl ?_); (try (refine gate_guard (by rfl) ?_; dsimp only)); refine box_event ?hg (N := 2) ?hd (cs := #[.int .i64 a0_0, .slice A0_1 l0_1.length c0_1]) (t := 24) ?hr ?_; (case hd => rfl); (case hg => rfl); (case hr => first | (go_simp; done) | (go_simp; rfl)); intro gb264 hg w5 hbox hb; have n0_ := Aside0.mk (below_step (by repeat (first | (with_reducible first | exact HB.out | apply below_alloc | apply pw_below_drewN | apply below_drew1) | exact HB.out)) hb); have n1_ := Aside0.mk (hbox); have n2_ := Aside0.mk ((by rw [hg]; exact (below_size (by repeat (first | (with_reducible first | exact HB.out | apply below_alloc | apply pw_below_drewN | apply below_drew1) | exact HB.out))) : w.heap.size ≤ gb264)); have n3_ := Aside0.mk ((by rw [hg]; exact (below_size (by repeat (first | (with_reducible first | exact HB.out | apply below_alloc | apply pw_below_drewN | apply below_drew1) | exact HB.out))) : w.heap.size ≤ gb264)); clear HB; have HB := n0_; have BK264 := n1_; have GW264 := n2_; have GE264 := n3_; clear n0_ n1_ n2_ n3_; clear hb hbox hg; have hcz6_0 : w5.cell? ⟨gb264, 0, none⟩ = some (.int .i64 a0_0) := (blk_cell BK264.out 0).trans rfl; have hcz6_1 : w5.cell? ⟨gb264, 1, none⟩ = some (.slice A0_1 l0_1.length c0_1) := (blk_cell BK264.out 1).trans rfl; have hfz6_0 := blk_frozen BK264.out 0; have hfz6_1 := blk_frozen BK264.out 1) | (go_at_call 28; (with_reducible refine (ancepsref09_Valid.calls k a0_0 _ _ l0_1 t265 _ ?side1 ?side2 A3.out).mono ?_); (case side1 => repeat (first | exact (Kd.C_below HR0_1.out HB.out) | (with_reducible refine Kd.C_alloc ?_ _) | (with_reducible refine Kd.C_drewN ?_ _) | (with_reducible refine Kd.C_drew ?_))); (case side2 => exact HC0_1.out); rintro e w7 ⟨rfl, hb⟩; have n0_ := Aside0.mk (blk_below (g := gb264) (o := .cells #[.int .i64 a0_0, .slice A0_1 l0_1.length c0_1] 24 (0, 0)) (by (with_reducible repeat (first | refine blk_drewN ?_ _ | refine blk_drew ?_ | refine blk_alloc ?_ _)); exact BK264.out) hb); have n1_ := Aside0.mk (below_step (by repeat (first | (with_reducible first | exact HB.out | apply below_alloc | apply pw_below_drewN | apply below_drew1 | refine below_set ?_ GE264.out) | exact HB.out)) hb); clear BK264; clear HB; have BK264 := n0_; have HB := n1_; clear n0_ n1_; (try clear hb); (try clear hb2); (try clear hk); (try clear hi)))
  repeat (go_quiet (first | ((with_reducible refine gate_dst (N := 2) rfl ?_); (try (refine gate_guard (by rfl) ?_; dsimp only)); refine box_event ?hg (N := 2) ?hd (cs := #[.int .i64 a0_0, .slice A0_1 l0_1.length c0_1]) (t := 24) ?hr ?_; (case hd => rfl); (case hg => rfl); (case hr => first | (go_simp; done) | (go_simp; rfl)); intro gb264 hg w5 hbox hb; have n0_ := Aside0.mk (below_step (by repeat (first | (with_reducible first | exact HB.out | apply below_alloc | apply pw_below_drewN | apply below_drew1) | exact HB.out)) hb); have n1_ := Aside0.mk (hbox); have n2_ := Aside0.mk ((by rw [hg]; exact (below_size (by repeat (first | (with_reducible first | exact HB.out | apply below_alloc | apply pw_below_drewN | apply below_drew1) | exact HB.out))) : w.heap.size ≤ gb264)); have n3_ := Aside0.mk ((by rw [hg]; exact (below_size (by repeat (first | (with_reducible first | exact HB.out | apply below_alloc | apply pw_below_drewN | apply below_drew1) | exact HB.out))) : w.heap.size ≤ gb264)); clear HB; have HB := n0_; have BK264 := n1_; have GW264 := n2_; have GE264 := n3_; clear n0_ n1_ n2_ n3_; clear hb hbox hg; have hcz6_0 : w5.cell? ⟨gb264, 0, none⟩ = some (.int .i64 a0_0) := (blk_cell BK264.out 0).trans rfl; have hcz6_1 : w5.cell? ⟨gb264, 1, none⟩ = some (.slice A0_1 l0_1.length c0_1) := (blk_cell BK264.out 1).trans rfl; have hfz6_0 := blk_frozen BK264.out 0; have hfz6_1 := blk_frozen BK264.out 1) | (go_at_call 28; (with_reducible refine (ancepsref09_Valid.calls k a0_0 _ _ l0_1 t265 _ ?side1 ?side2 A3.out).mono ?_); (case side1 => repeat (first | exact (Kd.C_below HR0_1.out HB.out) | (with_reducible refine Kd.C_alloc ?_ _) | (with_reducible refine Kd.C_drewN ?_ _) | (with_reducible refine Kd.C_drew ?_))); (case side2 => exact HC0_1.out); rintro e w7 ⟨rfl, hb⟩; have n0_ := Aside0.mk (blk_below (g := gb264) (o := .cells #[.int .i64 a0_0, .slice A0_1 l0_1.length c0_1] 24 (0, 0)) (by (with_reducible repeat (first | refine blk_drewN ?_ _ | refine blk_drew ?_ | refine blk_alloc ?_ _)); exact BK264.out) hb); have n1_ := Aside0.mk (below_step (by repeat (first | (with_reducible first | exact HB.out | apply below_alloc | apply pw_below_drewN | apply below_drew1 | refine below_set ?_ GE264.out) | exact HB.out)) hb); clear BK264; clear HB; have BK264 := n0_; have HB := n1_; clear n0_ n1_; (try clear hb); (try clear hb2); (try clear hk); (try clear hi))); try go_wp2_with (first | ((with_reducible refine gate_dst (N := 2) rfl ?_); (try (refine gate_guard (by rfl) ?_; dsimp only)); refine box_event ?hg (N := 2) ?hd (cs := #[.int .i64 a0_0, .slice A0_1 l0_1.length c0_1]) (t := 24) ?hr ?_; (case hd => rfl); (case hg => rfl); (case hr => first | (go_simp; done) | (go_simp; rfl)); intro gb264 hg w5 hbox hb; have n0_ := Aside0.mk (below_step (by repeat (first | (with_reducible first | exact HB.out | apply below_alloc | apply pw_below_drewN | apply below_drew1) | exact HB.out)) hb); have n1_ := Aside0.mk (hbox); have n2_ := Aside0.mk ((by rw [hg]; exact (below_size (by repeat (first | (with_reducible first | exact HB.out | apply below_alloc | apply pw_below_drewN | apply below_drew1) | exact HB.out))) : w.heap.size ≤ gb264)); have n3_ := Aside0.mk ((by rw [hg]; exact (below_size (by repeat (first | (with_reducible first | exact HB.out | apply below_alloc | apply pw_below_drewN | apply below_drew1) | exact HB.out))) : w.heap.size ≤ gb264)); clear HB; have HB := n0_; have BK264 := n1_; have GW264 := n2_; have GE264 := n3_; clear n0_ n1_ n2_ n3_; clear hb hbox hg; have hcz6_0 : w5.cell? ⟨gb264, 0, none⟩ = some (.int .i64 a0_0) := (blk_cell BK264.out 0).trans rfl; have hcz6_1 : w5.cell? ⟨gb264, 1, none⟩ = some (.slice A0_1 l0_1.length c0_1) := (blk_cell BK264.out 1).trans rfl; have hfz6_0 := blk_frozen BK264.out 0; have hfz6_1 := blk_frozen BK264.out 1) | (go_at_call 28; (with_reducible refine (ancepsref09_Valid.calls k a0_0 _ _ l0_1 t265 _ ?side1 ?side2 A3.out).mono ?_); (case side1 => repeat (first | exact (Kd.C_below HR0_1.out HB.out) | (with_reducible refine Kd.C_alloc ?_ _) | (with_reducible refine Kd.C_drewN ?_ _) | (with_reducible refine Kd.C_drew ?_))); (case side2 => exact HC0_1.out); rintro e w7 ⟨rfl, hb⟩; have n0_ := Aside0.mk (blk_below (g := gb264) (o := .cells #[.int .i64 a0_0, .slice A0_1 l0_1.length c0_1] 24 (0, 0)) (by (with_reducible repeat (first | refine blk_drewN ?_ _ | refine blk_drew ?_ | refine blk_alloc ?_ _)); exact BK264.out) hb); have n1_ := Aside0.mk (below_step (by repeat (first | (with_reducible first | exact HB.out | apply below_alloc | apply pw_below_drewN | apply below_drew1 | refine below_set ?_ GE264.out) | exact HB.out)) hb); clear BK264; clear HB; have BK264 := n0_; have HB := n1_; clear n0_ n1_; (try clear hb); (try clear hb2); (try clear hk); (try clear hi))))
  go_loopg [5, 6] k (fun kq v5 v6 w' => ∃ (x5_1 : Int) (x6_1 : Int), v5 = .int .i64 x5_1 ∧ v6 = .int .i64 x6_1 ∧ Aside0 (ancepsref09_Check.l0 kq l1 x5_1 x6_1 a0_0 l0_1 = some r) ∧ Aside0 (kq ≤ k) ∧ Aside0 (w'.heap[gb264]? = some (.cells #[.int .i64 a0_0, (.slice A0_1 l0_1.length c0_1)] 24 (0, 0))) ∧ Aside0 (Below w.heap.size w w'))
  case atStart => exact ⟨(0), (0), (by first | rfl | (simp; done) | (simp [*]; done)), (by first | rfl | (simp; done) | (simp [*]; done)), H', ⟨Nat.le_refl _⟩, ⟨by (with_reducible repeat (first | refine blk_drewN ?_ _ | refine blk_drew ?_ | refine blk_alloc ?_ _)); exact BK264.out⟩, ⟨by repeat (first | (with_reducible first | exact HB.out | apply below_alloc | apply pw_below_drewN | apply below_drew1 | refine below_set ?_ GE264.out) | exact HB.out)⟩⟩
  case round =>
   clear H'
   try clear c1
   try clear p2
   try clear c4
   try clear c4b0
   try clear c4b1
   try clear hcz6_0
   try clear hcz6_1
   try clear hfz6_0
   try clear hfz6_1
   obtain ⟨x5_1, x6_1, rfl, rfl, HA, HK1, BK264, HB⟩ := hrel
   cases gk with
   | zero => exact absurd HA.out (by simp [ancepsref09_Check.l0])
   | succ k1 =>
    have H := HA.out
    clear HA
    simp only [ancepsref09_Check.l0] at H
    by_cases c8 : x6_1 < (l1.length : Int)
    ·rw [if_pos c8] at H
     have c8b0 : decide (x6_1 < (l1.length : Int)) = true := decide_eq_true c8
     clear c8
     by_cases c9 : 0 ≤ x6_1
     ·rw [if_pos c9] at H
      have c9b0 : decide (0 ≤ x6_1) = true := decide_eq_true c9
      clear c9
      by_cases c10 : (rd l1 x6_1) < 0
      ·rw [if_pos c10] at H
       have c10b0 : decide ((rd l1 x6_1) < 0) = true := decide_eq_true c10
       clear c10
       obtain rfl := Option.some.inj H
       have p266 : 0 ≤ (x6_1 : Int) := of_decide_eq_true (by first | (with_reducible assumption) | assumption)
       have q266 : x6_1 < (l1.length : Int) := of_decide_eq_true (by first | (with_reducible assumption) | assumption)
       obtain ⟨ad266, e266, hx266_0⟩ := Kd.at_int HR1.out x6_1 p266 q266
       cases e266
       replace hx266_0 := (HB.out.cell (World.block_lt_of_cell? w _ hx266_0)).trans hx266_0
       replace p266 := eq_true p266
       replace q266 := eq_true q266
       go_wp2
       repeat (go_quiet (fail); try go_wp2)
       go_ret
       exact ⟨by first | rfl | (simp [errW_none, errW_some] <;> rfl) | (simp [*, errW_none, errW_some] <;> rfl), by repeat (first | (with_reducible first | exact HB.out | apply below_alloc | apply pw_below_drewN | apply below_drew1 | refine below_set ?_ GE264.out) | exact HB.out)⟩
      ·rw [if_neg c10] at H
       have c10b0 : decide ((rd l1 x6_1) < 0) = false := decide_eq_false c10
       clear c10
       by_cases c11 : (rd l1 x6_1) ≥ (l0_1.length : Int)
       ·rw [if_pos c11] at H
        have c11b0 : decide ((l0_1.length : Int) ≤ (rd l1 x6_1)) = true := decide_eq_true c11
        clear c11
        obtain rfl := Option.some.inj H
        have p266 : 0 ≤ (x6_1 : Int) := of_decide_eq_true (by first | (with_reducible assumption) | assumption)
        have q266 : x6_1 < (l1.length : Int) := of_decide_eq_true (by first | (with_reducible assumption) | assumption)
        obtain ⟨ad266, e266, hx266_0⟩ := Kd.at_int HR1.out x6_1 p266 q266
        cases e266
        replace hx266_0 := (HB.out.cell (World.block_lt_of_cell? w _ hx266_0)).trans hx266_0
        replace p266 := eq_true p266
        replace q266 := eq_true q266
        have p267 : 0 ≤ (x6_1 : Int) := of_decide_eq_true (by first | (with_reducible assumption) | assumption)
        have q267 : x6_1 < (l1.length : Int) := of_decide_eq_true (by first | (with_reducible assumption) | assumption)
        obtain ⟨ad267, e267, hx267_0⟩ := Kd.at_int HR1.out x6_1 p267 q267
        obtain rfl : ad266 = ad267 := (by injection e267)
        replace hx267_0 := (HB.out.cell (World.block_lt_of_cell? w _ hx267_0)).trans hx267_0
        replace p267 := eq_true p267
        replace q267 := eq_true q267
        have hcz12_0 : wr.cell? ⟨gb264, 0, none⟩ = some (.int .i64 a0_0) := (blk_cell BK264.out 0).trans rfl
        have hcz12_1 : wr.cell? ⟨gb264, 1, none⟩ = some (.slice A0_1 l0_1.length c0_1) := (blk_cell BK264.out 1).trans rfl
        have hfz12_0 := blk_frozen BK264.out 0
        have hfz12_1 := blk_frozen BK264.out 1
        go_wp2
        repeat (go_quiet (fail); try go_wp2)
        go_ret
        exact ⟨by first | rfl | (simp [errW_none, errW_some] <;> rfl) | (simp [*, errW_none, errW_some] <;> rfl), by repeat (first | (with_reducible first | exact HB.out | apply below_alloc | apply pw_below_drewN | apply below_drew1 | refine below_set ?_ GE264.out) | exact HB.out)⟩
       ·rw [if_neg c11] at H
        have c11b0 : decide ((l0_1.length : Int) ≤ (rd l1 x6_1)) = false := decide_eq_false c11
        clear c11
        by_cases c13 : 0 ≤ (rd l1 x6_1)
        ·rw [if_pos c13] at H
         have c13b0 : decide (0 ≤ (rd l1 x6_1)) = true := decide_eq_true c13
         clear c13
         by_cases c14 : (rd l1 x6_1) < (l0_1.length : Int)
         ·rw [if_pos c14] at H
          have c14b0 : decide ((rd l1 x6_1) < (l0_1.length : Int)) = true := decide_eq_true c14
          clear c14
          by_cases c15 : ((rd_T69 l0_1 (rd l1 x6_1)).f0) = x5_1
          ·rw [if_pos c15] at H
           have c15b0 : (((rd_T69 l0_1 (rd l1 x6_1)).f0) == x5_1) = true := beq_iff_eq.mpr c15
           have c15b1 : (((rd_T69 l0_1 (rd l1 x6_1)).f0) != x5_1) = false := bne_eq_false_iff_eq.mpr c15
           clear c15
           have H' := Aside0.mk H
           clear H
           have p266 : 0 ≤ (x6_1 : Int) := of_decide_eq_true (by first | (with_reducible assumption) | assumption)
           have q266 : x6_1 < (l1.length : Int) := of_decide_eq_true (by first | (with_reducible assumption) | assumption)
           obtain ⟨ad266, e266, hx266_0⟩ := Kd.at_int HR1.out x6_1 p266 q266
           cases e266
           replace hx266_0 := (HB.out.cell (World.block_lt_of_cell? w _ hx266_0)).trans hx266_0
           replace p266 := eq_true p266
           replace q266 := eq_true q266
           have p267 : 0 ≤ (x6_1 : Int) := of_decide_eq_true (by first | (with_reducible assumption) | assumption)
           have q267 : x6_1 < (l1.length : Int) := of_decide_eq_true (by first | (with_reducible assumption) | assumption)
           obtain ⟨ad267, e267, hx267_0⟩ := Kd.at_int HR1.out x6_1 p267 q267
           obtain rfl : ad266 = ad267 := (by injection e267)
           replace hx267_0 := (HB.out.cell (World.block_lt_of_cell? w _ hx267_0)).trans hx267_0
           replace p267 := eq_true p267
           replace q267 := eq_true q267
           have hcz16_0 : wr.cell? ⟨gb264, 0, none⟩ = some (.int .i64 a0_0) := (blk_cell BK264.out 0).trans rfl
           have hcz16_1 : wr.cell? ⟨gb264, 1, none⟩ = some (.slice A0_1 l0_1.length c0_1) := (blk_cell BK264.out 1).trans rfl
           have hfz16_0 := blk_frozen BK264.out 0
           have hfz16_1 := blk_frozen BK264.out 1
           have p268 : 0 ≤ (x6_1 : Int) := of_decide_eq_true (by first | (with_reducible assumption) | assumption)
           have q268 : x6_1 < (l1.length : Int) := of_decide_eq_true (by first | (with_reducible assumption) | assumption)
           obtain ⟨ad268, e268, hx268_0⟩ := Kd.at_int HR1.out x6_1 p268 q268
           obtain rfl : ad266 = ad268 := (by injection e268)
           replace hx268_0 := (HB.out.cell (World.block_lt_of_cell? w _ hx268_0)).trans hx268_0
           replace p268 := eq_true p268
           replace q268 := eq_true q268
           have p269 : 0 ≤ ((rd l1 x6_1) : Int) := of_decide_eq_true (by first | (with_reducible assumption) | assumption)
           have q269 : (rd l1 x6_1) < (l0_1.length : Int) := of_decide_eq_true (by first | (with_reducible assumption) | assumption)
           obtain ⟨ad269, e269, hx269_0, hx269_1, hx269_2⟩ := at_T69 HR0_1.out (rd l1 x6_1) p269 q269
           cases e269
           replace hx269_0 := (HB.out.cell (World.block_lt_of_cell? w _ hx269_0)).trans hx269_0
           replace hx269_1 := (HB.out.cell (World.block_lt_of_cell? w _ hx269_1)).trans hx269_1
           replace hx269_2 := (HB.out.cell (World.block_lt_of_cell? w _ hx269_2)).trans hx269_2
           replace p269 := eq_true p269
           replace q269 := eq_true q269
           have p270 : 0 ≤ (x6_1 : Int) := of_decide_eq_true (by first | (with_reducible assumption) | assumption)
           have q270 : x6_1 < (l1.length : Int) := of_decide_eq_true (by first | (with_reducible assumption) | assumption)
           obtain ⟨ad270, e270, hx270_0⟩ := Kd.at_int HR1.out x6_1 p270 q270
           obtain rfl : ad266 = ad270 := (by injection e270)
           replace hx270_0 := (HB.out.cell (World.block_lt_of_cell? w _ hx270_0)).trans hx270_0
           replace p270 := eq_true p270
           replace q270 := eq_true q270
           have p271 : 0 ≤ ((rd l1 x6_1) : Int) := of_decide_eq_true (by first | (with_reducible assumption) | assumption)
           have q271 : (rd l1 x6_1) < (l0_1.length : Int) := of_decide_eq_true (by first | (with_reducible assumption) | assumption)
           obtain ⟨ad271, e271, hx271_0, hx271_1, hx271_2⟩ := at_T69 HR0_1.out (rd l1 x6_1) p271 q271
           obtain rfl : ad269 = ad271 := (by injection e271)
           replace hx271_0 := (HB.out.cell (World.block_lt_of_cell? w _ hx271_0)).trans hx271_0
           replace hx271_1 := (HB.out.cell (World.block_lt_of_cell? w _ hx271_1)).trans hx271_1
           replace hx271_2 := (HB.out.cell (World.block_lt_of_cell? w _ hx271_2)).trans hx271_2
           replace p271 := eq_true p271
           replace q271 := eq_true q271
           go_wp2
           repeat (go_quiet (fail); try go_wp2)
           go_roundg k1
           case measure => have := HK1.out; omega
           case rel => exact ⟨((rd_T69 l0_1 (rd l1 x6_1)).f1), (wrap64 (x6_1 + 1)), (by first | rfl | (simp; done) | (simp [*]; done)), (by first | rfl | (simp; done) | (simp [*]; done)), H', ⟨by have := HK1.out; omega⟩, ⟨by (with_reducible repeat (first | refine blk_drewN ?_ _ | refine blk_drew ?_ | refine blk_alloc ?_ _)); exact BK264.out⟩, ⟨by repeat (first | (with_reducible first | exact HB.out | apply below_alloc | apply pw_below_drewN | apply below_drew1 | refine below_set ?_ GE264.out) | exact HB.out)⟩⟩
          ·rw [if_neg c15] at H
           have c15b0 : (((rd_T69 l0_1 (rd l1 x6_1)).f0) == x5_1) = false := beq_eq_false_iff_ne.mpr c15
           have c15b1 : (((rd_T69 l0_1 (rd l1 x6_1)).f0) != x5_1) = true := bne_iff_ne.mpr c15
           obtain rfl := Option.some.inj H
           have p266 : 0 ≤ (x6_1 : Int) := of_decide_eq_true (by first | (with_reducible assumption) | assumption)
           have q266 : x6_1 < (l1.length : Int) := of_decide_eq_true (by first | (with_reducible assumption) | assumption)
           obtain ⟨ad266, e266, hx266_0⟩ := Kd.at_int HR1.out x6_1 p266 q266
           cases e266
           replace hx266_0 := (HB.out.cell (World.block_lt_of_cell? w _ hx266_0)).trans hx266_0
           replace p266 := eq_true p266
           replace q266 := eq_true q266
           have p267 : 0 ≤ (x6_1 : Int) := of_decide_eq_true (by first | (with_reducible assumption) | assumption)
           have q267 : x6_1 < (l1.length : Int) := of_decide_eq_true (by first | (with_reducible assumption) | assumption)
           obtain ⟨ad267, e267, hx267_0⟩ := Kd.at_int HR1.out x6_1 p267 q267
           obtain rfl : ad266 = ad267 := (by injection e267)
           replace hx267_0 := (HB.out.cell (World.block_lt_of_cell? w _ hx267_0)).trans hx267_0
           replace p267 := eq_true p267
           replace q267 := eq_true q267
           have hcz17_0 : wr.cell? ⟨gb264, 0, none⟩ = some (.int .i64 a0_0) := (blk_cell BK264.out 0).trans rfl
           have hcz17_1 : wr.cell? ⟨gb264, 1, none⟩ = some (.slice A0_1 l0_1.length c0_1) := (blk_cell BK264.out 1).trans rfl
           have hfz17_0 := blk_frozen BK264.out 0
           have hfz17_1 := blk_frozen BK264.out 1
           have p268 : 0 ≤ (x6_1 : Int) := of_decide_eq_true (by first | (with_reducible assumption) | assumption)
           have q268 : x6_1 < (l1.length : Int) := of_decide_eq_true (by first | (with_reducible assumption) | assumption)
           obtain ⟨ad268, e268, hx268_0⟩ := Kd.at_int HR1.out x6_1 p268 q268
           obtain rfl : ad266 = ad268 := (by injection e268)
           replace hx268_0 := (HB.out.cell (World.block_lt_of_cell? w _ hx268_0)).trans hx268_0
           replace p268 := eq_true p268
           replace q268 := eq_true q268
           have p269 : 0 ≤ ((rd l1 x6_1) : Int) := of_decide_eq_true (by first | (with_reducible assumption) | assumption)
           have q269 : (rd l1 x6_1) < (l0_1.length : Int) := of_decide_eq_true (by first | (with_reducible assumption) | assumption)
           obtain ⟨ad269, e269, hx269_0, hx269_1, hx269_2⟩ := at_T69 HR0_1.out (rd l1 x6_1) p269 q269
           cases e269
           replace hx269_0 := (HB.out.cell (World.block_lt_of_cell? w _ hx269_0)).trans hx269_0
           replace hx269_1 := (HB.out.cell (World.block_lt_of_cell? w _ hx269_1)).trans hx269_1
           replace hx269_2 := (HB.out.cell (World.block_lt_of_cell? w _ hx269_2)).trans hx269_2
           replace p269 := eq_true p269
           replace q269 := eq_true q269
           go_wp2
           repeat (go_quiet (fail); try go_wp2)
           go_ret
           exact ⟨by first | rfl | (simp [errW_none, errW_some] <;> rfl) | (simp [*, errW_none, errW_some] <;> rfl), by repeat (first | (with_reducible first | exact HB.out | apply below_alloc | apply pw_below_drewN | apply below_drew1 | refine below_set ?_ GE264.out) | exact HB.out)⟩
         ·rw [if_neg c14] at H
          exact absurd H (by simp)
        ·rw [if_neg c13] at H
         exact absurd H (by simp)
     ·rw [if_neg c9] at H
      exact absurd H (by simp)
    ·rw [if_neg c8] at H
     have c8b0 : decide (x6_1 < (l1.length : Int)) = false := decide_eq_false c8
     clear c8
     obtain rfl := Option.some.inj H
     have hcz18_0 : wr.cell? ⟨gb264, 0, none⟩ = some (.int .i64 a0_0) := (blk_cell BK264.out 0).trans rfl
     have hcz18_1 : wr.cell? ⟨gb264, 1, none⟩ = some (.slice A0_1 l0_1.length c0_1) := (blk_cell BK264.out 1).trans rfl
     have hfz18_0 := blk_frozen BK264.out 0
     have hfz18_1 := blk_frozen BK264.out 1
     go_wp2
     repeat (go_quiet (fail); try go_wp2)
     go_ret
     exact ⟨by first | rfl | (simp [errW_none, errW_some] <;> rfl) | (simp [*, errW_none, errW_some] <;> rfl), by repeat (first | (with_reducible first | exact HB.out | apply below_alloc | apply pw_below_drewN | apply below_drew1 | refine below_set ?_ GE264.out) | exact HB.out)⟩
 ·rw [if_neg c4] at H
  have c4b0 : (t265 == 0) = false := beq_eq_false_iff_ne.mpr c4
  have c4b1 : (t265 != 0) = true := bne_iff_ne.mpr c4
  obtain rfl := Option.some.inj H
  go_enter Try.func18, Try.ntmps18
  go_wp2_with (first | ((with_reducible refine gate_dst (N := 2) rfl ?_); (try (refine gate_guard (by rfl) ?_; dsimp only)); refine box_event ?hg (N := 2) ?hd (cs := #[.int .i64 a0_0, .slice A0_1 l0_1.length c0_1]) (t := 24) ?hr ?_; (case hd => rfl); (case hg => rfl); (case hr => first | (go_simp; done) | (go_simp; rfl)); intro gb264 hg w19 hbox hb; have n0_ := Aside0.mk (below_step (by repeat (first | (with_reducible first | exact HB.out | apply below_alloc | apply pw_below_drewN | apply below_drew1) | exact HB.out)) hb); have n1_ := Aside0.mk (hbox); have n2_ := Aside0.mk ((by rw [hg]; exact (below_size (by repeat (first | (with_reducible first | exact HB.out | apply below_alloc | apply pw_below_drewN | apply below_drew1) | exact HB.out))) : w.heap.size ≤ gb264)); have n3_ := Aside0.mk ((by rw [hg]; exact (below_size (by repeat (first | (with_reducible first | exact HB.out | apply below_alloc | apply pw_below_drewN | apply below_drew1) | exact HB.out))) : w.heap.size ≤ gb264)); clear HB; have HB := n0_; have BK264 := n1_; have GW264 := n2_; have GE264 := n3_; clear n0_ n1_ n2_ n3_; clear hb hbox hg; have hcz20_0 : w19.cell? ⟨gb264, 0, none⟩ = some (.int .i64 a0_0) := (blk_cell BK264.out 0).trans rfl; have hcz20_1 : w19.cell? ⟨gb264, 1, none⟩ = some (.slice A0_1 l0_1.length c0_1) := (blk_cell BK264.out 1).trans rfl; have hfz20_0 := blk_frozen BK264.out 0; have hfz20_1 := blk_frozen BK264.out 1) | (go_at_call 28; (with_reducible refine (ancepsref09_Valid.calls k a0_0 _ _ l0_1 t265 _ ?side1 ?side2 A3.out).mono ?_); (case side1 => repeat (first | exact (Kd.C_below HR0_1.out HB.out) | (with_reducible refine Kd.C_alloc ?_ _) | (with_reducible refine Kd.C_drewN ?_ _) | (with_reducible refine Kd.C_drew ?_))); (case side2 => exact HC0_1.out); rintro e w21 ⟨rfl, hb⟩; have n0_ := Aside0.mk (blk_below (g := gb264) (o := .cells #[.int .i64 a0_0, .slice A0_1 l0_1.length c0_1] 24 (0, 0)) (by (with_reducible repeat (first | refine blk_drewN ?_ _ | refine blk_drew ?_ | refine blk_alloc ?_ _)); exact BK264.out) hb); have n1_ := Aside0.mk (below_step (by repeat (first | (with_reducible first | exact HB.out | apply below_alloc | apply pw_below_drewN | apply below_drew1 | refine below_set ?_ GE264.out) | exact HB.out)) hb); clear BK264; clear HB; have BK264 := n0_; have HB := n1_; clear n0_ n1_; (try clear hb); (try clear hb2); (try clear hk); (try clear hi)))
  repeat (go_quiet (first | ((with_reducible refine gate_dst (N := 2) rfl ?_); (try (refine gate_guard (by rfl) ?_; dsimp only)); refine box_event ?hg (N := 2) ?hd (cs := #[.int .i64 a0_0, .slice A0_1 l0_1.length c0_1]) (t := 24) ?hr ?_; (case hd => rfl); (case hg => rfl); (case hr => first | (go_simp; done) | (go_simp; rfl)); intro gb264 hg w19 hbox hb; have n0_ := Aside0.mk (below_step (by repeat (first | (with_reducible first | exact HB.out | apply below_alloc | apply pw_below_drewN | apply below_drew1) | exact HB.out)) hb); have n1_ := Aside0.mk (hbox); have n2_ := Aside0.mk ((by rw [hg]; exact (below_size (by repeat (first | (with_reducible first | exact HB.out | apply below_alloc | apply pw_below_drewN | apply below_drew1) | exact HB.out))) : w.heap.size ≤ gb264)); have n3_ := Aside0.mk ((by rw [hg]; exact (below_size (by repeat (first | (with_reducible first | exact HB.out | apply below_alloc | apply pw_below_drewN | apply below_drew1) | exact HB.out))) : w.heap.size ≤ gb264)); clear HB; have HB := n0_; have BK264 := n1_; have GW264 := n2_; have GE264 := n3_; clear n0_ n1_ n2_ n3_; clear hb hbox hg; have hcz20_0 : w19.cell? ⟨gb264, 0, none⟩ = some (.int .i64 a0_0) := (blk_cell BK264.out 0).trans rfl; have hcz20_1 : w19.cell? ⟨gb264, 1, none⟩ = some (.slice A0_1 l0_1.length c0_1) := (blk_cell BK264.out 1).trans rfl; have hfz20_0 := blk_frozen BK264.out 0; have hfz20_1 := blk_frozen BK264.out 1) | (go_at_call 28; (with_reducible refine (ancepsref09_Valid.calls k a0_0 _ _ l0_1 t265 _ ?side1 ?side2 A3.out).mono ?_); (case side1 => repeat (first | exact (Kd.C_below HR0_1.out HB.out) | (with_reducible refine Kd.C_alloc ?_ _) | (with_reducible refine Kd.C_drewN ?_ _) | (with_reducible refine Kd.C_drew ?_))); (case side2 => exact HC0_1.out); rintro e w21 ⟨rfl, hb⟩; have n0_ := Aside0.mk (blk_below (g := gb264) (o := .cells #[.int .i64 a0_0, .slice A0_1 l0_1.length c0_1] 24 (0, 0)) (by (with_reducible repeat (first | refine blk_drewN ?_ _ | refine blk_drew ?_ | refine blk_alloc ?_ _)); exact BK264.out) hb); have n1_ := Aside0.mk (below_step (by repeat (first | (with_reducible first | exact HB.out | apply below_alloc | apply pw_below_drewN | apply below_drew1 | refine below_set ?_ GE264.out) | exact HB.out)) hb); clear BK264; clear HB; have BK264 := n0_; have HB := n1_; clear n0_ n1_; (try clear hb); (try clear hb2); (try clear hk); (try clear hi))); try go_wp2_with (first | ((with_reducible refine gate_dst (N := 2) rfl ?_); (try (refine gate_guard (by rfl) ?_; dsimp only)); refine box_event ?hg (N := 2) ?hd (cs := #[.int .i64 a0_0, .slice A0_1 l0_1.length c0_1]) (t := 24) ?hr ?_; (case hd => rfl); (case hg => rfl); (case hr => first | (go_simp; done) | (go_simp; rfl)); intro gb264 hg w19 hbox hb; have n0_ := Aside0.mk (below_step (by repeat (first | (with_reducible first | exact HB.out | apply below_alloc | apply pw_below_drewN | apply below_drew1) | exact HB.out)) hb); have n1_ := Aside0.mk (hbox); have n2_ := Aside0.mk ((by rw [hg]; exact (below_size (by repeat (first | (with_reducible first | exact HB.out | apply below_alloc | apply pw_below_drewN | apply below_drew1) | exact HB.out))) : w.heap.size ≤ gb264)); have n3_ := Aside0.mk ((by rw [hg]; exact (below_size (by repeat (first | (with_reducible first | exact HB.out | apply below_alloc | apply pw_below_drewN | apply below_drew1) | exact HB.out))) : w.heap.size ≤ gb264)); clear HB; have HB := n0_; have BK264 := n1_; have GW264 := n2_; have GE264 := n3_; clear n0_ n1_ n2_ n3_; clear hb hbox hg; have hcz20_0 : w19.cell? ⟨gb264, 0, none⟩ = some (.int .i64 a0_0) := (blk_cell BK264.out 0).trans rfl; have hcz20_1 : w19.cell? ⟨gb264, 1, none⟩ = some (.slice A0_1 l0_1.length c0_1) := (blk_cell BK264.out 1).trans rfl; have hfz20_0 := blk_frozen BK264.out 0; have hfz20_1 := blk_frozen BK264.out 1) | (go_at_call 28; (with_reducible refine (ancepsref09_Valid.calls k a0_0 _ _ l0_1 t265 _ ?side1 ?side2 A3.out).mono ?_); (case side1 => repeat (first | exact (Kd.C_below HR0_1.out HB.out) | (with_reducible refine Kd.C_alloc ?_ _) | (with_reducible refine Kd.C_drewN ?_ _) | (with_reducible refine Kd.C_drew ?_))); (case side2 => exact HC0_1.out); rintro e w21 ⟨rfl, hb⟩; have n0_ := Aside0.mk (blk_below (g := gb264) (o := .cells #[.int .i64 a0_0, .slice A0_1 l0_1.length c0_1] 24 (0, 0)) (by (with_reducible repeat (first | refine blk_drewN ?_ _ | refine blk_drew ?_ | refine blk_alloc ?_ _)); exact BK264.out) hb); have n1_ := Aside0.mk (below_step (by repeat (first | (with_reducible first | exact HB.out | apply below_alloc | apply pw_below_drewN | apply below_drew1 | refine below_set ?_ GE264.out) | exact HB.out)) hb); clear BK264; clear HB; have BK264 := n0_; have HB := n1_; clear n0_ n1_; (try clear hb); (try clear hb2); (try clear hk); (try clear hi))))
  go_ret
  exact ⟨by first | rfl | (simp [errW_none, errW_some] <;> rfl) | (simp [*, errW_none, errW_some] <;> rfl), by repeat (first | (with_reducible first | exact HB.out | apply below_alloc | apply pw_below_drewN | apply below_drew1 | refine below_set ?_ GE264.out) | exact HB.out)⟩

end Go.Proofs.Ytanbffoilianhaa.D
