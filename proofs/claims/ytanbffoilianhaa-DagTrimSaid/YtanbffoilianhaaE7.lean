-- Written by wip/tools/myprint.py, a program of this session's.
import Derived.Test.YtanbffoilianhaaE0
namespace Go.Proofs.Ytanbffoilianhaa.E
open Go.RowKit Go.Proofs.YtanbffoilianhaaW.PrintWords Go.Proofs.YtanbffoilianhaaW.PrintLast Go.Proofs.YtanbffoilianhaaW.PrintMore
attribute [local go_sem] max2_int min2_int max_two min_two max_three min_three max_four min_four   -- for this text's walks alone
set_option linter.unusedVariables false
set_option linter.unusedSimpArgs false
/-! ### ancepsref09_Valid: function 28 -/
mutual
def ancepsref09_Valid.j0 : Nat → Bool → Int → List (S69) → Option (Int)
 | 0, _, _, _ => none
 | k + 1, x16, x262000, x262001 => if x16 = true then (some 3) else (ancepsref09_Valid.l0 k 0 x262000 x262001)
def ancepsref09_Valid.l0 : Nat → Int → Int → List (S69) → Option (Int)
 | 0, _, _, _ => none
 | k + 1, x3, x262000, x262001 => if x3 < (x262001.length : Int) then (if 0 ≤ x3 then (if ((rd_T69 x262001 x3).f0) < 0 then (ancepsref09_Valid.j2 k x3 true x262000 x262001 ((rd_T69 x262001 x3).f0) ((rd_T69 x262001 x3).f1) ((rd_T69 x262001 x3).f2)) else (if ((rd_T69 x262001 x3).f0) ≥ x262000 then (ancepsref09_Valid.j2 k x3 true x262000 x262001 ((rd_T69 x262001 x3).f0) ((rd_T69 x262001 x3).f1) ((rd_T69 x262001 x3).f2)) else (if ((rd_T69 x262001 x3).f1) < 0 then (ancepsref09_Valid.j2 k x3 true x262000 x262001 ((rd_T69 x262001 x3).f0) ((rd_T69 x262001 x3).f1) ((rd_T69 x262001 x3).f2)) else (if ((rd_T69 x262001 x3).f1) ≥ x262000 then (ancepsref09_Valid.j2 k x3 true x262000 x262001 ((rd_T69 x262001 x3).f0) ((rd_T69 x262001 x3).f1) ((rd_T69 x262001 x3).f2)) else (if ((rd_T69 x262001 x3).f2) < 0 then (ancepsref09_Valid.j2 k x3 true x262000 x262001 ((rd_T69 x262001 x3).f0) ((rd_T69 x262001 x3).f1) ((rd_T69 x262001 x3).f2)) else (ancepsref09_Valid.j2 k x3 (decide (((rd_T69 x262001 x3).f2) > 1000000)) x262000 x262001 ((rd_T69 x262001 x3).f0) ((rd_T69 x262001 x3).f1) ((rd_T69 x262001 x3).f2))))))) else (none)) else (some 0)
def ancepsref09_Valid.j2 : Nat → Int → Bool → Int → List (S69) → Int → Int → Int → Option (Int)
 | 0, _, _, _, _, _, _, _ => none
 | k + 1, x3, x60, x262000, x262001, x264000, x264001, x264002 => if x60 = true then (some 6) else (if x264001 ≤ x264000 then (some 18) else (ancepsref09_Valid.l0 k (wrap64 (x3 + 1)) x262000 x262001))
end
def ancepsref09_Valid.f (k : Nat) (a0_0 : Int) (l0_1 : List (S69)) : Option (Int) := if a0_0 < 1 then (some 7) else (if a0_0 > 2000 then (ancepsref09_Valid.j0 k true a0_0 l0_1) else (ancepsref09_Valid.j0 k (decide ((l0_1.length : Int) > 6000)) a0_0 l0_1))
theorem ancepsref09_Valid.mono_l : ∀ k, (∀ y0 y1 y2, LeO (ancepsref09_Valid.j0 k y0 y1 y2) (ancepsref09_Valid.j0 (k + 1) y0 y1 y2)) ∧ (∀ y0 y1 y2, LeO (ancepsref09_Valid.l0 k y0 y1 y2) (ancepsref09_Valid.l0 (k + 1) y0 y1 y2)) ∧ (∀ y0 y1 y2 y3 y4 y5 y6, LeO (ancepsref09_Valid.j2 k y0 y1 y2 y3 y4 y5 y6) (ancepsref09_Valid.j2 (k + 1) y0 y1 y2 y3 y4 y5 y6))
 | 0 => ⟨fun _ _ _ r h => by simp [ancepsref09_Valid.j0] at h, fun _ _ _ r h => by simp [ancepsref09_Valid.l0] at h, fun _ _ _ _ _ _ _ r h => by simp [ancepsref09_Valid.j2] at h⟩
 | k + 1 => by
  obtain ⟨ih0, ih1, ih2⟩ := ancepsref09_Valid.mono_l k
  refine ⟨?_, ?_, ?_⟩
  ·intro y0 y1 y2
   unfold ancepsref09_Valid.j0
   repeat' first
   | (with_reducible exact ih0 _ _ _)
   | (with_reducible exact ih1 _ _ _)
   | (with_reducible exact ih2 _ _ _ _ _ _ _)
   | (with_reducible exact LeO.refl _)
   | (with_reducible exact LeO.none _)
   | (with_reducible refine LeO.ite ?_ ?_)
   | (with_reducible refine LeO.bind ?_ (fun _ => ?_))
   | exact ih0 _ _ _
   | exact ih1 _ _ _
   | exact ih2 _ _ _ _ _ _ _
   | exact LeO.none _
   | refine LeO.ite ?_ ?_
   | refine LeO.bind ?_ (fun _ => ?_)
  ·intro y0 y1 y2
   unfold ancepsref09_Valid.l0
   repeat' first
   | (with_reducible exact ih0 _ _ _)
   | (with_reducible exact ih1 _ _ _)
   | (with_reducible exact ih2 _ _ _ _ _ _ _)
   | (with_reducible exact LeO.refl _)
   | (with_reducible exact LeO.none _)
   | (with_reducible refine LeO.ite ?_ ?_)
   | (with_reducible refine LeO.bind ?_ (fun _ => ?_))
   | exact ih0 _ _ _
   | exact ih1 _ _ _
   | exact ih2 _ _ _ _ _ _ _
   | exact LeO.none _
   | refine LeO.ite ?_ ?_
   | refine LeO.bind ?_ (fun _ => ?_)
  ·intro y0 y1 y2 y3 y4 y5 y6
   unfold ancepsref09_Valid.j2
   repeat' first
   | (with_reducible exact ih0 _ _ _)
   | (with_reducible exact ih1 _ _ _)
   | (with_reducible exact ih2 _ _ _ _ _ _ _)
   | (with_reducible exact LeO.refl _)
   | (with_reducible exact LeO.none _)
   | (with_reducible refine LeO.ite ?_ ?_)
   | (with_reducible refine LeO.bind ?_ (fun _ => ?_))
   | exact ih0 _ _ _
   | exact ih1 _ _ _
   | exact ih2 _ _ _ _ _ _ _
   | exact LeO.none _
   | refine LeO.ite ?_ ?_
   | refine LeO.bind ?_ (fun _ => ?_)
theorem ancepsref09_Valid.mono : ∀ a0 a1 k, LeO (ancepsref09_Valid.f k a0 a1) (ancepsref09_Valid.f (k + 1) a0 a1) := by
 intro a0 a1 k
 obtain ⟨ih0, ih1, ih2⟩ := ancepsref09_Valid.mono_l k
 unfold ancepsref09_Valid.f
 repeat' first
   | (with_reducible exact ih0 _ _ _)
   | (with_reducible exact ih1 _ _ _)
   | (with_reducible exact ih2 _ _ _ _ _ _ _)
   | (with_reducible exact LeO.refl _)
   | (with_reducible exact LeO.none _)
   | (with_reducible refine LeO.ite ?_ ?_)
   | (with_reducible refine LeO.bind ?_ (fun _ => ?_))
   | exact ih0 _ _ _
   | exact ih1 _ _ _
   | exact ih2 _ _ _ _ _ _ _
   | exact LeO.none _
   | refine LeO.ite ?_ ?_
   | refine LeO.bind ?_ (fun _ => ?_)
set_option maxHeartbeats 8000000 in
set_option maxRecDepth 100000 in
theorem ancepsref09_Valid.calls (k : Nat) (a0_0 : Int) (A0_1 : Option Addr) (c0_1 : Nat) (l0_1 : List (S69)) (r : Int) (w : World) (hr0_1 : Kd.C k69 w A0_1 l0_1.length l0_1) (hc0_1 : l0_1.length ≤ c0_1) (h : ancepsref09_Valid.f k a0_0 l0_1 = some r) :
  Calls Try.prog 28 #[.agg #[.int .i64 a0_0, .slice A0_1 l0_1.length c0_1]] w fun e w' => e = .returned (.int .i64 r) ∧ Below w.heap.size w w' := by
 have hu24 := Try.underlying24
 have hu3 := Try.underlying3
 have hu22 := Try.underlying22
 have hu69 := Try.underlying69
 have HR0_1 := Aside0.mk hr0_1
 have HC0_1 := Aside0.mk hc0_1
 clear hr0_1 hc0_1
 have HB := Aside0.mk (Below.refl w.heap.size w)
 have H : (if a0_0 < 1 then (some 7) else (if a0_0 > 2000 then (ancepsref09_Valid.j0 k true a0_0 l0_1) else (ancepsref09_Valid.j0 k (decide ((l0_1.length : Int) > 6000)) a0_0 l0_1))) = some r := h
 clear h
 have HC2 := Aside0.mk H
 clear H
 go_enter Try.func28, Try.ntmps28
 go_upto_if 7 with (first | ((with_reducible refine gate_dst (N := 1) rfl ?_); (try (refine gate_guard (by rfl) ?_; dsimp only)); refine box_event ?hg (N := 1) ?hd (cs := #[.int .i64 a0_0, .slice A0_1 l0_1.length c0_1]) (t := 24) ?hr ?_; (case hd => rfl); (case hg => rfl); (case hr => first | (go_simp; done) | (go_simp; rfl)); intro gb261 hg w3 hbox hb; have n0_ := Aside0.mk (below_step zB hb); have n1_ := Aside0.mk (hbox); have n2_ := Aside0.mk ((by rw [hg]; exact (below_size zB) : w.heap.size ≤ gb261)); have n3_ := Aside0.mk ((by rw [hg]; exact (below_size zB) : w.heap.size ≤ gb261)); clear HB; have HB := n0_; have BK261 := n1_; have GW261 := n2_; have GE261 := n3_; clear n0_ n1_ n2_ n3_; clear hb hbox hg; have hcz4_0 : w3.cell? ⟨gb261, 0, none⟩ = some (.int .i64 a0_0) := (blk_cell BK261.out 0).trans rfl; have hcz4_1 : w3.cell? ⟨gb261, 1, none⟩ = some (.slice A0_1 l0_1.length c0_1) := (blk_cell BK261.out 1).trans rfl; have hfz4_0 := blk_frozen BK261.out 0; have hfz4_1 := blk_frozen BK261.out 1))
 (try simp only [Act.put, List.setIfInBounds_toArray, List.set_cons_zero, List.set_cons_succ])
 have H := HC2.out
 clear HC2
 by_cases c5 : a0_0 < 1
 ·rw [if_pos c5] at H
  have c5b0 : decide (a0_0 < 1) = true := decide_eq_true c5
  clear c5
  (first | rw [c5b0] | (simp only [i64_w, i32_w]; rw [c5b0]) | skip)
  obtain rfl := Option.some.inj H
  go_wp2
  go_ret
  exact ⟨by first | rfl | (simp [errW_none, errW_some] <;> rfl) | (simp [*, errW_none, errW_some] <;> rfl), by repeat (first | (with_reducible first | exact HB.out | apply below_alloc | apply pw_below_drewN | apply below_drew1 | refine below_set ?_ GE261.out) | exact HB.out)⟩
 ·rw [if_neg c5] at H
  have c5b0 : decide (a0_0 < 1) = false := decide_eq_false c5
  clear c5
  (first | rw [c5b0] | (simp only [i64_w, i32_w]; rw [c5b0]) | skip)
  have HC6 := Aside0.mk H
  clear H
  go_upto_region 3 with (fail)
  go_cut [16] (fun v16 wc => ∃ (kq : Nat) (x16_5 : Bool), v16 = .bool x16_5 ∧ Aside0 (ancepsref09_Valid.j0 kq x16_5 a0_0 l0_1 = some r) ∧ Aside0 (kq ≤ k) ∧ Aside0 (wc.heap[gb261]? = some (.cells #[.int .i64 a0_0, (.slice A0_1 l0_1.length c0_1)] 24 (0, 0))) ∧ Aside0 (Below w.heap.size w wc))
  case first =>
   have H := HC6.out
   clear HC6
   by_cases c7 : a0_0 > 2000
   ·rw [if_pos c7] at H
    have c7b0 : decide (2000 < a0_0) = true := decide_eq_true c7
    clear c7
    (first | rw [c7b0] | (simp only [i64_w, i32_w]; rw [c7b0]) | skip)
    have H' := Aside0.mk H
    clear H
    have hcz8_0 : w3.cell? ⟨gb261, 0, none⟩ = some (.int .i64 a0_0) := (blk_cell BK261.out 0).trans rfl
    have hcz8_1 : w3.cell? ⟨gb261, 1, none⟩ = some (.slice A0_1 l0_1.length c0_1) := (blk_cell BK261.out 1).trans rfl
    have hfz8_0 := blk_frozen BK261.out 0
    have hfz8_1 := blk_frozen BK261.out 1
    go_wp2
    go_meet
    case rel => exact ⟨_, (true), zT, H', ⟨by first | omega | exact Nat.le_refl _⟩, ⟨by (with_reducible repeat (first | refine blk_drewN ?_ _ | refine blk_drew ?_ | refine blk_alloc ?_ _)); exact BK261.out⟩, ⟨by repeat (first | (with_reducible first | exact HB.out | apply below_alloc | apply pw_below_drewN | apply below_drew1 | refine below_set ?_ GE261.out) | exact HB.out)⟩⟩
   ·rw [if_neg c7] at H
    have c7b0 : decide (2000 < a0_0) = false := decide_eq_false c7
    clear c7
    (first | rw [c7b0] | (simp only [i64_w, i32_w]; rw [c7b0]) | skip)
    have H' := Aside0.mk H
    clear H
    have hcz9_0 : w3.cell? ⟨gb261, 0, none⟩ = some (.int .i64 a0_0) := (blk_cell BK261.out 0).trans rfl
    have hcz9_1 : w3.cell? ⟨gb261, 1, none⟩ = some (.slice A0_1 l0_1.length c0_1) := (blk_cell BK261.out 1).trans rfl
    have hfz9_0 := blk_frozen BK261.out 0
    have hfz9_1 := blk_frozen BK261.out 1
    go_wp2
    go_meet
    case rel => exact ⟨_, (decide ((l0_1.length : Int) > 6000)), zT, H', ⟨by first | omega | exact Nat.le_refl _⟩, ⟨by (with_reducible repeat (first | refine blk_drewN ?_ _ | refine blk_drew ?_ | refine blk_alloc ?_ _)); exact BK261.out⟩, ⟨by repeat (first | (with_reducible first | exact HB.out | apply below_alloc | apply pw_below_drewN | apply below_drew1 | refine below_set ?_ GE261.out) | exact HB.out)⟩⟩
  case rest =>
   clear HC6
   try clear c2
   try clear p2
   try clear c5
   try clear c5b0
   try clear c7
   try clear c7b0
   try clear hcz4_0
   try clear hcz4_1
   try clear hcz8_0
   try clear hcz8_1
   try clear hcz9_0
   try clear hcz9_1
   try clear hfz4_0
   try clear hfz4_1
   try clear hfz8_0
   try clear hfz8_1
   try clear hfz9_0
   try clear hfz9_1
   obtain ⟨kq, x16_5, rfl, HA, HJ5, BK261, HB⟩ := hcut
   cases kq with
   | zero => exact absurd HA.out (by simp [ancepsref09_Valid.j0])
   | succ kj5 =>
    have H := HA.out
    clear HA
    simp only [ancepsref09_Valid.j0] at H
    by_cases c10 : x16_5 = true
    ·subst c10
     have H1 : (some 3) = some r := by rw [if_pos rfl] at H; exact H
     clear H
     have H := H1
     clear H1
     obtain rfl := Option.some.inj H
     go_wp2
     go_ret
     exact ⟨by first | rfl | (simp [errW_none, errW_some] <;> rfl) | (simp [*, errW_none, errW_some] <;> rfl), by repeat (first | (with_reducible first | exact HB.out | apply below_alloc | apply pw_below_drewN | apply below_drew1 | refine below_set ?_ GE261.out) | exact HB.out)⟩
    ·replace c10 := Bool.eq_false_iff.mpr c10
     subst c10
     have H1 : (ancepsref09_Valid.l0 kj5 0 a0_0 l0_1) = some r := by rw [if_neg (show ¬ (false = true) by decide)] at H; exact H
     clear H
     have H := H1
     clear H1
     have H' := Aside0.mk H
     clear H
     go_wp2
     go_loopg [3] kj5 (fun kq v3 w' => ∃ (x3_2 : Int), v3 = .int .i64 x3_2 ∧ Aside0 (ancepsref09_Valid.l0 kq x3_2 a0_0 l0_1 = some r) ∧ Aside0 (kq ≤ kj5) ∧ Aside0 (w'.heap[gb261]? = some (.cells #[.int .i64 a0_0, (.slice A0_1 l0_1.length c0_1)] 24 (0, 0))) ∧ Aside0 (Below w.heap.size w w'))
     case atStart => exact ⟨(0), zT, H', ⟨Nat.le_refl _⟩, ⟨by (with_reducible repeat (first | refine blk_drewN ?_ _ | refine blk_drew ?_ | refine blk_alloc ?_ _)); exact BK261.out⟩, ⟨by repeat (first | (with_reducible first | exact HB.out | apply below_alloc | apply pw_below_drewN | apply below_drew1 | refine below_set ?_ GE261.out) | exact HB.out)⟩⟩
     case round =>
      clear H'
      try clear c1
      try clear c2
      try clear p2
      try clear c5
      try clear c5b0
      try clear c7
      try clear c7b0
      try clear c10
      try clear hcz4_0
      try clear hcz4_1
      try clear hcz8_0
      try clear hcz8_1
      try clear hcz9_0
      try clear hcz9_1
      try clear hfz4_0
      try clear hfz4_1
      try clear hfz8_0
      try clear hfz8_1
      try clear hfz9_0
      try clear hfz9_1
      try clear p2
      obtain ⟨x3_2, rfl, HA, HK2, BK261, HB⟩ := hrel
      cases gk with
      | zero => exact absurd HA.out (by simp [ancepsref09_Valid.l0])
      | succ k2 =>
       have H := HA.out
       clear HA
       simp only [ancepsref09_Valid.l0] at H
       by_cases c11 : x3_2 < (l0_1.length : Int)
       ·rw [if_pos c11] at H
        have c11b0 : decide (x3_2 < (l0_1.length : Int)) = true := decide_eq_true c11
        clear c11
        by_cases c12 : 0 ≤ x3_2
        ·rw [if_pos c12] at H
         have c12b0 : decide (0 ≤ x3_2) = true := decide_eq_true c12
         clear c12
         have HC13 := Aside0.mk H
         clear H
         have hcz14_0 : wr.cell? ⟨gb261, 0, none⟩ = some (.int .i64 a0_0) := (blk_cell BK261.out 0).trans rfl
         have hcz14_1 : wr.cell? ⟨gb261, 1, none⟩ = some (.slice A0_1 l0_1.length c0_1) := (blk_cell BK261.out 1).trans rfl
         have hfz14_0 := blk_frozen BK261.out 0
         have hfz14_1 := blk_frozen BK261.out 1
         have p262 : 0 ≤ (x3_2 : Int) := of_decide_eq_true zh
         have q262 : x3_2 < (l0_1.length : Int) := of_decide_eq_true zh
         obtain ⟨ad262, e262, hx262_0, hx262_1, hx262_2⟩ := at_T69 HR0_1.out x3_2 p262 q262
         cases e262
         replace hx262_0 := (HB.out.cell (World.block_lt_of_cell? w _ hx262_0)).trans hx262_0
         replace hx262_1 := (HB.out.cell (World.block_lt_of_cell? w _ hx262_1)).trans hx262_1
         replace hx262_2 := (HB.out.cell (World.block_lt_of_cell? w _ hx262_2)).trans hx262_2
         replace p262 := eq_true p262
         replace q262 := eq_true q262
         go_upto_region 9 with (first | ((with_reducible refine gate_dst (N := 4) rfl ?_); (try (refine gate_guard (by rfl) ?_; dsimp only)); refine box_event ?hg (N := 4) ?hd (cs := #[.int .i64 0, .int .i64 0, .int .i64 0]) (t := 69) ?hr ?_; (case hd => rfl); (case hg => rfl); (case hr => first | (go_simp; done) | (go_simp; rfl)); intro gb263 hg w15 hbox hb; have n0_ := Aside0.mk (blk_below (g := gb261) (o := .cells #[.int .i64 a0_0, .slice (some ad262) l0_1.length c0_1] 24 (0, 0)) (zk BK261) hb); have n1_ := Aside0.mk (below_step zB hb); have n2_ := Aside0.mk (hbox); have n3_ := Aside0.mk ((by rw [hg]; exact (below_size zB) : w.heap.size ≤ gb263)); have n4_ := Aside0.mk ((by rw [hg]; exact (below_size zB) : w.heap.size ≤ gb263)); have n5_ := Aside0.mk ((by rw [hg]; exact Nat.ne_of_lt (blk_lt (g := gb261) (o := .cells #[.int .i64 a0_0, .slice (some ad262) l0_1.length c0_1] 24 (0, 0)) (zk BK261)) : gb261 ≠ gb263)); have n6_ := Aside0.mk ((by rw [hg]; exact Nat.ne_of_gt (blk_lt (g := gb261) (o := .cells #[.int .i64 a0_0, .slice (some ad262) l0_1.length c0_1] 24 (0, 0)) (zk BK261)) : gb263 ≠ gb261)); clear BK261; clear HB; have BK261 := n0_; have HB := n1_; have BK263 := n2_; have GW263 := n3_; have GE263 := n4_; have NB261_263 := n5_; have NB263_261 := n6_; clear n0_ n1_ n2_ n3_ n4_ n5_ n6_; clear hb hbox hg; have hnb16 := NB263_261.out; have hnc16 := NB261_263.out; have hcz17_0 : w15.cell? ⟨gb263, 0, none⟩ = some (.int .i64 0) := (blk_cell BK263.out 0).trans rfl; have hcz17_1 : w15.cell? ⟨gb263, 1, none⟩ = some (.int .i64 0) := (blk_cell BK263.out 1).trans rfl; have hcz17_2 : w15.cell? ⟨gb263, 2, none⟩ = some (.int .i64 0) := (blk_cell BK263.out 2).trans rfl; have hfz17_0 := blk_frozen BK263.out 0; have hfz17_1 := blk_frozen BK263.out 1; have hfz17_2 := blk_frozen BK263.out 2))
         (try simp only [Act.put, List.setIfInBounds_toArray, List.set_cons_zero, List.set_cons_succ])
         go_cut [60] (fun v60 wc => ∃ (kq : Nat) (x60_12 : Bool), v60 = .bool x60_12 ∧ Aside0 (ancepsref09_Valid.j2 kq x3_2 x60_12 a0_0 l0_1 ((rd_T69 l0_1 x3_2).f0) ((rd_T69 l0_1 x3_2).f1) ((rd_T69 l0_1 x3_2).f2) = some r) ∧ Aside0 (kq ≤ k2) ∧ Aside0 (wc.heap[gb261]? = some (.cells #[.int .i64 a0_0, (.slice (some ad262) l0_1.length c0_1)] 24 (0, 0))) ∧ Aside0 (wc.heap[gb263]? = some (.cells #[.int .i64 ((rd_T69 l0_1 x3_2).f0), .int .i64 ((rd_T69 l0_1 x3_2).f1), .int .i64 ((rd_T69 l0_1 x3_2).f2)] 69 (0, 0))) ∧ Aside0 (Below w.heap.size w wc))
         case first =>
          have H := HC13.out
          clear HC13
          by_cases c18 : ((rd_T69 l0_1 x3_2).f0) < 0
          ·rw [if_pos c18] at H
           have c18b0 : decide (((rd_T69 l0_1 x3_2).f0) < 0) = true := decide_eq_true c18
           clear c18
           (first | rw [c18b0] | (simp only [i64_w, i32_w]; rw [c18b0]) | skip)
           have H' := Aside0.mk H
           clear H
           have hnb19 := NB263_261.out
           have hnc19 := NB261_263.out
           have hcz20_0 : w15.cell? ⟨gb263, 0, none⟩ = some (.int .i64 0) := (blk_cell BK263.out 0).trans rfl
           have hcz20_1 : w15.cell? ⟨gb263, 1, none⟩ = some (.int .i64 0) := (blk_cell BK263.out 1).trans rfl
           have hcz20_2 : w15.cell? ⟨gb263, 2, none⟩ = some (.int .i64 0) := (blk_cell BK263.out 2).trans rfl
           have hfz20_0 := blk_frozen BK263.out 0
           have hfz20_1 := blk_frozen BK263.out 1
           have hfz20_2 := blk_frozen BK263.out 2
           go_wp2
           go_meet
           case rel => exact ⟨_, (true), zT, H', ⟨by have := HJ5.out; have := HK2.out; first | omega | exact Nat.le_refl _⟩, ⟨by (with_reducible repeat (first | refine blk_drewN ?_ _ | refine blk_drew ?_ | refine blk_alloc ?_ _)); refine blk_far ?_ NB261_263.out _; (with_reducible repeat (first | refine blk_drewN ?_ _ | refine blk_drew ?_ | refine blk_alloc ?_ _)); refine blk_far ?_ NB261_263.out _; (with_reducible repeat (first | refine blk_drewN ?_ _ | refine blk_drew ?_ | refine blk_alloc ?_ _)); refine blk_far ?_ NB261_263.out _; (with_reducible repeat (first | refine blk_drewN ?_ _ | refine blk_drew ?_ | refine blk_alloc ?_ _)); exact BK261.out⟩, ⟨by (with_reducible repeat (first | refine blk_drewN ?_ _ | refine blk_drew ?_ | refine blk_alloc ?_ _)); refine blk_put (cs := #[.int .i64 ((rd_T69 l0_1 x3_2).f0), .int .i64 ((rd_T69 l0_1 x3_2).f1), .int .i64 0]) ?_ 2 _ rfl; (with_reducible repeat (first | refine blk_drewN ?_ _ | refine blk_drew ?_ | refine blk_alloc ?_ _)); refine blk_put (cs := #[.int .i64 ((rd_T69 l0_1 x3_2).f0), .int .i64 0, .int .i64 0]) ?_ 1 _ rfl; (with_reducible repeat (first | refine blk_drewN ?_ _ | refine blk_drew ?_ | refine blk_alloc ?_ _)); refine blk_put (cs := #[.int .i64 0, .int .i64 0, .int .i64 0]) ?_ 0 _ rfl; (with_reducible repeat (first | refine blk_drewN ?_ _ | refine blk_drew ?_ | refine blk_alloc ?_ _)); exact BK263.out⟩, ⟨by repeat (first | (with_reducible first | exact HB.out | apply below_alloc | apply pw_below_drewN | apply below_drew1 | refine below_set ?_ GE261.out | refine below_set ?_ GE263.out) | exact HB.out)⟩⟩
          ·rw [if_neg c18] at H
           have c18b0 : decide (((rd_T69 l0_1 x3_2).f0) < 0) = false := decide_eq_false c18
           clear c18
           (first | rw [c18b0] | (simp only [i64_w, i32_w]; rw [c18b0]) | skip)
           by_cases c21 : ((rd_T69 l0_1 x3_2).f0) ≥ a0_0
           ·rw [if_pos c21] at H
            have c21b0 : decide (a0_0 ≤ ((rd_T69 l0_1 x3_2).f0)) = true := decide_eq_true c21
            clear c21
            have H' := Aside0.mk H
            clear H
            have hnb22 := NB263_261.out
            have hnc22 := NB261_263.out
            have hcz23_0 : w15.cell? ⟨gb263, 0, none⟩ = some (.int .i64 0) := (blk_cell BK263.out 0).trans rfl
            have hcz23_1 : w15.cell? ⟨gb263, 1, none⟩ = some (.int .i64 0) := (blk_cell BK263.out 1).trans rfl
            have hcz23_2 : w15.cell? ⟨gb263, 2, none⟩ = some (.int .i64 0) := (blk_cell BK263.out 2).trans rfl
            have hfz23_0 := blk_frozen BK263.out 0
            have hfz23_1 := blk_frozen BK263.out 1
            have hfz23_2 := blk_frozen BK263.out 2
            have hcz24_0 : w15.cell? ⟨gb261, 0, none⟩ = some (.int .i64 a0_0) := (blk_cell BK261.out 0).trans rfl
            have hcz24_1 : w15.cell? ⟨gb261, 1, none⟩ = some (.slice (some ad262) l0_1.length c0_1) := (blk_cell BK261.out 1).trans rfl
            have hfz24_0 := blk_frozen BK261.out 0
            have hfz24_1 := blk_frozen BK261.out 1
            go_wp2
            go_meet
            case rel => exact ⟨_, (true), zT, H', ⟨by have := HJ5.out; have := HK2.out; first | omega | exact Nat.le_refl _⟩, ⟨by (with_reducible repeat (first | refine blk_drewN ?_ _ | refine blk_drew ?_ | refine blk_alloc ?_ _)); refine blk_far ?_ NB261_263.out _; (with_reducible repeat (first | refine blk_drewN ?_ _ | refine blk_drew ?_ | refine blk_alloc ?_ _)); refine blk_far ?_ NB261_263.out _; (with_reducible repeat (first | refine blk_drewN ?_ _ | refine blk_drew ?_ | refine blk_alloc ?_ _)); refine blk_far ?_ NB261_263.out _; (with_reducible repeat (first | refine blk_drewN ?_ _ | refine blk_drew ?_ | refine blk_alloc ?_ _)); exact BK261.out⟩, ⟨by (with_reducible repeat (first | refine blk_drewN ?_ _ | refine blk_drew ?_ | refine blk_alloc ?_ _)); refine blk_put (cs := #[.int .i64 ((rd_T69 l0_1 x3_2).f0), .int .i64 ((rd_T69 l0_1 x3_2).f1), .int .i64 0]) ?_ 2 _ rfl; (with_reducible repeat (first | refine blk_drewN ?_ _ | refine blk_drew ?_ | refine blk_alloc ?_ _)); refine blk_put (cs := #[.int .i64 ((rd_T69 l0_1 x3_2).f0), .int .i64 0, .int .i64 0]) ?_ 1 _ rfl; (with_reducible repeat (first | refine blk_drewN ?_ _ | refine blk_drew ?_ | refine blk_alloc ?_ _)); refine blk_put (cs := #[.int .i64 0, .int .i64 0, .int .i64 0]) ?_ 0 _ rfl; (with_reducible repeat (first | refine blk_drewN ?_ _ | refine blk_drew ?_ | refine blk_alloc ?_ _)); exact BK263.out⟩, ⟨by repeat (first | (with_reducible first | exact HB.out | apply below_alloc | apply pw_below_drewN | apply below_drew1 | refine below_set ?_ GE261.out | refine below_set ?_ GE263.out) | exact HB.out)⟩⟩
           ·rw [if_neg c21] at H
            have c21b0 : decide (a0_0 ≤ ((rd_T69 l0_1 x3_2).f0)) = false := decide_eq_false c21
            clear c21
            by_cases c25 : ((rd_T69 l0_1 x3_2).f1) < 0
            ·rw [if_pos c25] at H
             have c25b0 : decide (((rd_T69 l0_1 x3_2).f1) < 0) = true := decide_eq_true c25
             clear c25
             have H' := Aside0.mk H
             clear H
             have hnb26 := NB263_261.out
             have hnc26 := NB261_263.out
             have hcz27_0 : w15.cell? ⟨gb263, 0, none⟩ = some (.int .i64 0) := (blk_cell BK263.out 0).trans rfl
             have hcz27_1 : w15.cell? ⟨gb263, 1, none⟩ = some (.int .i64 0) := (blk_cell BK263.out 1).trans rfl
             have hcz27_2 : w15.cell? ⟨gb263, 2, none⟩ = some (.int .i64 0) := (blk_cell BK263.out 2).trans rfl
             have hfz27_0 := blk_frozen BK263.out 0
             have hfz27_1 := blk_frozen BK263.out 1
             have hfz27_2 := blk_frozen BK263.out 2
             have hcz28_0 : w15.cell? ⟨gb261, 0, none⟩ = some (.int .i64 a0_0) := (blk_cell BK261.out 0).trans rfl
             have hcz28_1 : w15.cell? ⟨gb261, 1, none⟩ = some (.slice (some ad262) l0_1.length c0_1) := (blk_cell BK261.out 1).trans rfl
             have hfz28_0 := blk_frozen BK261.out 0
             have hfz28_1 := blk_frozen BK261.out 1
             go_wp2
             go_meet
             case rel => exact ⟨_, (true), zT, H', ⟨by have := HJ5.out; have := HK2.out; first | omega | exact Nat.le_refl _⟩, ⟨by (with_reducible repeat (first | refine blk_drewN ?_ _ | refine blk_drew ?_ | refine blk_alloc ?_ _)); refine blk_far ?_ NB261_263.out _; (with_reducible repeat (first | refine blk_drewN ?_ _ | refine blk_drew ?_ | refine blk_alloc ?_ _)); refine blk_far ?_ NB261_263.out _; (with_reducible repeat (first | refine blk_drewN ?_ _ | refine blk_drew ?_ | refine blk_alloc ?_ _)); refine blk_far ?_ NB261_263.out _; (with_reducible repeat (first | refine blk_drewN ?_ _ | refine blk_drew ?_ | refine blk_alloc ?_ _)); exact BK261.out⟩, ⟨by (with_reducible repeat (first | refine blk_drewN ?_ _ | refine blk_drew ?_ | refine blk_alloc ?_ _)); refine blk_put (cs := #[.int .i64 ((rd_T69 l0_1 x3_2).f0), .int .i64 ((rd_T69 l0_1 x3_2).f1), .int .i64 0]) ?_ 2 _ rfl; (with_reducible repeat (first | refine blk_drewN ?_ _ | refine blk_drew ?_ | refine blk_alloc ?_ _)); refine blk_put (cs := #[.int .i64 ((rd_T69 l0_1 x3_2).f0), .int .i64 0, .int .i64 0]) ?_ 1 _ rfl; (with_reducible repeat (first | refine blk_drewN ?_ _ | refine blk_drew ?_ | refine blk_alloc ?_ _)); refine blk_put (cs := #[.int .i64 0, .int .i64 0, .int .i64 0]) ?_ 0 _ rfl; (with_reducible repeat (first | refine blk_drewN ?_ _ | refine blk_drew ?_ | refine blk_alloc ?_ _)); exact BK263.out⟩, ⟨by repeat (first | (with_reducible first | exact HB.out | apply below_alloc | apply pw_below_drewN | apply below_drew1 | refine below_set ?_ GE261.out | refine below_set ?_ GE263.out) | exact HB.out)⟩⟩
            ·rw [if_neg c25] at H
             have c25b0 : decide (((rd_T69 l0_1 x3_2).f1) < 0) = false := decide_eq_false c25
             clear c25
             by_cases c29 : ((rd_T69 l0_1 x3_2).f1) ≥ a0_0
             ·rw [if_pos c29] at H
              have c29b0 : decide (a0_0 ≤ ((rd_T69 l0_1 x3_2).f1)) = true := decide_eq_true c29
              clear c29
              have H' := Aside0.mk H
              clear H
              have hnb30 := NB263_261.out
              have hnc30 := NB261_263.out
              have hcz31_0 : w15.cell? ⟨gb263, 0, none⟩ = some (.int .i64 0) := (blk_cell BK263.out 0).trans rfl
              have hcz31_1 : w15.cell? ⟨gb263, 1, none⟩ = some (.int .i64 0) := (blk_cell BK263.out 1).trans rfl
              have hcz31_2 : w15.cell? ⟨gb263, 2, none⟩ = some (.int .i64 0) := (blk_cell BK263.out 2).trans rfl
              have hfz31_0 := blk_frozen BK263.out 0
              have hfz31_1 := blk_frozen BK263.out 1
              have hfz31_2 := blk_frozen BK263.out 2
              have hcz32_0 : w15.cell? ⟨gb261, 0, none⟩ = some (.int .i64 a0_0) := (blk_cell BK261.out 0).trans rfl
              have hcz32_1 : w15.cell? ⟨gb261, 1, none⟩ = some (.slice (some ad262) l0_1.length c0_1) := (blk_cell BK261.out 1).trans rfl
              have hfz32_0 := blk_frozen BK261.out 0
              have hfz32_1 := blk_frozen BK261.out 1
              go_wp2
              go_meet
              case rel => exact ⟨_, (true), zT, H', ⟨by have := HJ5.out; have := HK2.out; first | omega | exact Nat.le_refl _⟩, ⟨by (with_reducible repeat (first | refine blk_drewN ?_ _ | refine blk_drew ?_ | refine blk_alloc ?_ _)); refine blk_far ?_ NB261_263.out _; (with_reducible repeat (first | refine blk_drewN ?_ _ | refine blk_drew ?_ | refine blk_alloc ?_ _)); refine blk_far ?_ NB261_263.out _; (with_reducible repeat (first | refine blk_drewN ?_ _ | refine blk_drew ?_ | refine blk_alloc ?_ _)); refine blk_far ?_ NB261_263.out _; (with_reducible repeat (first | refine blk_drewN ?_ _ | refine blk_drew ?_ | refine blk_alloc ?_ _)); exact BK261.out⟩, ⟨by (with_reducible repeat (first | refine blk_drewN ?_ _ | refine blk_drew ?_ | refine blk_alloc ?_ _)); refine blk_put (cs := #[.int .i64 ((rd_T69 l0_1 x3_2).f0), .int .i64 ((rd_T69 l0_1 x3_2).f1), .int .i64 0]) ?_ 2 _ rfl; (with_reducible repeat (first | refine blk_drewN ?_ _ | refine blk_drew ?_ | refine blk_alloc ?_ _)); refine blk_put (cs := #[.int .i64 ((rd_T69 l0_1 x3_2).f0), .int .i64 0, .int .i64 0]) ?_ 1 _ rfl; (with_reducible repeat (first | refine blk_drewN ?_ _ | refine blk_drew ?_ | refine blk_alloc ?_ _)); refine blk_put (cs := #[.int .i64 0, .int .i64 0, .int .i64 0]) ?_ 0 _ rfl; (with_reducible repeat (first | refine blk_drewN ?_ _ | refine blk_drew ?_ | refine blk_alloc ?_ _)); exact BK263.out⟩, ⟨by repeat (first | (with_reducible first | exact HB.out | apply below_alloc | apply pw_below_drewN | apply below_drew1 | refine below_set ?_ GE261.out | refine below_set ?_ GE263.out) | exact HB.out)⟩⟩
             ·rw [if_neg c29] at H
              have c29b0 : decide (a0_0 ≤ ((rd_T69 l0_1 x3_2).f1)) = false := decide_eq_false c29
              clear c29
              by_cases c33 : ((rd_T69 l0_1 x3_2).f2) < 0
              ·rw [if_pos c33] at H
               have c33b0 : decide (((rd_T69 l0_1 x3_2).f2) < 0) = true := decide_eq_true c33
               clear c33
               have H' := Aside0.mk H
               clear H
               have hnb34 := NB263_261.out
               have hnc34 := NB261_263.out
               have hcz35_0 : w15.cell? ⟨gb263, 0, none⟩ = some (.int .i64 0) := (blk_cell BK263.out 0).trans rfl
               have hcz35_1 : w15.cell? ⟨gb263, 1, none⟩ = some (.int .i64 0) := (blk_cell BK263.out 1).trans rfl
               have hcz35_2 : w15.cell? ⟨gb263, 2, none⟩ = some (.int .i64 0) := (blk_cell BK263.out 2).trans rfl
               have hfz35_0 := blk_frozen BK263.out 0
               have hfz35_1 := blk_frozen BK263.out 1
               have hfz35_2 := blk_frozen BK263.out 2
               have hcz36_0 : w15.cell? ⟨gb261, 0, none⟩ = some (.int .i64 a0_0) := (blk_cell BK261.out 0).trans rfl
               have hcz36_1 : w15.cell? ⟨gb261, 1, none⟩ = some (.slice (some ad262) l0_1.length c0_1) := (blk_cell BK261.out 1).trans rfl
               have hfz36_0 := blk_frozen BK261.out 0
               have hfz36_1 := blk_frozen BK261.out 1
               go_wp2
               go_meet
               case rel => exact ⟨_, (true), zT, H', ⟨by have := HJ5.out; have := HK2.out; first | omega | exact Nat.le_refl _⟩, ⟨by (with_reducible repeat (first | refine blk_drewN ?_ _ | refine blk_drew ?_ | refine blk_alloc ?_ _)); refine blk_far ?_ NB261_263.out _; (with_reducible repeat (first | refine blk_drewN ?_ _ | refine blk_drew ?_ | refine blk_alloc ?_ _)); refine blk_far ?_ NB261_263.out _; (with_reducible repeat (first | refine blk_drewN ?_ _ | refine blk_drew ?_ | refine blk_alloc ?_ _)); refine blk_far ?_ NB261_263.out _; (with_reducible repeat (first | refine blk_drewN ?_ _ | refine blk_drew ?_ | refine blk_alloc ?_ _)); exact BK261.out⟩, ⟨by (with_reducible repeat (first | refine blk_drewN ?_ _ | refine blk_drew ?_ | refine blk_alloc ?_ _)); refine blk_put (cs := #[.int .i64 ((rd_T69 l0_1 x3_2).f0), .int .i64 ((rd_T69 l0_1 x3_2).f1), .int .i64 0]) ?_ 2 _ rfl; (with_reducible repeat (first | refine blk_drewN ?_ _ | refine blk_drew ?_ | refine blk_alloc ?_ _)); refine blk_put (cs := #[.int .i64 ((rd_T69 l0_1 x3_2).f0), .int .i64 0, .int .i64 0]) ?_ 1 _ rfl; (with_reducible repeat (first | refine blk_drewN ?_ _ | refine blk_drew ?_ | refine blk_alloc ?_ _)); refine blk_put (cs := #[.int .i64 0, .int .i64 0, .int .i64 0]) ?_ 0 _ rfl; (with_reducible repeat (first | refine blk_drewN ?_ _ | refine blk_drew ?_ | refine blk_alloc ?_ _)); exact BK263.out⟩, ⟨by repeat (first | (with_reducible first | exact HB.out | apply below_alloc | apply pw_below_drewN | apply below_drew1 | refine below_set ?_ GE261.out | refine below_set ?_ GE263.out) | exact HB.out)⟩⟩
              ·rw [if_neg c33] at H
               have c33b0 : decide (((rd_T69 l0_1 x3_2).f2) < 0) = false := decide_eq_false c33
               clear c33
               have H' := Aside0.mk H
               clear H
               have hnb37 := NB263_261.out
               have hnc37 := NB261_263.out
               have hcz38_0 : w15.cell? ⟨gb263, 0, none⟩ = some (.int .i64 0) := (blk_cell BK263.out 0).trans rfl
               have hcz38_1 : w15.cell? ⟨gb263, 1, none⟩ = some (.int .i64 0) := (blk_cell BK263.out 1).trans rfl
               have hcz38_2 : w15.cell? ⟨gb263, 2, none⟩ = some (.int .i64 0) := (blk_cell BK263.out 2).trans rfl
               have hfz38_0 := blk_frozen BK263.out 0
               have hfz38_1 := blk_frozen BK263.out 1
               have hfz38_2 := blk_frozen BK263.out 2
               have hcz39_0 : w15.cell? ⟨gb261, 0, none⟩ = some (.int .i64 a0_0) := (blk_cell BK261.out 0).trans rfl
               have hcz39_1 : w15.cell? ⟨gb261, 1, none⟩ = some (.slice (some ad262) l0_1.length c0_1) := (blk_cell BK261.out 1).trans rfl
               have hfz39_0 := blk_frozen BK261.out 0
               have hfz39_1 := blk_frozen BK261.out 1
               go_wp2
               go_meet
               case rel => exact ⟨_, (decide (((rd_T69 l0_1 x3_2).f2) > 1000000)), zT, H', ⟨by have := HJ5.out; have := HK2.out; first | omega | exact Nat.le_refl _⟩, ⟨by (with_reducible repeat (first | refine blk_drewN ?_ _ | refine blk_drew ?_ | refine blk_alloc ?_ _)); refine blk_far ?_ NB261_263.out _; (with_reducible repeat (first | refine blk_drewN ?_ _ | refine blk_drew ?_ | refine blk_alloc ?_ _)); refine blk_far ?_ NB261_263.out _; (with_reducible repeat (first | refine blk_drewN ?_ _ | refine blk_drew ?_ | refine blk_alloc ?_ _)); refine blk_far ?_ NB261_263.out _; (with_reducible repeat (first | refine blk_drewN ?_ _ | refine blk_drew ?_ | refine blk_alloc ?_ _)); exact BK261.out⟩, ⟨by (with_reducible repeat (first | refine blk_drewN ?_ _ | refine blk_drew ?_ | refine blk_alloc ?_ _)); refine blk_put (cs := #[.int .i64 ((rd_T69 l0_1 x3_2).f0), .int .i64 ((rd_T69 l0_1 x3_2).f1), .int .i64 0]) ?_ 2 _ rfl; (with_reducible repeat (first | refine blk_drewN ?_ _ | refine blk_drew ?_ | refine blk_alloc ?_ _)); refine blk_put (cs := #[.int .i64 ((rd_T69 l0_1 x3_2).f0), .int .i64 0, .int .i64 0]) ?_ 1 _ rfl; (with_reducible repeat (first | refine blk_drewN ?_ _ | refine blk_drew ?_ | refine blk_alloc ?_ _)); refine blk_put (cs := #[.int .i64 0, .int .i64 0, .int .i64 0]) ?_ 0 _ rfl; (with_reducible repeat (first | refine blk_drewN ?_ _ | refine blk_drew ?_ | refine blk_alloc ?_ _)); exact BK263.out⟩, ⟨by repeat (first | (with_reducible first | exact HB.out | apply below_alloc | apply pw_below_drewN | apply below_drew1 | refine below_set ?_ GE261.out | refine below_set ?_ GE263.out) | exact HB.out)⟩⟩
         case rest =>
          clear HC13
          try clear c1
          try clear c2
          try clear p2
          try clear q2
          try clear hx2
          try clear c3
          try clear c5
          try clear c5b0
          try clear c7
          try clear c7b0
          try clear c10
          try clear c11
          try clear c11b0
          try clear c12
          try clear c12b0
          try clear c16
          try clear c18
          try clear c18b0
          try clear c19
          try clear c21
          try clear c21b0
          try clear c22
          try clear c25
          try clear c25b0
          try clear c26
          try clear p26
          try clear q26
          try clear hx26
          try clear c28
          try clear c29
          try clear c29b0
          try clear c30
          try clear c33
          try clear c33b0
          try clear c34
          try clear c37
          try clear hcz14_0
          try clear hcz14_1
          try clear hcz17_0
          try clear hcz17_1
          try clear hcz17_2
          try clear hcz20_0
          try clear hcz20_1
          try clear hcz20_2
          try clear hcz23_0
          try clear hcz23_1
          try clear hcz23_2
          try clear hcz24_0
          try clear hcz24_1
          try clear hcz27_0
          try clear hcz27_1
          try clear hcz27_2
          try clear hcz28_0
          try clear hcz28_1
          try clear hcz31_0
          try clear hcz31_1
          try clear hcz31_2
          try clear hcz32_0
          try clear hcz32_1
          try clear hcz35_0
          try clear hcz35_1
          try clear hcz35_2
          try clear hcz36_0
          try clear hcz36_1
          try clear hcz38_0
          try clear hcz38_1
          try clear hcz38_2
          try clear hcz39_0
          try clear hcz39_1
          try clear hcz4_0
          try clear hcz4_1
          try clear hcz8_0
          try clear hcz8_1
          try clear hcz9_0
          try clear hcz9_1
          try clear hfz14_0
          try clear hfz14_1
          try clear hfz17_0
          try clear hfz17_1
          try clear hfz17_2
          try clear hfz20_0
          try clear hfz20_1
          try clear hfz20_2
          try clear hfz23_0
          try clear hfz23_1
          try clear hfz23_2
          try clear hfz24_0
          try clear hfz24_1
          try clear hfz27_0
          try clear hfz27_1
          try clear hfz27_2
          try clear hfz28_0
          try clear hfz28_1
          try clear hfz31_0
          try clear hfz31_1
          try clear hfz31_2
          try clear hfz32_0
          try clear hfz32_1
          try clear hfz35_0
          try clear hfz35_1
          try clear hfz35_2
          try clear hfz36_0
          try clear hfz36_1
          try clear hfz38_0
          try clear hfz38_1
          try clear hfz38_2
          try clear hfz39_0
          try clear hfz39_1
          try clear hfz4_0
          try clear hfz4_1
          try clear hfz8_0
          try clear hfz8_1
          try clear hfz9_0
          try clear hfz9_1
          try clear hx262_0
          try clear hx262_1
          try clear hx262_2
          try clear p2
          try clear p262
          try clear q262
          obtain ⟨kq, x60_12, rfl, HA, HJ12, BK261, BK263, HB⟩ := hcut
          cases kq with
          | zero => exact absurd HA.out (by simp [ancepsref09_Valid.j2])
          | succ kj12 =>
           have H := HA.out
           clear HA
           simp only [ancepsref09_Valid.j2] at H
           by_cases c40 : x60_12 = true
           ·subst c40
            have H1 : (some 6) = some r := by rw [if_pos rfl] at H; exact H
            clear H
            have H := H1
            clear H1
            obtain rfl := Option.some.inj H
            go_wp2
            go_ret
            exact ⟨by first | rfl | (simp [errW_none, errW_some] <;> rfl) | (simp [*, errW_none, errW_some] <;> rfl), by repeat (first | (with_reducible first | exact HB.out | apply below_alloc | apply pw_below_drewN | apply below_drew1 | refine below_set ?_ GE261.out | refine below_set ?_ GE263.out) | exact HB.out)⟩
           ·replace c40 := Bool.eq_false_iff.mpr c40
            subst c40
            have H1 : (if ((rd_T69 l0_1 x3_2).f1) ≤ ((rd_T69 l0_1 x3_2).f0) then (some 18) else (ancepsref09_Valid.l0 kj12 (wrap64 (x3_2 + 1)) a0_0 l0_1)) = some r := by rw [if_neg (show ¬ (false = true) by decide)] at H; exact H
            clear H
            have H := H1
            clear H1
            by_cases c41 : ((rd_T69 l0_1 x3_2).f1) ≤ ((rd_T69 l0_1 x3_2).f0)
            ·rw [if_pos c41] at H
             have c41b0 : decide (((rd_T69 l0_1 x3_2).f1) ≤ ((rd_T69 l0_1 x3_2).f0)) = true := decide_eq_true c41
             clear c41
             obtain rfl := Option.some.inj H
             have hnb42 := NB263_261.out
             have hnc42 := NB261_263.out
             have hcz43_0 : wc.cell? ⟨gb263, 0, none⟩ = some (.int .i64 ((rd_T69 l0_1 x3_2).f0)) := (blk_cell BK263.out 0).trans rfl
             have hcz43_1 : wc.cell? ⟨gb263, 1, none⟩ = some (.int .i64 ((rd_T69 l0_1 x3_2).f1)) := (blk_cell BK263.out 1).trans rfl
             have hcz43_2 : wc.cell? ⟨gb263, 2, none⟩ = some (.int .i64 ((rd_T69 l0_1 x3_2).f2)) := (blk_cell BK263.out 2).trans rfl
             have hfz43_0 := blk_frozen BK263.out 0
             have hfz43_1 := blk_frozen BK263.out 1
             have hfz43_2 := blk_frozen BK263.out 2
             go_wp2
             go_ret
             exact ⟨by first | rfl | (simp [errW_none, errW_some] <;> rfl) | (simp [*, errW_none, errW_some] <;> rfl), by repeat (first | (with_reducible first | exact HB.out | apply below_alloc | apply pw_below_drewN | apply below_drew1 | refine below_set ?_ GE261.out | refine below_set ?_ GE263.out) | exact HB.out)⟩
            ·rw [if_neg c41] at H
             have c41b0 : decide (((rd_T69 l0_1 x3_2).f1) ≤ ((rd_T69 l0_1 x3_2).f0)) = false := decide_eq_false c41
             clear c41
             have H' := Aside0.mk H
             clear H
             have hnb44 := NB263_261.out
             have hnc44 := NB261_263.out
             have hcz45_0 : wc.cell? ⟨gb263, 0, none⟩ = some (.int .i64 ((rd_T69 l0_1 x3_2).f0)) := (blk_cell BK263.out 0).trans rfl
             have hcz45_1 : wc.cell? ⟨gb263, 1, none⟩ = some (.int .i64 ((rd_T69 l0_1 x3_2).f1)) := (blk_cell BK263.out 1).trans rfl
             have hcz45_2 : wc.cell? ⟨gb263, 2, none⟩ = some (.int .i64 ((rd_T69 l0_1 x3_2).f2)) := (blk_cell BK263.out 2).trans rfl
             have hfz45_0 := blk_frozen BK263.out 0
             have hfz45_1 := blk_frozen BK263.out 1
             have hfz45_2 := blk_frozen BK263.out 2
             go_wp2
             go_roundg kj12
             case measure => have := HJ5.out; have := HK2.out; have := HJ12.out; omega
             case rel => exact ⟨(wrap64 (x3_2 + 1)), zT, H', ⟨by have := HJ5.out; have := HK2.out; have := HJ12.out; omega⟩, ⟨by (with_reducible repeat (first | refine blk_drewN ?_ _ | refine blk_drew ?_ | refine blk_alloc ?_ _)); exact BK261.out⟩, ⟨by repeat (first | (with_reducible first | exact HB.out | apply below_alloc | apply pw_below_drewN | apply below_drew1 | refine below_set ?_ GE261.out | refine below_set ?_ GE263.out) | exact HB.out)⟩⟩
        ·rw [if_neg c12] at H
         exact absurd H (by simp)
       ·rw [if_neg c11] at H
        have c11b0 : decide (x3_2 < (l0_1.length : Int)) = false := decide_eq_false c11
        clear c11
        obtain rfl := Option.some.inj H
        have hcz46_0 : wr.cell? ⟨gb261, 0, none⟩ = some (.int .i64 a0_0) := (blk_cell BK261.out 0).trans rfl
        have hcz46_1 : wr.cell? ⟨gb261, 1, none⟩ = some (.slice A0_1 l0_1.length c0_1) := (blk_cell BK261.out 1).trans rfl
        have hfz46_0 := blk_frozen BK261.out 0
        have hfz46_1 := blk_frozen BK261.out 1
        go_wp2
        go_ret
        exact ⟨by first | rfl | (simp [errW_none, errW_some] <;> rfl) | (simp [*, errW_none, errW_some] <;> rfl), by repeat (first | (with_reducible first | exact HB.out | apply below_alloc | apply pw_below_drewN | apply below_drew1 | refine below_set ?_ GE261.out) | exact HB.out)⟩
end Go.Proofs.Ytanbffoilianhaa.E
