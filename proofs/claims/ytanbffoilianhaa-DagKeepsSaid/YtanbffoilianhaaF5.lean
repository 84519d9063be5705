-- Written by wip/tools/myprint.py, a program of this session's.
import Derived.Test.YtanbffoilianhaaF0
namespace Go.Proofs.Ytanbffoilianhaa.F
open Go.RowKit Go.Proofs.YtanbffoilianhaaW.PrintWords Go.Proofs.YtanbffoilianhaaW.PrintLast Go.Proofs.YtanbffoilianhaaW.PrintMore
attribute [local go_sem] max2_int min2_int max_two min_two max_three min_three max_four min_four   -- for this text's walks alone
set_option linter.unusedVariables false
set_option linter.unusedSimpArgs false
/-! ### ancepsref09_Valid: function 28 -/
mutual
def ancepsref09_Valid.j0 : Nat → Bool → Int → List (S69) → Option (Int)
 | 0, _, _, _ => none
 | k + 1, x16, x261000, x261001 => if x16 = true then (some 3) else (ancepsref09_Valid.l0 k 0 x261000 x261001)
def ancepsref09_Valid.l0 : Nat → Int → Int → List (S69) → Option (Int)
 | 0, _, _, _ => none
 | k + 1, x3, x261000, x261001 => if x3 < (x261001.length : Int) then (if 0 ≤ x3 then (if ((rd_T69 x261001 x3).f0) < 0 then (ancepsref09_Valid.j2 k x3 true x261000 x261001 ((rd_T69 x261001 x3).f0) ((rd_T69 x261001 x3).f1) ((rd_T69 x261001 x3).f2)) else (if ((rd_T69 x261001 x3).f0) ≥ x261000 then (ancepsref09_Valid.j2 k x3 true x261000 x261001 ((rd_T69 x261001 x3).f0) ((rd_T69 x261001 x3).f1) ((rd_T69 x261001 x3).f2)) else (if ((rd_T69 x261001 x3).f1) < 0 then (ancepsref09_Valid.j2 k x3 true x261000 x261001 ((rd_T69 x261001 x3).f0) ((rd_T69 x261001 x3).f1) ((rd_T69 x261001 x3).f2)) else (if ((rd_T69 x261001 x3).f1) ≥ x261000 then (ancepsref09_Valid.j2 k x3 true x261000 x261001 ((rd_T69 x261001 x3).f0) ((rd_T69 x261001 x3).f1) ((rd_T69 x261001 x3).f2)) else (if ((rd_T69 x261001 x3).f2) < 0 then (ancepsref09_Valid.j2 k x3 true x261000 x261001 ((rd_T69 x261001 x3).f0) ((rd_T69 x261001 x3).f1) ((rd_T69 x261001 x3).f2)) else (ancepsref09_Valid.j2 k x3 (decide (((rd_T69 x261001 x3).f2) > 1000000)) x261000 x261001 ((rd_T69 x261001 x3).f0) ((rd_T69 x261001 x3).f1) ((rd_T69 x261001 x3).f2))))))) else (none)) else (some 0)
def ancepsref09_Valid.j2 : Nat → Int → Bool → Int → List (S69) → Int → Int → Int → Option (Int)
 | 0, _, _, _, _, _, _, _ => none
 | k + 1, x3, x60, x261000, x261001, x263000, x263001, x263002 => if x60 = true then (some 6) else (if x263001 ≤ x263000 then (some 18) else (ancepsref09_Valid.l0 k (wrap64 (x3 + 1)) x261000 x261001))
end
def ancepsref09_Valid.f (k : Nat) (a0_0 : Int) (l0_1 : List (S69)) : Option (Int) := if a0_0 < 1 then (some 7) else (if a0_0 > 2000 then (ancepsref09_Valid.j0 k true a0_0 l0_1) else (ancepsref09_Valid.j0 k (decide ((l0_1.length : Int) > 6000)) a0_0 l0_1))
theorem ancepsref09_Valid.mono_l : ∀ k, (∀ y0 y1 y2, LeO (ancepsref09_Valid.j0 k y0 y1 y2) (ancepsref09_Valid.j0 (k + 1) y0 y1 y2)) ∧ (∀ y0 y1 y2, LeO (ancepsref09_Valid.l0 k y0 y1 y2) (ancepsref09_Valid.l0 (k + 1) y0 y1 y2)) ∧ (∀ y0 y1 y2 y3 y4 y5 y6, LeO (ancepsref09_Valid.j2 k y0 y1 y2 y3 y4 y5 y6) (ancepsref09_Valid.j2 (k + 1) y0 y1 y2 y3 y4 y5 y6))
 | 0 => ⟨fun _ _ _ r h => by simp [ancepsref09_Valid.j0] at h, fun _ _ _ r h => by simp [ancepsref09_Valid.l0] at h, fun _ _ _ _ _ _ _ r h => by simp [ancepsref09_Valid.j2] at h⟩
 | k + 1 => by
  obtain ⟨ih0, ih1, ih2⟩ := ancepsref09_Valid.mono_l k
  refine ⟨?_, ?_, ?_⟩
  ·intro y0 y1 y2
   unfold ancepsref09_Valid.j0
   repeat' first
   | (with_reducible exact ih0 _ _ _)
   | (with_reducible exact ih1 _ _ _)
   | (with_reducible exact ih2 _ _ _ _ _ _ _)
   | (with_reducible exact LeO.refl _)
   | (with_reducible exact LeO.none _)
   | (with_reducible refine LeO.ite ?_ ?_)
   | (with_reducible refine LeO.bind ?_ (fun _ => ?_))
   | exact ih0 _ _ _
   | exact ih1 _ _ _
   | exact ih2 _ _ _ _ _ _ _
   | exact LeO.none _
   | refine LeO.ite ?_ ?_
   | refine LeO.bind ?_ (fun _ => ?_)
  ·intro y0 y1 y2
   unfold ancepsref09_Valid.l0
   repeat' first
   | (with_reducible exact ih0 _ _ _)
   | (with_reducible exact ih1 _ _ _)
   | (with_reducible exact ih2 _ _ _ _ _ _ _)
   | (with_reducible exact LeO.refl _)
   | (with_reducible exact LeO.none _)
   | (with_reducible refine LeO.ite ?_ ?_)
   | (with_reducible refine LeO.bind ?_ (fun _ => ?_))
   | exact ih0 _ _ _
   | exact ih1 _ _ _
   | exact ih2 _ _ _ _ _ _ _
   | exact LeO.none _
   | refine LeO.ite ?_ ?_
   | refine LeO.bind ?_ (fun _ => ?_)
  ·intro y0 y1 y2 y3 y4 y5 y6
   unfold ancepsref09_Valid.j2
   repeat' first
   | (with_reducible exact ih0 _ _ _)
   | (with_reducible exact ih1 _ _ _)
   | (with_reducible exact ih2 _ _ _ _ _ _ _)
   | (with_reducible exact LeO.refl _)
   | (with_reducible exact LeO.none _)
   | (with_reducible refine LeO.ite ?_ ?_)
   | (with_reducible refine LeO.bind ?_ (fun _ => ?_))
   | exact ih0 _ _ _
   | exact ih1 _ _ _
   | exact ih2 _ _ _ _ _ _ _
   | exact LeO.none _
   | refine LeO.ite ?_ ?_
   | refine LeO.bind ?_ (fun _ => ?_)
theorem ancepsref09_Valid.mono : ∀ a0 a1 k, LeO (ancepsref09_Valid.f k a0 a1) (ancepsref09_Valid.f (k + 1) a0 a1) := by
 intro a0 a1 k
 obtain ⟨ih0, ih1, ih2⟩ := ancepsref09_Valid.mono_l k
 unfold ancepsref09_Valid.f
 repeat' first
   | (with_reducible exact ih0 _ _ _)
   | (with_reducible exact ih1 _ _ _)
   | (with_reducible exact ih2 _ _ _ _ _ _ _)
   | (with_reducible exact LeO.refl _)
   | (with_reducible exact LeO.none _)
   | (with_reducible refine LeO.ite ?_ ?_)
   | (with_reducible refine LeO.bind ?_ (fun _ => ?_))
   | exact ih0 _ _ _
   | exact ih1 _ _ _
   | exact ih2 _ _ _ _ _ _ _
   | exact LeO.none _
   | refine LeO.ite ?_ ?_
   | refine LeO.bind ?_ (fun _ => ?_)
set_option maxHeartbeats 8000000 in
set_option maxRecDepth 100000 in
theorem ancepsref09_Valid.calls (k : Nat) (a0_0 : Int) (A0_1 : Option Addr) (c0_1 : Nat) (l0_1 : List (S69)) (r : Int) (w : World) (hr0_1 : Kd.C k69 w A0_1 l0_1.length l0_1) (hc0_1 : l0_1.length ≤ c0_1) (h : ancepsref09_Valid.f k a0_0 l0_1 = some r) :
  Calls Try.prog 28 #[.agg #[.int .i64 a0_0, .slice A0_1 l0_1.length c0_1]] w fun e w' => e = .returned (.int .i64 r) ∧ Below w.heap.size w w' := by
 have hu24 := Try.underlying24
 have hu3 := Try.underlying3
 have hu22 := Try.underlying22
 have hu69 := Try.underlying69
 have HR0_1 := Aside0.mk hr0_1
 have HC0_1 := Aside0.mk hc0_1
 clear hr0_1 hc0_1
 have HB := Aside0.mk (Below.refl w.heap.size w)
 have H : (if a0_0 < 1 then (some 7) else (if a0_0 > 2000 then (ancepsref09_Valid.j0 k true a0_0 l0_1) else (ancepsref09_Valid.j0 k (decide ((l0_1.length : Int) > 6000)) a0_0 l0_1))) = some r := h
 clear h
 have HC2 := Aside0.mk H
 clear H
 go_enter Try.func28, Try.ntmps28
 go_upto_if 7 with (first | ((with_reducible refine gate_dst (N := 1) rfl ?_); (try (refine gate_guard (by rfl) ?_; dsimp only)); refine box_event ?hg (N := 1) ?hd (cs := #[.int .i64 a0_0, .slice A0_1 l0_1.length c0_1]) (t := 24) ?hr ?_; (case hd => rfl); (case hg => rfl); (case hr => first | (go_simp; done) | (go_simp; rfl)); intro gb260 hg w3 hbox hb; have n0_ := Aside0.mk (below_step zB hb); have n1_ := Aside0.mk (hbox); have n2_ := Aside0.mk ((by rw [hg]; exact (below_size zB) : w.heap.size ≤ gb260)); have n3_ := Aside0.mk ((by rw [hg]; exact (below_size zB) : w.heap.size ≤ gb260)); clear HB; have HB := n0_; have BK260 := n1_; have GW260 := n2_; have GE260 := n3_; clear n0_ n1_ n2_ n3_; clear hb hbox hg; have hcz4_0 : w3.cell? ⟨gb260, 0, none⟩ = some (.int .i64 a0_0) := (blk_cell BK260.out 0).trans rfl; have hcz4_1 : w3.cell? ⟨gb260, 1, none⟩ = some (.slice A0_1 l0_1.length c0_1) := (blk_cell BK260.out 1).trans rfl; have hfz4_0 := blk_frozen BK260.out 0; have hfz4_1 := blk_frozen BK260.out 1))
 (try simp only [Act.put, List.setIfInBounds_toArray, List.set_cons_zero, List.set_cons_succ])
 have H := HC2.out
 clear HC2
 by_cases c5 : a0_0 < 1
 ·rw [if_pos c5] at H
  have c5b0 : decide (a0_0 < 1) = true := decide_eq_true c5
  clear c5
  (first | rw [c5b0] | (simp only [i64_w, i32_w]; rw [c5b0]) | skip)
  obtain rfl := Option.some.inj H
  go_wp2
  go_ret
  exact ⟨by first | rfl | (simp [errW_none, errW_some] <;> rfl) | (simp [*, errW_none, errW_some] <;> rfl), by repeat (first | (with_reducible first | exact HB.out | apply below_alloc | apply pw_below_drewN | apply below_drew1 | refine below_set ?_ GE260.out) | exact HB.out)⟩
 ·rw [if_neg c5] at H
  have c5b0 : decide (a0_0 < 1) = false := decide_eq_false c5
  clear c5
  (first | rw [c5b0] | (simp only [i64_w, i32_w]; rw [c5b0]) | skip)
  have HC6 := Aside0.mk H
  clear H
  go_upto_region 3 with (fail)
  go_cut [16] (fun v16 wc => ∃ (kq : Nat) (x16_5 : Bool), v16 = .bool x16_5 ∧ Aside0 (ancepsref09_Valid.j0 kq x16_5 a0_0 l0_1 = some r) ∧ Aside0 (kq ≤ k) ∧ Aside0 (wc.heap[gb260]? = some (.cells #[.int .i64 a0_0, (.slice A0_1 l0_1.length c0_1)] 24 (0, 0))) ∧ Aside0 (Below w.heap.size w wc))
  case first =>
   have H := HC6.out
   clear HC6
   by_cases c7 : a0_0 > 2000
   ·rw [if_pos c7] at H
    have c7b0 : decide (2000 < a0_0) = true := decide_eq_true c7
    clear c7
    (first | rw [c7b0] | (simp only [i64_w, i32_w]; rw [c7b0]) | skip)
    have H' := Aside0.mk H
    clear H
    have hcz8_0 : w3.cell? ⟨gb260, 0, none⟩ = some (.int .i64 a0_0) := (blk_cell BK260.out 0).trans rfl
    have hcz8_1 : w3.cell? ⟨gb260, 1, none⟩ = some (.slice A0_1 l0_1.length c0_1) := (blk_cell BK260.out 1).trans rfl
    have hfz8_0 := blk_frozen BK260.out 0
    have hfz8_1 := blk_frozen BK260.out 1
    go_wp2
    go_meet
    case rel => exact ⟨_, (true), zT, H', ⟨by first | omega | exact Nat.le_refl _⟩, ⟨by (with_reducible repeat (first | refine blk_drewN ?_ _ | refine blk_drew ?_ | refine blk_alloc ?_ _)); exact BK260.out⟩, ⟨by repeat (first | (with_reducible first | exact HB.out | apply below_alloc | apply pw_below_drewN | apply below_drew1 | refine below_set ?_ GE260.out) | exact HB.out)⟩⟩
   ·rw [if_neg c7] at H
    have c7b0 : decide (2000 < a0_0) = false := decide_eq_false c7
    clear c7
    (first | rw [c7b0] | (simp only [i64_w, i32_w]; rw [c7b0]) | skip)
    have H' := Aside0.mk H
    clear H
    have hcz9_0 : w3.cell? ⟨gb260, 0, none⟩ = some (.int .i64 a0_0) := (blk_cell BK260.out 0).trans rfl
    have hcz9_1 : w3.cell? ⟨gb260, 1, none⟩ = some (.slice A0_1 l0_1.length c0_1) := (blk_cell BK260.out 1).trans rfl
    have hfz9_0 := blk_frozen BK260.out 0
    have hfz9_1 := blk_frozen BK260.out 1
    go_wp2
    go_meet
    case rel => exact ⟨_, (decide ((l0_1.length : Int) > 6000)), zT, H', ⟨by first | omega | exact Nat.le_refl _⟩, ⟨by (with_reducible repeat (first | refine blk_drewN ?_ _ | refine blk_drew ?_ | refine blk_alloc ?_ _)); exact BK260.out⟩, ⟨by repeat (first | (with_reducible first | exact HB.out | apply below_alloc | apply pw_below_drewN | apply below_drew1 | refine below_set ?_ GE260.out) | exact HB.out)⟩⟩
  case rest =>
   clear HC6
   try clear c5
   try clear c5b0
   try clear hcz4_0
   try clear hcz4_1
   try clear hfz4_0
   try clear hfz4_1
   obtain ⟨kq, x16_5, rfl, HA, HJ5, BK260, HB⟩ := hcut
   cases kq with
   | zero => exact absurd HA.out (by simp [ancepsref09_Valid.j0])
   | succ kj5 =>
    have H := HA.out
    clear HA
    simp only [ancepsref09_Valid.j0] at H
    by_cases c10 : x16_5 = true
    ·subst c10
     have H1 : (some 3) = some r := by rw [if_pos rfl] at H; exact H
     clear H
     have H := H1
     clear H1
     obtain rfl := Option.some.inj H
     go_wp2
     go_ret
     exact ⟨by first | rfl | (simp [errW_none, errW_some] <;> rfl) | (simp [*, errW_none, errW_some] <;> rfl), by repeat (first | (with_reducible first | exact HB.out | apply below_alloc | apply pw_below_drewN | apply below_drew1 | refine below_set ?_ GE260.out) | exact HB.out)⟩
    ·replace c10 := Bool.eq_false_iff.mpr c10
     subst c10
     have H1 : (ancepsref09_Valid.l0 kj5 0 a0_0 l0_1) = some r := by rw [if_neg (show ¬ (false = true) by decide)] at H; exact H
     clear H
     have H := H1
     clear H1
     have H' := Aside0.mk H
     clear H
     go_wp2
     go_loopg [3] kj5 (fun kq v3 w' => ∃ (x3_2 : Int), v3 = .int .i64 x3_2 ∧ Aside0 (ancepsref09_Valid.l0 kq x3_2 a0_0 l0_1 = some r) ∧ Aside0 (kq ≤ kj5) ∧ Aside0 (w'.heap[gb260]? = some (.cells #[.int .i64 a0_0, (.slice A0_1 l0_1.length c0_1)] 24 (0, 0))) ∧ Aside0 (Below w.heap.size w w'))
     case atStart => exact ⟨(0), zT, H', ⟨Nat.le_refl _⟩, ⟨by (with_reducible repeat (first | refine blk_drewN ?_ _ | refine blk_drew ?_ | refine blk_alloc ?_ _)); exact BK260.out⟩, ⟨by repeat (first | (with_reducible first | exact HB.out | apply below_alloc | apply pw_below_drewN | apply below_drew1 | refine below_set ?_ GE260.out) | exact HB.out)⟩⟩
     case round =>
      clear H'
      try clear c5
      try clear c5b0
      try clear c10
      try clear hcz4_0
      try clear hcz4_1
      try clear hfz4_0
      try clear hfz4_1
      obtain ⟨x3_2, rfl, HA, HK2, BK260, HB⟩ := hrel
      cases gk with
      | zero => exact absurd HA.out (by simp [ancepsref09_Valid.l0])
      | succ k2 =>
       have H := HA.out
       clear HA
       simp only [ancepsref09_Valid.l0] at H
       by_cases c11 : x3_2 < (l0_1.length : Int)
       ·rw [if_pos c11] at H
        have c11b0 : decide (x3_2 < (l0_1.length : Int)) = true := decide_eq_true c11
        clear c11
        by_cases c12 : 0 ≤ x3_2
        ·rw [if_pos c12] at H
         have c12b0 : decide (0 ≤ x3_2) = true := decide_eq_true c12
         clear c12
         have HC13 := Aside0.mk H
         clear H
         have hcz14_0 : wr.cell? ⟨gb260, 0, none⟩ = some (.int .i64 a0_0) := (blk_cell BK260.out 0).trans rfl
         have hcz14_1 : wr.cell? ⟨gb260, 1, none⟩ = some (.slice A0_1 l0_1.length c0_1) := (blk_cell BK260.out 1).trans rfl
         have hfz14_0 := blk_frozen BK260.out 0
         have hfz14_1 := blk_frozen BK260.out 1
         have p261 : 0 ≤ (x3_2 : Int) := of_decide_eq_true zh
         have q261 : x3_2 < (l0_1.length : Int) := of_decide_eq_true zh
         obtain ⟨ad261, e261, hx261_0, hx261_1, hx261_2⟩ := at_T69 HR0_1.out x3_2 p261 q261
         cases e261
         replace hx261_0 := (HB.out.cell (World.block_lt_of_cell? w _ hx261_0)).trans hx261_0
         replace hx261_1 := (HB.out.cell (World.block_lt_of_cell? w _ hx261_1)).trans hx261_1
         replace hx261_2 := (HB.out.cell (World.block_lt_of_cell? w _ hx261_2)).trans hx261_2
         replace p261 := eq_true p261
         replace q261 := eq_true q261
         go_upto_region 9 with (first | ((with_reducible refine gate_dst (N := 4) rfl ?_); (try (refine gate_guard (by rfl) ?_; dsimp only)); refine box_event ?hg (N := 4) ?hd (cs := #[.int .i64 0, .int .i64 0, .int .i64 0]) (t := 69) ?hr ?_; (case hd => rfl); (case hg => rfl); (case hr => first | (go_simp; done) | (go_simp; rfl)); intro gb262 hg w15 hbox hb; have n0_ := Aside0.mk (blk_below (g := gb260) (o := .cells #[.int .i64 a0_0, .slice (some ad261) l0_1.length c0_1] 24 (0, 0)) (zk BK260) hb); have n1_ := Aside0.mk (below_step zB hb); have n2_ := Aside0.mk (hbox); have n3_ := Aside0.mk ((by rw [hg]; exact (below_size zB) : w.heap.size ≤ gb262)); have n4_ := Aside0.mk ((by rw [hg]; exact (below_size zB) : w.heap.size ≤ gb262)); have n5_ := Aside0.mk ((by rw [hg]; exact Nat.ne_of_lt (blk_lt (g := gb260) (o := .cells #[.int .i64 a0_0, .slice (some ad261) l0_1.length c0_1] 24 (0, 0)) (zk BK260)) : gb260 ≠ gb262)); have n6_ := Aside0.mk ((by rw [hg]; exact Nat.ne_of_gt (blk_lt (g := gb260) (o := .cells #[.int .i64 a0_0, .slice (some ad261) l0_1.length c0_1] 24 (0, 0)) (zk BK260)) : gb262 ≠ gb260)); clear BK260; clear HB; have BK260 := n0_; have HB := n1_; have BK262 := n2_; have GW262 := n3_; have GE262 := n4_; have NB260_262 := n5_; have NB262_260 := n6_; clear n0_ n1_ n2_ n3_ n4_ n5_ n6_; clear hb hbox hg; have hnb16 := NB262_260.out; have hnc16 := NB260_262.out; have hcz17_0 : w15.cell? ⟨gb262, 0, none⟩ = some (.int .i64 0) := (blk_cell BK262.out 0).trans rfl; have hcz17_1 : w15.cell? ⟨gb262, 1, none⟩ = some (.int .i64 0) := (blk_cell BK262.out 1).trans rfl; have hcz17_2 : w15.cell? ⟨gb262, 2, none⟩ = some (.int .i64 0) := (blk_cell BK262.out 2).trans rfl; have hfz17_0 := blk_frozen BK262.out 0; have hfz17_1 := blk_frozen BK262.out 1; have hfz17_2 := blk_frozen BK262.out 2))
         (try simp only [Act.put, List.setIfInBounds_toArray, List.set_cons_zero, List.set_cons_succ])
         go_cut [60] (fun v60 wc => ∃ (kq : Nat) (x60_12 : Bool), v60 = .bool x60_12 ∧ Aside0 (ancepsref09_Valid.j2 kq x3_2 x60_12 a0_0 l0_1 ((rd_T69 l0_1 x3_2).f0) ((rd_T69 l0_1 x3_2).f1) ((rd_T69 l0_1 x3_2).f2) = some r) ∧ Aside0 (kq ≤ k2) ∧ Aside0 (wc.heap[gb260]? = some (.cells #[.int .i64 a0_0, (.slice (some ad261) l0_1.length c0_1)] 24 (0, 0))) ∧ Aside0 (wc.heap[gb262]? = some (.cells #[.int .i64 ((rd_T69 l0_1 x3_2).f0), .int .i64 ((rd_T69 l0_1 x3_2).f1), .int .i64 ((rd_T69 l0_1 x3_2).f2)] 69 (0, 0))) ∧ Aside0 (Below w.heap.size w wc))
         case first =>
          have H := HC13.out
          clear HC13
          by_cases c18 : ((rd_T69 l0_1 x3_2).f0) < 0
          ·rw [if_pos c18] at H
           have c18b0 : decide (((rd_T69 l0_1 x3_2).f0) < 0) = true := decide_eq_true c18
           clear c18
           (first | rw [c18b0] | (simp only [i64_w, i32_w]; rw [c18b0]) | skip)
           have H' := Aside0.mk H
           clear H
           have hnb19 := NB262_260.out
           have hnc19 := NB260_262.out
           have hcz20_0 : w15.cell? ⟨gb262, 0, none⟩ = some (.int .i64 0) := (blk_cell BK262.out 0).trans rfl
           have hcz20_1 : w15.cell? ⟨gb262, 1, none⟩ = some (.int .i64 0) := (blk_cell BK262.out 1).trans rfl
           have hcz20_2 : w15.cell? ⟨gb262, 2, none⟩ = some (.int .i64 0) := (blk_cell BK262.out 2).trans rfl
           have hfz20_0 := blk_frozen BK262.out 0
           have hfz20_1 := blk_frozen BK262.out 1
           have hfz20_2 := blk_frozen BK262.out 2
           go_wp2
           go_meet
           case rel => exact ⟨_, (true), zT, H', ⟨by have := HJ5.out; have := HK2.out; first | omega | exact Nat.le_refl _⟩, ⟨by (with_reducible repeat (first | refine blk_drewN ?_ _ | refine blk_drew ?_ | refine blk_alloc ?_ _)); refine blk_far ?_ NB260_262.out _; (with_reducible repeat (first | refine blk_drewN ?_ _ | refine blk_drew ?_ | refine blk_alloc ?_ _)); refine blk_far ?_ NB260_262.out _; (with_reducible repeat (first | refine blk_drewN ?_ _ | refine blk_drew ?_ | refine blk_alloc ?_ _)); refine blk_far ?_ NB260_262.out _; (with_reducible repeat (first | refine blk_drewN ?_ _ | refine blk_drew ?_ | refine blk_alloc ?_ _)); exact BK260.out⟩, ⟨by (with_reducible repeat (first | refine blk_drewN ?_ _ | refine blk_drew ?_ | refine blk_alloc ?_ _)); refine blk_put (cs := #[.int .i64 ((rd_T69 l0_1 x3_2).f0), .int .i64 ((rd_T69 l0_1 x3_2).f1), .int .i64 0]) ?_ 2 _ rfl; (with_reducible repeat (first | refine blk_drewN ?_ _ | refine blk_drew ?_ | refine blk_alloc ?_ _)); refine blk_put (cs := #[.int .i64 ((rd_T69 l0_1 x3_2).f0), .int .i64 0, .int .i64 0]) ?_ 1 _ rfl; (with_reducible repeat (first | refine blk_drewN ?_ _ | refine blk_drew ?_ | refine blk_alloc ?_ _)); refine blk_put (cs := #[.int .i64 0, .int .i64 0, .int .i64 0]) ?_ 0 _ rfl; (with_reducible repeat (first | refine blk_drewN ?_ _ | refine blk_drew ?_ | refine blk_alloc ?_ _)); exact BK262.out⟩, ⟨by repeat (first | (with_reducible first | exact HB.out | apply below_alloc | apply pw_below_drewN | apply below_drew1 | refine below_set ?_ GE260.out | refine below_set ?_ GE262.out) | exact HB.out)⟩⟩
          ·rw [if_neg c18] at H
           have c18b0 : decide (((rd_T69 l0_1 x3_2).f0) < 0) = false := decide_eq_false c18
           clear c18
           (first | rw [c18b0] | (simp only [i64_w, i32_w]; rw [c18b0]) | skip)
           by_cases c21 : ((rd_T69 l0_1 x3_2).f0) ≥ a0_0
           ·rw [if_pos c21] at H
            have c21b0 : decide (a0_0 ≤ ((rd_T69 l0_1 x3_2).f0)) = true := decide_eq_true c21
            clear c21
            have H' := Aside0.mk H
            clear H
            have hnb22 := NB262_260.out
            have hnc22 := NB260_262.out
            have hcz23_0 : w15.cell? ⟨gb262, 0, none⟩ = some (.int .i64 0) := (blk_cell BK262.out 0).trans rfl
            have hcz23_1 : w15.cell? ⟨gb262, 1, none⟩ = some (.int .i64 0) := (blk_cell BK262.out 1).trans rfl
            have hcz23_2 : w15.cell? ⟨gb262, 2, none⟩ = some (.int .i64 0) := (blk_cell BK262.out 2).trans rfl
            have hfz23_0 := blk_frozen BK262.out 0
            have hfz23_1 := blk_frozen BK262.out 1
            have hfz23_2 := blk_frozen BK262.out 2
            have hcz24_0 : w15.cell? ⟨gb260, 0, none⟩ = some (.int .i64 a0_0) := (blk_cell BK260.out 0).trans rfl
            have hcz24_1 : w15.cell? ⟨gb260, 1, none⟩ = some (.slice (some ad261) l0_1.length c0_1) := (blk_cell BK260.out 1).trans rfl
            have hfz24_0 := blk_frozen BK260.out 0
            have hfz24_1 := blk_frozen BK260.out 1
            go_wp2
            go_meet
            case rel => exact ⟨_, (true), zT, H', ⟨by have := HJ5.out; have := HK2.out; first | omega | exact Nat.le_refl _⟩, ⟨by (with_reducible repeat (first | refine blk_drewN ?_ _ | refine blk_drew ?_ | refine blk_alloc ?_ _)); refine blk_far ?_ NB260_262.out _; (with_reducible repeat (first | refine blk_drewN ?_ _ | refine blk_drew ?_ | refine blk_alloc ?_ _)); refine blk_far ?_ NB260_262.out _; (with_reducible repeat (first | refine blk_drewN ?_ _ | refine blk_drew ?_ | refine blk_alloc ?_ _)); refine blk_far ?_ NB260_262.out _; (with_reducible repeat (first | refine blk_drewN ?_ _ | refine blk_drew ?_ | refine blk_alloc ?_ _)); exact BK260.out⟩, ⟨by (with_reducible repeat (first | refine blk_drewN ?_ _ | refine blk_drew ?_ | refine blk_alloc ?_ _)); refine blk_put (cs := #[.int .i64 ((rd_T69 l0_1 x3_2).f0), .int .i64 ((rd_T69 l0_1 x3_2).f1), .int .i64 0]) ?_ 2 _ rfl; (with_reducible repeat (first | refine blk_drewN ?_ _ | refine blk_drew ?_ | refine blk_alloc ?_ _)); refine blk_put (cs := #[.int .i64 ((rd_T69 l0_1 x3_2).f0), .int .i64 0, .int .i64 0]) ?_ 1 _ rfl; (with_reducible repeat (first | refine blk_drewN ?_ _ | refine blk_drew ?_ | refine blk_alloc ?_ _)); refine blk_put (cs := #[.int .i64 0, .int .i64 0, .int .i64 0]) ?_ 0 _ rfl; (with_reducible repeat (first | refine blk_drewN ?_ _ | refine blk_drew ?_ | refine blk_alloc ?_ _)); exact BK262.out⟩, ⟨by repeat (first | (with_reducible first | exact HB.out | apply below_alloc | apply pw_below_drewN | apply below_drew1 | refine below_set ?_ GE260.out | refine below_set ?_ GE262.out) | exact HB.out)⟩⟩
           ·rw [if_neg c21] at H
            have c21b0 : decide (a0_0 ≤ ((rd_T69 l0_1 x3_2).f0)) = false := decide_eq_false c21
            clear c21
            by_cases c25 : ((rd_T69 l0_1 x3_2).f1) < 0
            ·rw [if_pos c25] at H
             have c25b0 : decide (((rd_T69 l0_1 x3_2).f1) < 0) = true := decide_eq_true c25
             clear c25
             have H' := Aside0.mk H
             clear H
             have hnb26 := NB262_260.out
             have hnc26 := NB260_262.out
             have hcz27_0 : w15.cell? ⟨gb262, 0, none⟩ = some (.int .i64 0) := (blk_cell BK262.out 0).trans rfl
             have hcz27_1 : w15.cell? ⟨gb262, 1, none⟩ = some (.int .i64 0) := (blk_cell BK262.out 1).trans rfl
             have hcz27_2 : w15.cell? ⟨gb262, 2, none⟩ = some (.int .i64 0) := (blk_cell BK262.out 2).trans rfl
             have hfz27_0 := blk_frozen BK262.out 0
             have hfz27_1 := blk_frozen BK262.out 1
             have hfz27_2 := blk_frozen BK262.out 2
             have hcz28_0 : w15.cell? ⟨gb260, 0, none⟩ = some (.int .i64 a0_0) := (blk_cell BK260.out 0).trans rfl
             have hcz28_1 : w15.cell? ⟨gb260, 1, none⟩ = some (.slice (some ad261) l0_1.length c0_1) := (blk_cell BK260.out 1).trans rfl
             have hfz28_0 := blk_frozen BK260.out 0
             have hfz28_1 := blk_frozen BK260.out 1
             go_wp2
             go_meet
             case rel => exact ⟨_, (true), zT, H', ⟨by have := HJ5.out; have := HK2.out; first | omega | exact Nat.le_refl _⟩, ⟨by (with_reducible repeat (first | refine blk_drewN ?_ _ | refine blk_drew ?_ | refine blk_alloc ?_ _)); refine blk_far ?_ NB260_262.out _; (with_reducible repeat (first | refine blk_drewN ?_ _ | refine blk_drew ?_ | refine blk_alloc ?_ _)); refine blk_far ?_ NB260_262.out _; (with_reducible repeat (first | refine blk_drewN ?_ _ | refine blk_drew ?_ | refine blk_alloc ?_ _)); refine blk_far ?_ NB260_262.out _; (with_reducible repeat (first | refine blk_drewN ?_ _ | refine blk_drew ?_ | refine blk_alloc ?_ _)); exact BK260.out⟩, ⟨by (with_reducible repeat (first | refine blk_drewN ?_ _ | refine blk_drew ?_ | refine blk_alloc ?_ _)); refine blk_put (cs := #[.int .i64 ((rd_T69 l0_1 x3_2).f0), .int .i64 ((rd_T69 l0_1 x3_2).f1), .int .i64 0]) ?_ 2 _ rfl; (with_reducible repeat (first | refine blk_drewN ?_ _ | refine blk_drew ?_ | refine blk_alloc ?_ _)); refine blk_put (cs := #[.int .i64 ((rd_T69 l0_1 x3_2).f0), .int .i64 0, .int .i64 0]) ?_ 1 _ rfl; (with_reducible repeat (first | refine blk_drewN ?_ _ | refine blk_drew ?_ | refine blk_alloc ?_ _)); refine blk_put (cs := #[.int .i64 0, .int .i64 0, .int .i64 0]) ?_ 0 _ rfl; (with_reducible repeat (first | refine blk_drewN ?_ _ | refine blk_drew ?_ | refine blk_alloc ?_ _)); exact BK262.out⟩, ⟨by repeat (first | (with_reducible first | exact HB.out | apply below_alloc | apply pw_below_drewN | apply below_drew1 | refine below_set ?_ GE260.out | refine below_set ?_ GE262.out) | exact HB.out)⟩⟩
            ·rw [if_neg c25] at H
             have c25b0 : decide (((rd_T69 l0_1 x3_2).f1) < 0) = false := decide_eq_false c25
             clear c25
             by_cases c29 : ((rd_T69 l0_1 x3_2).f1) ≥ a0_0
             ·rw [if_pos c29] at H
              have c29b0 : decide (a0_0 ≤ ((rd_T69 l0_1 x3_2).f1)) = true := decide_eq_true c29
              clear c29
              have H' := Aside0.mk H
              clear H
              have hnb30 := NB262_260.out
              have hnc30 := NB260_262.out
              have hcz31_0 : w15.cell? ⟨gb262, 0, none⟩ = some (.int .i64 0) := (blk_cell BK262.out 0).trans rfl
              have hcz31_1 : w15.cell? ⟨gb262, 1, none⟩ = some (.int .i64 0) := (blk_cell BK262.out 1).trans rfl
              have hcz31_2 : w15.cell? ⟨gb262, 2, none⟩ = some (.int .i64 0) := (blk_cell BK262.out 2).trans rfl
              have hfz31_0 := blk_frozen BK262.out 0
              have hfz31_1 := blk_frozen BK262.out 1
              have hfz31_2 := blk_frozen BK262.out 2
              have hcz32_0 : w15.cell? ⟨gb260, 0, none⟩ = some (.int .i64 a0_0) := (blk_cell BK260.out 0).trans rfl
              have hcz32_1 : w15.cell? ⟨gb260, 1, none⟩ = some (.slice (some ad261) l0_1.length c0_1) := (blk_cell BK260.out 1).trans rfl
              have hfz32_0 := blk_frozen BK260.out 0
              have hfz32_1 := blk_frozen BK260.out 1
              go_wp2
              go_meet
              case rel => exact ⟨_, (true), zT, H', ⟨by have := HJ5.out; have := HK2.out; first | omega | exact Nat.le_refl _⟩, ⟨by (with_reducible repeat (first | refine blk_drewN ?_ _ | refine blk_drew ?_ | refine blk_alloc ?_ _)); refine blk_far ?_ NB260_262.out _; (with_reducible repeat (first | refine blk_drewN ?_ _ | refine blk_drew ?_ | refine blk_alloc ?_ _)); refine blk_far ?_ NB260_262.out _; (with_reducible repeat (first | refine blk_drewN ?_ _ | refine blk_drew ?_ | refine blk_alloc ?_ _)); refine blk_far ?_ NB260_262.out _; (with_reducible repeat (first | refine blk_drewN ?_ _ | refine blk_drew ?_ | refine blk_alloc ?_ _)); exact BK260.out⟩, ⟨by (with_reducible repeat (first | refine blk_drewN ?_ _ | refine blk_drew ?_ | refine blk_alloc ?_ _)); refine blk_put (cs := #[.int .i64 ((rd_T69 l0_1 x3_2).f0), .int .i64 ((rd_T69 l0_1 x3_2).f1), .int .i64 0]) ?_ 2 _ rfl; (with_reducible repeat (first | refine blk_drewN ?_ _ | refine blk_drew ?_ | refine blk_alloc ?_ _)); refine blk_put (cs := #[.int .i64 ((rd_T69 l0_1 x3_2).f0), .int .i64 0, .int .i64 0]) ?_ 1 _ rfl; (with_reducible repeat (first | refine blk_drewN ?_ _ | refine blk_drew ?_ | refine blk_alloc ?_ _)); refine blk_put (cs := #[.int .i64 0, .int .i64 0, .int .i64 0]) ?_ 0 _ rfl; (with_reducible repeat (first | refine blk_drewN ?_ _ | refine blk_drew ?_ | refine blk_alloc ?_ _)); exact BK262.out⟩, ⟨by repeat (first | (with_reducible first | exact HB.out | apply below_alloc | apply pw_below_drewN | apply below_drew1 | refine below_set ?_ GE260.out | refine below_set ?_ GE262.out) | exact HB.out)⟩⟩
             ·rw [if_neg c29] at H
              have c29b0 : decide (a0_0 ≤ ((rd_T69 l0_1 x3_2).f1)) = false := decide_eq_false c29
              clear c29
              by_cases c33 : ((rd_T69 l0_1 x3_2).f2) < 0
              ·rw [if_pos c33] at H
               have c33b0 : decide (((rd_T69 l0_1 x3_2).f2) < 0) = true := decide_eq_true c33
               clear c33
               have H' := Aside0.mk H
               clear H
               have hnb34 := NB262_260.out
               have hnc34 := NB260_262.out
               have hcz35_0 : w15.cell? ⟨gb262, 0, none⟩ = some (.int .i64 0) := (blk_cell BK262.out 0).trans rfl
               have hcz35_1 : w15.cell? ⟨gb262, 1, none⟩ = some (.int .i64 0) := (blk_cell BK262.out 1).trans rfl
               have hcz35_2 : w15.cell? ⟨gb262, 2, none⟩ = some (.int .i64 0) := (blk_cell BK262.out 2).trans rfl
               have hfz35_0 := blk_frozen BK262.out 0
               have hfz35_1 := blk_frozen BK262.out 1
               have hfz35_2 := blk_frozen BK262.out 2
               have hcz36_0 : w15.cell? ⟨gb260, 0, none⟩ = some (.int .i64 a0_0) := (blk_cell BK260.out 0).trans rfl
               have hcz36_1 : w15.cell? ⟨gb260, 1, none⟩ = some (.slice (some ad261) l0_1.length c0_1) := (blk_cell BK260.out 1).trans rfl
               have hfz36_0 := blk_frozen BK260.out 0
               have hfz36_1 := blk_frozen BK260.out 1
               go_wp2
               go_meet
               case rel => exact ⟨_, (true), zT, H', ⟨by have := HJ5.out; have := HK2.out; first | omega | exact Nat.le_refl _⟩, ⟨by (with_reducible repeat (first | refine blk_drewN ?_ _ | refine blk_drew ?_ | refine blk_alloc ?_ _)); refine blk_far ?_ NB260_262.out _; (with_reducible repeat (first | refine blk_drewN ?_ _ | refine blk_drew ?_ | refine blk_alloc ?_ _)); refine blk_far ?_ NB260_262.out _; (with_reducible repeat (first | refine blk_drewN ?_ _ | refine blk_drew ?_ | refine blk_alloc ?_ _)); refine blk_far ?_ NB260_262.out _; (with_reducible repeat (first | refine blk_drewN ?_ _ | refine blk_drew ?_ | refine blk_alloc ?_ _)); exact BK260.out⟩, ⟨by (with_reducible repeat (first | refine blk_drewN ?_ _ | refine blk_drew ?_ | refine blk_alloc ?_ _)); refine blk_put (cs := #[.int .i64 ((rd_T69 l0_1 x3_2).f0), .int .i64 ((rd_T69 l0_1 x3_2).f1), .int .i64 0]) ?_ 2 _ rfl; (with_reducible repeat (first | refine blk_drewN ?_ _ | refine blk_drew ?_ | refine blk_alloc ?_ _)); refine blk_put (cs := #[.int .i64 ((rd_T69 l0_1 x3_2).f0), .int .i64 0, .int .i64 0]) ?_ 1 _ rfl; (with_reducible repeat (first | refine blk_drewN ?_ _ | refine blk_drew ?_ | refine blk_alloc ?_ _)); refine blk_put (cs := #[.int .i64 0, .int .i64 0, .int .i64 0]) ?_ 0 _ rfl; (with_reducible repeat (first | refine blk_drewN ?_ _ | refine blk_drew ?_ | refine blk_alloc ?_ _)); exact BK262.out⟩, ⟨by repeat (first | (with_reducible first | exact HB.out | apply below_alloc | apply pw_below_drewN | apply below_drew1 | refine below_set ?_ GE260.out | refine below_set ?_ GE262.out) | exact HB.out)⟩⟩
              ·rw [if_neg c33] at H
               have c33b0 : decide (((rd_T69 l0_1 x3_2).f2) < 0) = false := decide_eq_false c33
               clear c33
               have H' := Aside0.mk H
               clear H
               have hnb37 := NB262_260.out
               have hnc37 := NB260_262.out
               have hcz38_0 : w15.cell? ⟨gb262, 0, none⟩ = some (.int .i64 0) := (blk_cell BK262.out 0).trans rfl
               have hcz38_1 : w15.cell? ⟨gb262, 1, none⟩ = some (.int .i64 0) := (blk_cell BK262.out 1).trans rfl
               have hcz38_2 : w15.cell? ⟨gb262, 2, none⟩ = some (.int .i64 0) := (blk_cell BK262.out 2).trans rfl
               have hfz38_0 := blk_frozen BK262.out 0
               have hfz38_1 := blk_frozen BK262.out 1
               have hfz38_2 := blk_frozen BK262.out 2
               have hcz39_0 : w15.cell? ⟨gb260, 0, none⟩ = some (.int .i64 a0_0) := (blk_cell BK260.out 0).trans rfl
               have hcz39_1 : w15.cell? ⟨gb260, 1, none⟩ = some (.slice (some ad261) l0_1.length c0_1) := (blk_cell BK260.out 1).trans rfl
               have hfz39_0 := blk_frozen BK260.out 0
               have hfz39_1 := blk_frozen BK260.out 1
               go_wp2
               go_meet
               case rel => exact ⟨_, (decide (((rd_T69 l0_1 x3_2).f2) > 1000000)), zT, H', ⟨by have := HJ5.out; have := HK2.out; first | omega | exact Nat.le_refl _⟩, ⟨by (with_reducible repeat (first | refine blk_drewN ?_ _ | refine blk_drew ?_ | refine blk_alloc ?_ _)); refine blk_far ?_ NB260_262.out _; (with_reducible repeat (first | refine blk_drewN ?_ _ | refine blk_drew ?_ | refine blk_alloc ?_ _)); refine blk_far ?_ NB260_262.out _; (with_reducible repeat (first | refine blk_drewN ?_ _ | refine blk_drew ?_ | refine blk_alloc ?_ _)); refine blk_far ?_ NB260_262.out _; (with_reducible repeat (first | refine blk_drewN ?_ _ | refine blk_drew ?_ | refine blk_alloc ?_ _)); exact BK260.out⟩, ⟨by (with_reducible repeat (first | refine blk_drewN ?_ _ | refine blk_drew ?_ | refine blk_alloc ?_ _)); refine blk_put (cs := #[.int .i64 ((rd_T69 l0_1 x3_2).f0), .int .i64 ((rd_T69 l0_1 x3_2).f1), .int .i64 0]) ?_ 2 _ rfl; (with_reducible repeat (first | refine blk_drewN ?_ _ | refine blk_drew ?_ | refine blk_alloc ?_ _)); refine blk_put (cs := #[.int .i64 ((rd_T69 l0_1 x3_2).f0), .int .i64 0, .int .i64 0]) ?_ 1 _ rfl; (with_reducible repeat (first | refine blk_drewN ?_ _ | refine blk_drew ?_ | refine blk_alloc ?_ _)); refine blk_put (cs := #[.int .i64 0, .int .i64 0, .int .i64 0]) ?_ 0 _ rfl; (with_reducible repeat (first | refine blk_drewN ?_ _ | refine blk_drew ?_ | refine blk_alloc ?_ _)); exact BK262.out⟩, ⟨by repeat (first | (with_reducible first | exact HB.out | apply below_alloc | apply pw_below_drewN | apply below_drew1 | refine below_set ?_ GE260.out | refine below_set ?_ GE262.out) | exact HB.out)⟩⟩
         case rest =>
          clear HC13
          try clear c5
          try clear c5b0
          try clear c10
          try clear c11
          try clear c11b0
          try clear c12
          try clear c12b0
          try clear hcz14_0
          try clear hcz14_1
          try clear hcz17_0
          try clear hcz17_1
          try clear hcz17_2
          try clear hcz4_0
          try clear hcz4_1
          try clear hfz14_0
          try clear hfz14_1
          try clear hfz17_0
          try clear hfz17_1
          try clear hfz17_2
          try clear hfz4_0
          try clear hfz4_1
          try clear hx261_0
          try clear hx261_1
          try clear hx261_2
          try clear p261
          try clear q261
          obtain ⟨kq, x60_12, rfl, HA, HJ12, BK260, BK262, HB⟩ := hcut
          cases kq with
          | zero => exact absurd HA.out (by simp [ancepsref09_Valid.j2])
          | succ kj12 =>
           have H := HA.out
           clear HA
           simp only [ancepsref09_Valid.j2] at H
           by_cases c40 : x60_12 = true
           ·subst c40
            have H1 : (some 6) = some r := by rw [if_pos rfl] at H; exact H
            clear H
            have H := H1
            clear H1
            obtain rfl := Option.some.inj H
            go_wp2
            go_ret
            exact ⟨by first | rfl | (simp [errW_none, errW_some] <;> rfl) | (simp [*, errW_none, errW_some] <;> rfl), by repeat (first | (with_reducible first | exact HB.out | apply below_alloc | apply pw_below_drewN | apply below_drew1 | refine below_set ?_ GE260.out | refine below_set ?_ GE262.out) | exact HB.out)⟩
           ·replace c40 := Bool.eq_false_iff.mpr c40
            subst c40
            have H1 : (if ((rd_T69 l0_1 x3_2).f1) ≤ ((rd_T69 l0_1 x3_2).f0) then (some 18) else (ancepsref09_Valid.l0 kj12 (wrap64 (x3_2 + 1)) a0_0 l0_1)) = some r := by rw [if_neg (show ¬ (false = true) by decide)] at H; exact H
            clear H
            have H := H1
            clear H1
            by_cases c41 : ((rd_T69 l0_1 x3_2).f1) ≤ ((rd_T69 l0_1 x3_2).f0)
            ·rw [if_pos c41] at H
             have c41b0 : decide (((rd_T69 l0_1 x3_2).f1) ≤ ((rd_T69 l0_1 x3_2).f0)) = true := decide_eq_true c41
             clear c41
             obtain rfl := Option.some.inj H
             have hnb42 := NB262_260.out
             have hnc42 := NB260_262.out
             have hcz43_0 : wc.cell? ⟨gb262, 0, none⟩ = some (.int .i64 ((rd_T69 l0_1 x3_2).f0)) := (blk_cell BK262.out 0).trans rfl
             have hcz43_1 : wc.cell? ⟨gb262, 1, none⟩ = some (.int .i64 ((rd_T69 l0_1 x3_2).f1)) := (blk_cell BK262.out 1).trans rfl
             have hcz43_2 : wc.cell? ⟨gb262, 2, none⟩ = some (.int .i64 ((rd_T69 l0_1 x3_2).f2)) := (blk_cell BK262.out 2).trans rfl
             have hfz43_0 := blk_frozen BK262.out 0
             have hfz43_1 := blk_frozen BK262.out 1
             have hfz43_2 := blk_frozen BK262.out 2
             go_wp2
             go_ret
             exact ⟨by first | rfl | (simp [errW_none, errW_some] <;> rfl) | (simp [*, errW_none, errW_some] <;> rfl), by repeat (first | (with_reducible first | exact HB.out | apply below_alloc | apply pw_below_drewN | apply below_drew1 | refine below_set ?_ GE260.out | refine below_set ?_ GE262.out) | exact HB.out)⟩
            ·rw [if_neg c41] at H
             have c41b0 : decide (((rd_T69 l0_1 x3_2).f1) ≤ ((rd_T69 l0_1 x3_2).f0)) = false := decide_eq_false c41
             clear c41
             have H' := Aside0.mk H
             clear H
             have hnb44 := NB262_260.out
             have hnc44 := NB260_262.out
             have hcz45_0 : wc.cell? ⟨gb262, 0, none⟩ = some (.int .i64 ((rd_T69 l0_1 x3_2).f0)) := (blk_cell BK262.out 0).trans rfl
             have hcz45_1 : wc.cell? ⟨gb262, 1, none⟩ = some (.int .i64 ((rd_T69 l0_1 x3_2).f1)) := (blk_cell BK262.out 1).trans rfl
             have hcz45_2 : wc.cell? ⟨gb262, 2, none⟩ = some (.int .i64 ((rd_T69 l0_1 x3_2).f2)) := (blk_cell BK262.out 2).trans rfl
             have hfz45_0 := blk_frozen BK262.out 0
             have hfz45_1 := blk_frozen BK262.out 1
             have hfz45_2 := blk_frozen BK262.out 2
             go_wp2
             go_roundg kj12
             case measure => have := HJ5.out; have := HK2.out; have := HJ12.out; omega
             case rel => exact ⟨(wrap64 (x3_2 + 1)), zT, H', ⟨by have := HJ5.out; have := HK2.out; have := HJ12.out; omega⟩, ⟨by (with_reducible repeat (first | refine blk_drewN ?_ _ | refine blk_drew ?_ | refine blk_alloc ?_ _)); exact BK260.out⟩, ⟨by repeat (first | (with_reducible first | exact HB.out | apply below_alloc | apply pw_below_drewN | apply below_drew1 | refine below_set ?_ GE260.out | refine below_set ?_ GE262.out) | exact HB.out)⟩⟩
        ·rw [if_neg c12] at H
         exact absurd H (by simp)
       ·rw [if_neg c11] at H
        have c11b0 : decide (x3_2 < (l0_1.length : Int)) = false := decide_eq_false c11
        clear c11
        obtain rfl := Option.some.inj H
        have hcz46_0 : wr.cell? ⟨gb260, 0, none⟩ = some (.int .i64 a0_0) := (blk_cell BK260.out 0).trans rfl
        have hcz46_1 : wr.cell? ⟨gb260, 1, none⟩ = some (.slice A0_1 l0_1.length c0_1) := (blk_cell BK260.out 1).trans rfl
        have hfz46_0 := blk_frozen BK260.out 0
        have hfz46_1 := blk_frozen BK260.out 1
        go_wp2
        go_ret
        exact ⟨by first | rfl | (simp [errW_none, errW_some] <;> rfl) | (simp [*, errW_none, errW_some] <;> rfl), by repeat (first | (with_reducible first | exact HB.out | apply below_alloc | apply pw_below_drewN | apply below_drew1 | refine below_set ?_ GE260.out) | exact HB.out)⟩
/-! ### ancepsref09_capped: function 82 -/
def ancepsref09_capped.f (a0 : Int) (a1 : Int) : Option (Int) := if a0 > (wrap64 (4611686018427387905 - a1)) then (some 4611686018427387905) else (some (wrap64 (a0 + a1)))
set_option maxHeartbeats 8000000 in
set_option maxRecDepth 100000 in
theorem ancepsref09_capped.calls (a0 : Int) (a1 : Int) (r : Int) (w : World) (h : ancepsref09_capped.f a0 a1 = some r) :
  Calls Try.prog 82 #[.int .i64 a0, .int .i64 a1] w fun e w' => e = .returned (.int .i64 r) ∧ Drawn0 w w' := by
 have H : (if a0 > (wrap64 (4611686018427387905 - a1)) then (some 4611686018427387905) else (some (wrap64 (a0 + a1)))) = some r := h
 clear h
 by_cases c3 : a0 > (wrap64 (4611686018427387905 - a1))
 ·rw [if_pos c3] at H
  have c3b0 : decide ((wrap64 (4611686018427387905 - a1)) < a0) = true := decide_eq_true c3
  clear c3
  obtain rfl := Option.some.inj H
  go_enter Try.func82, Try.ntmps82
  go_wp2
  go_ret
  exact ⟨by first | rfl | (simp; done) | (simp [*]; done), by repeat (first | exact Drawn0.refl _ | apply Drawn0.step)⟩
 ·rw [if_neg c3] at H
  have c3b0 : decide ((wrap64 (4611686018427387905 - a1)) < a0) = false := decide_eq_false c3
  clear c3
  obtain rfl := Option.some.inj H
  go_enter Try.func82, Try.ntmps82
  go_wp2
  go_ret
  exact ⟨by first | rfl | (simp; done) | (simp [*]; done), by repeat (first | exact Drawn0.refl _ | apply Drawn0.step)⟩
/-! ### ancepsref09_ways: function 57 -/
mutual
def ancepsref09_ways.l0 : Nat → List Int → Int → Int → List (S69) → Option (List Int)
 | 0, _, _, _, _ => none
 | k + 1, x3, x4, x264000, x264001 => if x4 ≥ 0 then (ancepsref09_ways.l1 k x3 x4 0 x264000 x264001) else (some x3)
def ancepsref09_ways.l1 : Nat → List Int → Int → Int → Int → List (S69) → Option (List Int)
 | 0, _, _, _, _, _ => none
 | k + 1, x3, x4, x5, x264000, x264001 => if x5 < (x264001.length : Int) then (if 0 ≤ x5 then (if ((rd_T69 x264001 x5).f0) = x4 then (if 0 ≤ x4 then (if x4 < (x3.length : Int) then (if 0 ≤ ((rd_T69 x264001 x5).f1) then (if ((rd_T69 x264001 x5).f1) < (x3.length : Int) then ((ancepsref09_capped.f (rd x3 x4) (rd x3 ((rd_T69 x264001 x5).f1))).bind fun t272 => (ancepsref09_ways.l1 k (x3.set (x4 : Int).toNat t272) x4 (wrap64 (x5 + 1)) x264000 x264001)) else (none)) else (none)) else (none)) else (none)) else (ancepsref09_ways.l1 k x3 x4 (wrap64 (x5 + 1)) x264000 x264001)) else (none)) else (ancepsref09_ways.l0 k x3 (wrap64 (x4 - 1)) x264000 x264001)
end
def ancepsref09_ways.f (k : Nat) (a0_0 : Int) (l0_1 : List (S69)) : Option (List Int) := if 0 ≤ a0_0 then (if (a0_0 : Int).toNat ≤ 35184372088832 then ((some (List.replicate (a0_0 : Int).toNat 0 : List Int)).bind fun y264 => (if 0 ≤ (wrap64 (a0_0 - 1)) then (if (wrap64 (a0_0 - 1)) < (y264.length : Int) then (ancepsref09_ways.l0 k (y264.set ((wrap64 (a0_0 - 1)) : Int).toNat 1) (wrap64 (a0_0 - 2)) a0_0 l0_1) else (none)) else (none))) else (none)) else (none)
theorem ancepsref09_ways.mono_l : ∀ k, (∀ y0 y1 y2 y3, LeO (ancepsref09_ways.l0 k y0 y1 y2 y3) (ancepsref09_ways.l0 (k + 1) y0 y1 y2 y3)) ∧ (∀ y0 y1 y2 y3 y4, LeO (ancepsref09_ways.l1 k y0 y1 y2 y3 y4) (ancepsref09_ways.l1 (k + 1) y0 y1 y2 y3 y4))
 | 0 => ⟨fun _ _ _ _ r h => by simp [ancepsref09_ways.l0] at h, fun _ _ _ _ _ r h => by simp [ancepsref09_ways.l1] at h⟩
 | k + 1 => by
  obtain ⟨ih0, ih1⟩ := ancepsref09_ways.mono_l k
  refine ⟨?_, ?_⟩
  ·intro y0 y1 y2 y3
   unfold ancepsref09_ways.l0
   repeat' first
   | (with_reducible exact ih0 _ _ _ _)
   | (with_reducible exact ih1 _ _ _ _ _)
   | (with_reducible exact LeO.refl _)
   | (with_reducible exact LeO.none _)
   | (with_reducible refine LeO.ite ?_ ?_)
   | (with_reducible refine LeO.bind ?_ (fun _ => ?_))
   | exact ih0 _ _ _ _
   | exact ih1 _ _ _ _ _
   | exact LeO.none _
   | refine LeO.ite ?_ ?_
   | refine LeO.bind ?_ (fun _ => ?_)
  ·intro y0 y1 y2 y3 y4
   unfold ancepsref09_ways.l1
   repeat' first
   | (with_reducible exact ih0 _ _ _ _)
   | (with_reducible exact ih1 _ _ _ _ _)
   | (with_reducible exact LeO.refl _)
   | (with_reducible exact LeO.none _)
   | (with_reducible refine LeO.ite ?_ ?_)
   | (with_reducible refine LeO.bind ?_ (fun _ => ?_))
   | exact ih0 _ _ _ _
   | exact ih1 _ _ _ _ _
   | exact LeO.none _
   | refine LeO.ite ?_ ?_
   | refine LeO.bind ?_ (fun _ => ?_)
theorem ancepsref09_ways.mono : ∀ a0 a1 k, LeO (ancepsref09_ways.f k a0 a1) (ancepsref09_ways.f (k + 1) a0 a1) := by
 intro a0 a1 k
 obtain ⟨ih0, ih1⟩ := ancepsref09_ways.mono_l k
 unfold ancepsref09_ways.f
 repeat' first
   | (with_reducible exact ih0 _ _ _ _)
   | (with_reducible exact ih1 _ _ _ _ _)
   | (with_reducible exact LeO.refl _)
   | (with_reducible exact LeO.none _)
   | (with_reducible refine LeO.ite ?_ ?_)
   | (with_reducible refine LeO.bind ?_ (fun _ => ?_))
   | exact ih0 _ _ _ _
   | exact ih1 _ _ _ _ _
   | exact LeO.none _
   | refine LeO.ite ?_ ?_
   | refine LeO.bind ?_ (fun _ => ?_)
def ancepsref09_ways.T10 : Bool × List (List Nat × List Nat) := (true, [([], []), ([], []), ([], []), ([], []), ([2, 3], [2, 3]), ([4], [4]), ([], []), ([], []), ([7], [7]), ([], []), ([8, 9], [8, 9]), ([10], [10]), ([11], [11]), ([6, 12], [6, 12]), ([13], [13]), ([5, 14], [5, 14]), ([0, 1, 0, 1, 2, 3, 4, 5, 6, 7, 8, 9, 10, 11, 12, 13, 14, 15], [0, 1]), ([16, 15, 15, 0, 1, 2, 3, 4, 5, 6, 7, 8, 9, 10, 11, 12, 13, 14, 15], [15, 16])])
def ancepsref09_ways.B10 : List Nat := [0, 0, 0, 0, 12, 28, 0, 0, 128, 0, 896, 1920, 3968, 8128, 16320, 32764, 65535, 131071]
theorem ancepsref09_ways.tab10 : rtab .any (opsOf Try.f57 10) = ancepsref09_ways.T10 := by kernel_rfl
theorem ancepsref09_ways.bits10 : waitsOk ancepsref09_ways.T10.2 ancepsref09_ways.B10 = true := by kernel_rfl
set_option maxHeartbeats 8000000 in
set_option maxRecDepth 100000 in
theorem ancepsref09_ways.calls (k : Nat) (a0_0 : Int) (A0_1 : Option Addr) (c0_1 : Nat) (l0_1 : List (S69)) (r : List Int) (w : World) (hr0_1 : Kd.C k69 w A0_1 l0_1.length l0_1) (hc0_1 : l0_1.length ≤ c0_1) (h : ancepsref09_ways.f k a0_0 l0_1 = some r) :
  Calls Try.prog 57 #[.agg #[.int .i64 a0_0, .slice A0_1 l0_1.length c0_1]] w fun e w' => ∃ v0_ : Value, e = .returned (v0_) ∧ Kd.R (Kd.int .i64) 2 w' w.heap.size (fun _ => True) v0_ r ∧ Below w.heap.size w w' := by
 have hu24 := Try.underlying24
 have hu3 := Try.underlying3
 have hu2 := Try.underlying2
 have hu22 := Try.underlying22
 have HR0_1 := Aside0.mk hr0_1
 have HC0_1 := Aside0.mk hc0_1
 clear hr0_1 hc0_1
 have HB := Aside0.mk (Below.refl w.heap.size w)
 have H : (if 0 ≤ a0_0 then (if (a0_0 : Int).toNat ≤ 35184372088832 then ((some (List.replicate (a0_0 : Int).toNat 0 : List Int)).bind fun y264 => (if 0 ≤ (wrap64 (a0_0 - 1)) then (if (wrap64 (a0_0 - 1)) < (y264.length : Int) then (ancepsref09_ways.l0 k (y264.set ((wrap64 (a0_0 - 1)) : Int).toNat 1) (wrap64 (a0_0 - 2)) a0_0 l0_1) else (none)) else (none))) else (none)) else (none)) = some r := h
 clear h
 by_cases c2 : 0 ≤ a0_0
 ·rw [if_pos c2] at H
  have c2b0 := eq_true c2
  have c2b1 : decide (0 ≤ a0_0) = true := decide_eq_true c2
  clear c2
  by_cases c3 : (a0_0 : Int).toNat ≤ 35184372088832
  ·rw [if_pos c3] at H
   have c3b0 := eq_true c3
   have c3b1 : decide ((a0_0 : Int).toNat ≤ 35184372088832) = true := decide_eq_true c3
   clear c3
   obtain ⟨y264, hy264⟩ : ∃ y_ : List Int, y_ = (List.replicate (a0_0 : Int).toNat 0) := ⟨_, rfl⟩
   replace H : (if 0 ≤ (wrap64 (a0_0 - 1)) then (if (wrap64 (a0_0 - 1)) < (y264.length : Int) then (ancepsref09_ways.l0 k (y264.set ((wrap64 (a0_0 - 1)) : Int).toNat 1) (wrap64 (a0_0 - 2)) a0_0 l0_1) else (none)) else (none)) = some r := by first | (rw [hy264]; with_reducible exact H) | (have H2_ := (Option.bind_some _ _).symm.trans H; rw [hy264]; with_reducible exact H2_) | (have H2_ := (Option.bind_some _ _).symm.trans H; with_reducible exact H2_) | with_reducible exact H | (rw [hy264]; exact H) | exact H
   have Ny264 := Aside0.mk hy264
   clear hy264
   obtain ⟨ji4, hji4⟩ : ∃ j_ : Int, (wrap64 (a0_0 - 1)) = j_ := ⟨_, rfl⟩
   replace H : (if 0 ≤ (ji4) then (if (ji4) < (y264.length : Int) then (ancepsref09_ways.l0 k (y264.set ((ji4) : Int).toNat 1) (wrap64 (a0_0 - 2)) a0_0 l0_1) else (none)) else (none)) = some r := by first | (rw [hji4] at H; exact H) | (simp only [hji4] at H ⊢; exact H)
   have hji4w : (IntKind.i64.wrap (a0_0 - 1)) = ji4 := (i64_w _).trans hji4
   by_cases c5 : 0 ≤ (ji4)
   ·rw [if_pos c5] at H
    have c5b0 : decide (0 ≤ (ji4)) = true := decide_eq_true c5
    clear c5
    by_cases c6 : (ji4) < (y264.length : Int)
    ·rw [if_pos c6] at H
     have c6b0 : decide ((ji4) < (y264.length : Int)) = true := decide_eq_true c6
     clear c6
     obtain ⟨y267, hy267⟩ : ∃ y_ : List Int, y_ = (y264.set ((ji4) : Int).toNat 1) := ⟨_, rfl⟩
     replace H : (ancepsref09_ways.l0 k y267 (wrap64 (a0_0 - 2)) a0_0 l0_1) = some r := by first | (rw [hy267]; with_reducible exact H) | (have H2_ := (Option.bind_some _ _).symm.trans H; rw [hy267]; with_reducible exact H2_) | (have H2_ := (Option.bind_some _ _).symm.trans H; with_reducible exact H2_) | with_reducible exact H | (rw [hy267]; exact H) | exact H
     have Ny267 := Aside0.mk hy267
     clear hy267
     have H' := Aside0.mk H
     clear H
     go_enter Try.func57, Try.ntmps57
     go_wp2_with (first | ((with_reducible refine gate_dst (N := 1) rfl ?_); refine box_event ?hg (N := 1) ?hd (cs := #[.int .i64 a0_0, .slice A0_1 l0_1.length c0_1]) (t := 24) ?hr ?_; (case hd => rfl); (case hg => rfl); (case hr => first | (go_simp; done) | (go_simp; rfl)); intro gb263 hg w8 hbox hb; have n0_ := Aside0.mk (below_step zB hb); have n1_ := Aside0.mk (hbox); have n2_ := Aside0.mk ((by rw [hg]; exact (below_size zB) : w.heap.size ≤ gb263)); have n3_ := Aside0.mk ((by rw [hg]; exact (below_size zB) : w.heap.size ≤ gb263)); clear HB; have HB := n0_; have BK263 := n1_; have GW263 := n2_; have GE263 := n3_; clear n0_ n1_ n2_ n3_; clear hb hbox hg; have hcz9_0 : w8.cell? ⟨gb263, 0, none⟩ = some (.int .i64 a0_0) := (blk_cell BK263.out 0).trans rfl; have hcz9_1 : w8.cell? ⟨gb263, 1, none⟩ = some (.slice A0_1 l0_1.length c0_1) := (blk_cell BK263.out 1).trans rfl; have hfz9_0 := blk_frozen BK263.out 0; have hfz9_1 := blk_frozen BK263.out 1) | ((with_reducible refine gate_dst (N := 8) rfl ?_); refine Kd.R_make (Kd.int .i64) _ 2 rfl (N := 8) rfl 71 _ _ rfl a0_0 rfl rfl Try.underlying71 (.int .i64 0) 8 info2 rfl (by decide) (by omega) 0 (ok := fun _ => True) (okp := fun _ => True) rfl (fun _ hk => hk) trivial (of_decide_eq_true zh) (Nat.le_trans (Nat.mul_le_mul_right _ (of_decide_eq_true zh : a0_0.toNat ≤ 35184372088832)) (by omega)) (Below.refl _ _) (Nat.le_refl _) ?_; intro v265 w10 ho11 hb hg_ hnew_; clear hg_ hnew_; (first | rw [← Ny264.out] at ho11 | (simp only [Int.reduceToNat] at ho11; rw [← Ny264.out] at ho11)); have n0_ := Aside0.mk (Kd.R_lower ho11 (below_size zB)); have n1_ := Aside0.mk (blk_below (g := gb263) (o := .cells #[.int .i64 a0_0, .slice A0_1 l0_1.length c0_1] 24 (0, 0)) (zk BK263) hb); have n2_ := Aside0.mk (below_step zB hb); clear BK263; clear HB; have HO266 := n0_; have BK263 := n1_; have HB := n2_; clear n0_ n1_ n2_; clear hb ho11; have hcz12_0 : w10.cell? ⟨gb263, 0, none⟩ = some (.int .i64 a0_0) := (blk_cell BK263.out 0).trans rfl; have hcz12_1 : w10.cell? ⟨gb263, 1, none⟩ = some (.slice A0_1 l0_1.length c0_1) := (blk_cell BK263.out 1).trans rfl; have hfz12_0 := blk_frozen BK263.out 0; have hfz12_1 := blk_frozen BK263.out 1; have p7 : 0 ≤ ((ji4) : Int) := of_decide_eq_true zh; have q7 : ((ji4) : Int) < ((y264.length : Int) : Int) := of_decide_eq_true zh; obtain ⟨go7, co7, eo7, gb7, gl7, cl7, HG7⟩ := Kd.R_form HO266.out (by omega); (first | cases eo7 | (injection eo7 with ea_ en_ ec_; (first | subst ea_ | (injection ea_ with ea_; subst ea_)); subst ec_; clear en_)); have GB7 := Aside0.mk gb7; have GG7 := Aside0.mk HG7; clear gb7 gl7 HG7; obtain ⟨hx7_0, hf7_0⟩ := Kd.R_celln 0 HO266.out ((ji4) : Int) p7 q7; replace p7 := eq_true p7; replace q7 := eq_true q7; obtain ⟨hy13_, hz13_⟩ := Kd.R_celln 0 HO266.out ((ji4) : Int) (of_decide_eq_true zh) (of_decide_eq_true zh); have HP13 := Kd.R_putg HO266.out ((ji4) : Int) 1) | ((with_reducible refine gate_store (t := 2) (p := 13) rfl ?_); refine store_event (t := 2) (p := 13) (v := ?vo_w14) (w1 := (w10.setCell ⟨go7, ((ji4) : Int).toNat, none⟩ (.int .i64 1))) ?hg ?ho ?hn ?hr ?_; (case ho => rfl); (case hg => rfl); (case hn => rfl); (case hr => first | (go_simp; done) | (go_simp; rfl)); intro w14 hw; have hg : w10.grownBy w14 (some go7) := (by rw [hw]; exact HP13.2); have hp_ : Kd.R (Kd.int .i64) 2 w14 w.heap.size (fun _ => True) (.slice (some ⟨go7, 0, none⟩) y264.length co7) y267 := (by rw [hw, Ny267.out]; exact HP13.1); clear HP13; have n0_ := Aside0.mk (blk_grown (g := gb263) (o := .cells #[.int .i64 a0_0, .slice A0_1 l0_1.length c0_1] 24 (0, 0)) (zk BK263) hg (Kd.R_ne HO266.out BK263.out (by decide))); have n1_ := Aside0.mk (hp_); have n2_ := Aside0.mk ((by rw [hw]; exact below_set (HB.out) GB7.out : Below w.heap.size w w14)); clear BK263; clear HO266; clear HB; have BK263 := n0_; have HO266 := n1_; have HB := n2_; clear n0_ n1_ n2_; clear hg hw hp_; have hcz15_0 : w14.cell? ⟨gb263, 0, none⟩ = some (.int .i64 a0_0) := (blk_cell BK263.out 0).trans rfl; have hcz15_1 : w14.cell? ⟨gb263, 1, none⟩ = some (.slice A0_1 l0_1.length c0_1) := (blk_cell BK263.out 1).trans rfl; have hfz15_0 := blk_frozen BK263.out 0; have hfz15_1 := blk_frozen BK263.out 1))
     go_loopg [4] k (fun kq v4 w' => ∃ (x3_1 : List Int) (x4_1 : Int), v4 = .int .i64 x4_1 ∧ Aside0 (ancepsref09_ways.l0 kq x3_1 x4_1 a0_0 l0_1 = some r) ∧ Aside0 (kq ≤ k) ∧ Aside0 (Kd.R (Kd.int .i64) 2 w' w.heap.size (fun _ => True) (.slice (some ⟨go7, 0, none⟩) y264.length co7) x3_1) ∧ Aside0 (w'.heap[gb263]? = some (.cells #[.int .i64 a0_0, (.slice A0_1 l0_1.length c0_1)] 24 (0, 0))) ∧ Aside0 (Below w.heap.size w w'))
     case atStart => exact ⟨(y267), (wrap64 (a0_0 - 2)), zT, H', ⟨Nat.le_refl _⟩, ⟨by (with_reducible repeat (first | apply Kd.R_alloc | apply Kd.R_drewN | apply Kd.R_drew)); exact HO266.out⟩, ⟨by (with_reducible repeat (first | refine blk_drewN ?_ _ | refine blk_drew ?_ | refine blk_alloc ?_ _)); exact BK263.out⟩, ⟨by repeat (first | (with_reducible first | exact HB.out | apply below_alloc | apply pw_below_drewN | apply below_drew1 | refine below_set ?_ GE263.out) | exact HB.out)⟩⟩
     case round =>
      clear H'
      try clear c2
      try clear c2b0
      try clear c2b1
      try clear c3
      try clear c3b0
      try clear c3b1
      try clear c5
      try clear c5b0
      try clear c6
      try clear c6b0
      try clear p7
      try clear q7
      try clear hcz12_0
      try clear hcz12_1
      try clear hcz15_0
      try clear hcz15_1
      try clear hcz9_0
      try clear hcz9_1
      try clear hfz12_0
      try clear hfz12_1
      try clear hfz15_0
      try clear hfz15_1
      try clear hfz9_0
      try clear hfz9_1
      try clear hx7_0
      try clear p7
      try clear q7
      obtain ⟨x3_1, x4_1, rfl, HA, HK1, HO_3, BK263, HB⟩ := hrel
      have hl3_1 := (Kd.R_reads' HO_3.out).1
      rw [hl3_1] at HO_3
      (try simp only [hl3_1])
      (try simp only [hl3_1] at BK263)
      cases gk with
      | zero => exact absurd HA.out (by simp [ancepsref09_ways.l0])
      | succ k1 =>
       have H := HA.out
       clear HA
       simp only [ancepsref09_ways.l0] at H
       by_cases c16 : x4_1 ≥ 0
       ·rw [if_pos c16] at H
        have c16b0 : decide (0 ≤ x4_1) = true := decide_eq_true c16
        clear c16
        have H' := Aside0.mk H
        clear H
        go_wp2
        go_loopg [5] k1 (fun kq v5 w' => ∃ (x3_2 : List Int) (x5_2 : Int), v5 = .int .i64 x5_2 ∧ Aside0 (ancepsref09_ways.l1 kq x3_2 x4_1 x5_2 a0_0 l0_1 = some r) ∧ Aside0 (kq ≤ k1) ∧ Aside0 (Kd.R (Kd.int .i64) 2 w' w.heap.size (fun _ => True) (.slice (some ⟨go7, 0, none⟩) x3_1.length co7) x3_2) ∧ Aside0 (w'.heap[gb263]? = some (.cells #[.int .i64 a0_0, (.slice A0_1 l0_1.length c0_1)] 24 (0, 0))) ∧ Aside0 (Below w.heap.size w w'))
        case atStart => exact ⟨(x3_1), (0), zT, H', ⟨Nat.le_refl _⟩, ⟨by (try simp only [hl3_1]); (with_reducible repeat (first | apply Kd.R_alloc | apply Kd.R_drewN | apply Kd.R_drew)); exact HO_3.out⟩, ⟨by (try simp only [hl3_1]); (with_reducible repeat (first | refine blk_drewN ?_ _ | refine blk_drew ?_ | refine blk_alloc ?_ _)); exact BK263.out⟩, ⟨by repeat (first | (with_reducible first | exact HB.out | apply below_alloc | apply pw_below_drewN | apply below_drew1 | refine below_set ?_ GE263.out) | exact HB.out)⟩⟩
        case round =>
         clear H'
         try clear c2
         try clear c2b0
         try clear c2b1
         try clear c3
         try clear c3b0
         try clear c3b1
         try clear c5
         try clear c5b0
         try clear c6
         try clear c6b0
         try clear p7
         try clear q7
         try clear c16
         try clear c16b0
         try clear hcz12_0
         try clear hcz12_1
         try clear hcz15_0
         try clear hcz15_1
         try clear hcz9_0
         try clear hcz9_1
         try clear hfz12_0
         try clear hfz12_1
         try clear hfz15_0
         try clear hfz15_1
         try clear hfz9_0
         try clear hfz9_1
         try clear hx7_0
         try clear p7
         try clear q7
         obtain ⟨x3_2, x5_2, rfl, HA, HK2, HO_3, BK263, HB⟩ := hrel
         have hl3_2 := (Kd.R_reads' HO_3.out).1
         rw [hl3_2] at HO_3
         (try simp only [hl3_2])
         (try simp only [hl3_2] at BK263)
         cases gk with
         | zero => exact absurd HA.out (by simp [ancepsref09_ways.l1])
         | succ k2 =>
          have H := HA.out
          clear HA
          simp only [ancepsref09_ways.l1] at H
          by_cases c17 : x5_2 < (l0_1.length : Int)
          ·rw [if_pos c17] at H
           have c17b0 : decide (x5_2 < (l0_1.length : Int)) = true := decide_eq_true c17
           clear c17
           by_cases c18 : 0 ≤ x5_2
           ·rw [if_pos c18] at H
            have c18b0 : decide (0 ≤ x5_2) = true := decide_eq_true c18
            clear c18
            by_cases c19 : ((rd_T69 l0_1 x5_2).f0) = x4_1
            ·rw [if_pos c19] at H
             have c19b0 : (((rd_T69 l0_1 x5_2).f0) == x4_1) = true := beq_iff_eq.mpr c19
             have c19b1 : (((rd_T69 l0_1 x5_2).f0) != x4_1) = false := bne_eq_false_iff_eq.mpr c19
             clear c19
             by_cases c20 : 0 ≤ x4_1
             ·rw [if_pos c20] at H
              have c20b0 : decide (0 ≤ x4_1) = true := decide_eq_true c20
              clear c20
              by_cases c21 : x4_1 < (x3_2.length : Int)
              ·rw [if_pos c21] at H
               have c21b0 : decide (x4_1 < (x3_2.length : Int)) = true := decide_eq_true c21
               clear c21
               by_cases c22 : 0 ≤ ((rd_T69 l0_1 x5_2).f1)
               ·rw [if_pos c22] at H
                have c22b0 : decide (0 ≤ ((rd_T69 l0_1 x5_2).f1)) = true := decide_eq_true c22
                clear c22
                by_cases c23 : ((rd_T69 l0_1 x5_2).f1) < (x3_2.length : Int)
                ·rw [if_pos c23] at H
                 have c23b0 : decide (((rd_T69 l0_1 x5_2).f1) < (x3_2.length : Int)) = true := decide_eq_true c23
                 clear c23
                 replace H := Option.bind_eq_some_iff.mp H
                 obtain ⟨t272, A240, H⟩ := H
                 replace H : (ancepsref09_ways.l1 k2 (x3_2.set (x4_1 : Int).toNat t272) x4_1 (wrap64 (x5_2 + 1)) a0_0 l0_1) = some r := H
                 have A24 := Aside0.mk A240
                 clear A240
                 obtain ⟨y273, hy273⟩ : ∃ y_ : List Int, y_ = (x3_2.set (x4_1 : Int).toNat t272) := ⟨_, rfl⟩
                 replace H : (ancepsref09_ways.l1 k2 y273 x4_1 (wrap64 (x5_2 + 1)) a0_0 l0_1) = some r := by first | (rw [hy273]; with_reducible exact H) | (have H2_ := (Option.bind_some _ _).symm.trans H; rw [hy273]; with_reducible exact H2_) | (have H2_ := (Option.bind_some _ _).symm.trans H; with_reducible exact H2_) | with_reducible exact H | (rw [hy273]; exact H) | exact H
                 have Ny273 := Aside0.mk hy273
                 clear hy273
                 have H' := Aside0.mk H
                 clear H
                 have hcz26_0 : wr.cell? ⟨gb263, 0, none⟩ = some (.int .i64 a0_0) := (blk_cell BK263.out 0).trans rfl
                 have hcz26_1 : wr.cell? ⟨gb263, 1, none⟩ = some (.slice A0_1 l0_1.length c0_1) := (blk_cell BK263.out 1).trans rfl
                 have hfz26_0 := blk_frozen BK263.out 0
                 have hfz26_1 := blk_frozen BK263.out 1
                 have p268 : 0 ≤ (x5_2 : Int) := of_decide_eq_true zh
                 have q268 : x5_2 < (l0_1.length : Int) := of_decide_eq_true zh
                 obtain ⟨ad268, e268, hx268_0, hx268_1, hx268_2⟩ := at_T69 HR0_1.out x5_2 p268 q268
                 cases e268
                 replace hx268_0 := (HB.out.cell (World.block_lt_of_cell? w _ hx268_0)).trans hx268_0
                 replace hx268_1 := (HB.out.cell (World.block_lt_of_cell? w _ hx268_1)).trans hx268_1
                 replace hx268_2 := (HB.out.cell (World.block_lt_of_cell? w _ hx268_2)).trans hx268_2
                 replace p268 := eq_true p268
                 replace q268 := eq_true q268
                 try go_wp2
                 have n0_ := Aside0.mk (Kd.R_drew HO_3.out)
                 have n1_ := Aside0.mk (blk_drew BK263.out)
                 have n2_ := Aside0.mk (below_drew1 HB.out)
                 clear HO_3
                 clear BK263
                 clear HB
                 have HO_3 := n0_
                 have BK263 := n1_
                 have HB := n2_
                 clear n0_ n1_ n2_
                 have p269 : 0 ≤ (x4_1 : Int) := of_decide_eq_true zh
                 have q269 : x4_1 < (x3_2.length : Int) := of_decide_eq_true zh
                 obtain ⟨ad269, e269, hx269_0⟩ := Kd.at_int (Kd.R_reads' HO_3.out).2.2 x4_1 p269 q269
                 obtain rfl : (⟨go7, 0, none⟩ : Addr) = ad269 := (by injection e269)
                 (first | simp only [add_plain] at hx269_0 | simp only [add_at] at hx269_0 | simp only [Addr.add, Nat.zero_add] at hx269_0 | skip)
                 replace p269 := eq_true p269
                 replace q269 := eq_true q269
                 have p270 : 0 ≤ (x5_2 : Int) := of_decide_eq_true zh
                 have q270 : x5_2 < (l0_1.length : Int) := of_decide_eq_true zh
                 obtain ⟨ad270, e270, hx270_0, hx270_1, hx270_2⟩ := at_T69 HR0_1.out x5_2 p270 q270
                 have hw270_2 := hx270_2
                 have hw270_1 := hx270_1
                 have hw270_0 := hx270_0
                 obtain rfl : ad268 = ad270 := (by injection e270)
                 replace hx270_0 := (HB.out.cell (World.block_lt_of_cell? w _ hx270_0)).trans hx270_0
                 replace hx270_1 := (HB.out.cell (World.block_lt_of_cell? w _ hx270_1)).trans hx270_1
                 replace hx270_2 := (HB.out.cell (World.block_lt_of_cell? w _ hx270_2)).trans hx270_2
                 replace p270 := eq_true p270
                 replace q270 := eq_true q270
                 have p271 : 0 ≤ (((rd_T69 l0_1 x5_2).f1) : Int) := of_decide_eq_true zh
                 have q271 : ((rd_T69 l0_1 x5_2).f1) < (x3_2.length : Int) := of_decide_eq_true zh
                 obtain ⟨ad271, e271, hx271_0⟩ := Kd.at_int (Kd.R_reads' HO_3.out).2.2 ((rd_T69 l0_1 x5_2).f1) p271 q271
                 obtain rfl : (⟨go7, 0, none⟩ : Addr) = ad271 := (by injection e271)
                 (first | simp only [add_plain] at hx271_0 | simp only [add_at] at hx271_0 | simp only [Addr.add, Nat.zero_add] at hx271_0 | skip)
                 replace p271 := eq_true p271
                 replace q271 := eq_true q271
                 refine start_ (n := 18) (S := fun w' => w'.cell? ⟨gb263, 0, none⟩ = some (.int .i64 a0_0) ∧ w'.cell? ⟨gb263, 1, none⟩ = some (.slice (some ad268) l0_1.length c0_1) ∧ w'.cell? ⟨go7, (x4_1).toNat, none⟩ = some (.int .i64 (rd x3_2 x4_1)) ∧ w'.cell? (ad268.add ((x5_2).toNat * 3)) = some (.int .i64 ((rd_T69 l0_1 x5_2).f0)) ∧ w'.cell? ⟨(ad268.add ((x5_2).toNat * 3)).block, (ad268.add ((x5_2).toNat * 3)).off + 1, none⟩ = some (.int .i64 ((rd_T69 l0_1 x5_2).f1)) ∧ w'.cell? ⟨(ad268.add ((x5_2).toNat * 3)).block, (ad268.add ((x5_2).toNat * 3)).off + 2, none⟩ = some (.int .i64 ((rd_T69 l0_1 x5_2).f2)) ∧ w'.cell? ⟨go7, (((rd_T69 l0_1 x5_2).f1)).toNat, none⟩ = some (.int .i64 (rd x3_2 ((rd_T69 l0_1 x5_2).f1)))) (ds := [17]) #[false, false, false, false, false, false, false, false, false, false, false, false, false, false, false, false, false, false] zK rfl rfl ⟨(blk_cell BK263.out 0).trans rfl, (blk_cell BK263.out 1).trans rfl, hx269_0, ((HB.out.cell (World.block_lt_of_cell? w _ hw270_0)).trans hw270_0), ((HB.out.cell (World.block_lt_of_cell? w _ hw270_1)).trans hw270_1), ((HB.out.cell (World.block_lt_of_cell? w _ hw270_2)).trans hw270_2), hx271_0⟩ (fun hHeld => ?_); refine with_tabW ancepsref09_ways.tab10 ancepsref09_ways.bits10 (fun HT_ HW_ => ?_)
                 generalize wr.drew = w27 at HO_3 BK263 HB hx269_0 hx270_0 hx270_1 hx270_2 hx271_0 hHeld ⊢
                 refine pure_ (i := 0) (N := some 36) (v := ?_) (a' := ?_) #[true, false, false, false, false, false, false, false, false, false, false, false, false, false, false, false, false, false] rfl rfl (any_of HT_.out zK) (fun _ _ _ h => h) (Or.inl ⟨by rfl, ?_⟩) ?_ ?_
                 rotate_left
                 ·intro w'
                  go_simp
                  with_reducible rfl
                 rotate_left
                 ·simp only [Act.put, List.setIfInBounds_toArray, List.set_cons_zero, List.set_cons_succ, i64_w, i32_w]
                  rfl
                 refine pure_ (i := 1) (N := some 37) (v := ?_) (a' := ?_) #[true, true, false, false, false, false, false, false, false, false, false, false, false, false, false, false, false, false] rfl rfl (any_of HT_.out zK) (fun _ _ _ h => h) (Or.inl ⟨by rfl, ?_⟩) ?_ ?_
                 rotate_left
                 ·intro w'
                  go_simp
                  with_reducible rfl
                 rotate_left
                 ·simp only [Act.put, List.setIfInBounds_toArray, List.set_cons_zero, List.set_cons_succ, i64_w, i32_w]
                  rfl
                 refine pure_ (i := 2) (N := some 38) (v := ?_) (a' := ?_) #[true, true, true, false, false, false, false, false, false, false, false, false, false, false, false, false, false, false] rfl rfl (any_of HT_.out zK) (fun _ _ _ h => h) (Or.inl ⟨by rfl, ?_⟩) ?_ ?_
                 rotate_left
                 ·intro w'
                  go_simp
                  with_reducible rfl
                 rotate_left
                 ·simp only [Act.put, List.setIfInBounds_toArray, List.set_cons_zero, List.set_cons_succ, i64_w, i32_w]
                  rfl
                 refine pure_ (i := 3) (N := some 39) (v := ?_) (a' := ?_) #[true, true, true, true, false, false, false, false, false, false, false, false, false, false, false, false, false, false] rfl rfl (any_of HT_.out zK) (fun _ _ _ h => h) (Or.inl ⟨by rfl, ?_⟩) ?_ ?_
                 rotate_left
                 ·intro w'
                  go_simp
                  with_reducible rfl
                 rotate_left
                 ·simp only [Act.put, List.setIfInBounds_toArray, List.set_cons_zero, List.set_cons_succ, i64_w, i32_w]
                  rfl
                 refine pure_ (i := 4) (N := some 40) (v := ?_) (a' := ?_) #[true, true, true, true, true, false, false, false, false, false, false, false, false, false, false, false, false, false] rfl rfl (any_of HT_.out zK) (fun _ _ _ h => h) (Or.inl ⟨by rfl, ?_⟩) ?_ ?_
                 rotate_left
                 ·intro w'
                  go_simp
                  with_reducible rfl
                 rotate_left
                 ·simp only [Act.put, List.setIfInBounds_toArray, List.set_cons_zero, List.set_cons_succ, i64_w, i32_w]
                  rfl
                 refine pure_ (i := 6) (N := some 42) (v := ?_) (a' := ?_) #[true, true, true, true, true, false, true, false, false, false, false, false, false, false, false, false, false, false] rfl rfl (any_of HT_.out zK) (fun _ _ _ h => h) (Or.inl ⟨by rfl, ?_⟩) ?_ ?_
                 rotate_left
                 ·intro w'
                  go_simp
                  with_reducible rfl
                 rotate_left
                 ·simp only [Act.put, List.setIfInBounds_toArray, List.set_cons_zero, List.set_cons_succ, i64_w, i32_w]
                  rfl
                 refine pure_ (i := 7) (N := some 43) (v := ?_) (a' := ?_) #[true, true, true, true, true, false, true, true, false, false, false, false, false, false, false, false, false, false] rfl rfl (any_of HT_.out zK) (fun _ _ _ h => h) (Or.inl ⟨by rfl, ?_⟩) ?_ ?_
                 rotate_left
                 ·intro w'
                  go_simp
                  with_reducible rfl
                 rotate_left
                 ·simp only [Act.put, List.setIfInBounds_toArray, List.set_cons_zero, List.set_cons_succ, i64_w, i32_w]
                  rfl
                 refine pure_ (i := 9) (N := some 45) (v := ?_) (a' := ?_) #[true, true, true, true, true, false, true, true, false, true, false, false, false, false, false, false, false, false] rfl rfl (any_of HT_.out zK) (fun _ _ _ h => h) (Or.inl ⟨by rfl, ?_⟩) ?_ ?_
                 rotate_left
                 ·intro w'
                  go_simp
                  with_reducible rfl
                 rotate_left
                 ·simp only [Act.put, List.setIfInBounds_toArray, List.set_cons_zero, List.set_cons_succ, i64_w, i32_w]
                  rfl
                 refine take_ (i := 5) (N := some 41) (v := ?_) (a' := ?_) #[true, true, true, true, true, true, true, true, false, true, false, false, false, false, false, false, false, false] rfl rfl (take_ofW HT_.out HW_.out zK) (fun _ _ _ h => h) (Or.inl ⟨by rfl, ?_⟩) hHeld ?_ ?_
                 rotate_left
                 ·rintro w' ⟨s0, s1, s2, s3, s4, s5, s6⟩
                  go_simp
                  with_reducible rfl
                 rotate_left
                 ·simp only [Act.put, List.setIfInBounds_toArray, List.set_cons_zero, List.set_cons_succ, i64_w, i32_w]
                  rfl
                 refine take_ (i := 8) (N := some 44) (v := ?_) (a' := ?_) #[true, true, true, true, true, true, true, true, true, true, false, false, false, false, false, false, false, false] rfl rfl (take_ofW HT_.out HW_.out zK) (fun _ _ _ h => h) (Or.inl ⟨by rfl, ?_⟩) hHeld ?_ ?_
                 rotate_left
                 ·rintro w' ⟨s0, s1, s2, s3, s4, s5, s6⟩
                  go_simp
                  with_reducible rfl
                 rotate_left
                 ·simp only [Act.put, List.setIfInBounds_toArray, List.set_cons_zero, List.set_cons_succ, i64_w, i32_w]
                  rfl
                 refine pure_ (i := 10) (N := some 46) (v := ?_) (a' := ?_) #[true, true, true, true, true, true, true, true, true, true, true, false, false, false, false, false, false, false] rfl rfl (any_of HT_.out zK) (fun _ _ _ h => h) (Or.inl ⟨by rfl, ?_⟩) ?_ ?_
                 rotate_left
                 ·intro w'
                  go_simp
                  with_reducible rfl
                 rotate_left
                 ·simp only [Act.put, List.setIfInBounds_toArray, List.set_cons_zero, List.set_cons_succ, i64_w, i32_w]
                  rfl
                 refine pure_ (i := 11) (N := some 47) (v := ?_) (a' := ?_) #[true, true, true, true, true, true, true, true, true, true, true, true, false, false, false, false, false, false] rfl rfl (any_of HT_.out zK) (fun _ _ _ h => h) (Or.inl ⟨by rfl, ?_⟩) ?_ ?_
                 rotate_left
                 ·intro w'
                  go_simp
                  with_reducible rfl
                 rotate_left
                 ·simp only [Act.put, List.setIfInBounds_toArray, List.set_cons_zero, List.set_cons_succ, i64_w, i32_w]
                  rfl
                 refine take_ (i := 12) (N := some 48) (v := ?_) (a' := ?_) #[true, true, true, true, true, true, true, true, true, true, true, true, true, false, false, false, false, false] rfl rfl (take_ofW HT_.out HW_.out zK) (fun _ _ _ h => h) (Or.inl ⟨by rfl, ?_⟩) hHeld ?_ ?_
                 rotate_left
                 ·rintro w' ⟨s0, s1, s2, s3, s4, s5, s6⟩
                  go_simp
                  with_reducible rfl
                 rotate_left
                 ·simp only [Act.put, List.setIfInBounds_toArray, List.set_cons_zero, List.set_cons_succ, i64_w, i32_w]
                  rfl
                 refine pure_ (i := 13) (N := some 49) (v := ?_) (a' := ?_) #[true, true, true, true, true, true, true, true, true, true, true, true, true, true, false, false, false, false] rfl rfl (any_of HT_.out zK) (fun _ _ _ h => h) (Or.inl ⟨by rfl, ?_⟩) ?_ ?_
                 rotate_left
                 ·intro w'
                  go_simp
                  with_reducible rfl
                 rotate_left
                 ·simp only [Act.put, List.setIfInBounds_toArray, List.set_cons_zero, List.set_cons_succ, i64_w, i32_w]
                  rfl
                 refine take_ (i := 14) (N := some 50) (v := ?_) (a' := ?_) #[true, true, true, true, true, true, true, true, true, true, true, true, true, true, true, false, false, false] rfl rfl (take_ofW HT_.out HW_.out zK) (fun _ _ _ h => h) (Or.inl ⟨by rfl, ?_⟩) hHeld ?_ ?_
                 rotate_left
                 ·rintro w' ⟨s0, s1, s2, s3, s4, s5, s6⟩
                  go_simp
                  with_reducible rfl
                 rotate_left
                 ·simp only [Act.put, List.setIfInBounds_toArray, List.set_cons_zero, List.set_cons_succ, i64_w, i32_w]
                  rfl
                 refine one_ (i := 15) (N := some 51) #[true, true, true, true, true, true, true, true, true, true, true, true, true, true, true, true, false, false] rfl rfl (one_of HT_.out zK) (by decide) (fun K hK => ?_)
                 refine goes_ Try.func82 zK rfl #[.int .i64 (rd x3_2 x4_1), .int .i64 (rd x3_2 ((rd_T69 l0_1 x5_2).f1))] (by rfl) rfl rfl zM ?_
                 with_reducible refine (ancepsref09_capped.calls (rd x3_2 x4_1) (rd x3_2 ((rd_T69 l0_1 x5_2).f1)) t272 _ A24.out).mono ?_
                 rintro e w' ⟨rfl, ⟨nd, rfl⟩⟩
                 refine ⟨_, rfl, ?_⟩
                 have p25 : 0 ≤ (x4_1 : Int) := of_decide_eq_true zh
                 have q25 : (x4_1 : Int) < ((x3_2.length : Int) : Int) := of_decide_eq_true zh
                 obtain ⟨hx25_0, hf25_0⟩ := Kd.R_celln 0 HO_3.out (x4_1 : Int) p25 q25
                 replace p25 := eq_true p25
                 replace q25 := eq_true q25
                 have HP28 := Kd.R_putn HO_3.out (x4_1 : Int) t272
                 rw [← Ny273.out] at HP28
                 have HQ28 := Aside0.mk HP28
                 clear HP28
                 refine hK.out _ _ ⟨(blk_cell BK263.out 0).trans rfl, (blk_cell BK263.out 1).trans rfl, hHeld.2.2.1, ((HB.out.cell (World.block_lt_of_cell? w _ hw270_0)).trans hw270_0), ((HB.out.cell (World.block_lt_of_cell? w _ hw270_1)).trans hw270_1), ((HB.out.cell (World.block_lt_of_cell? w _ hw270_2)).trans hw270_2), hHeld.2.2.2.2.2.2⟩ (fun hHeld => ?_)
                 clear hK K
                 refine norm_ (a' := ?_) ?_ ?_
                 rotate_left
                 ·show Act.put _ (some 51) _ = _
                  simp only [Act.put, List.setIfInBounds_toArray, List.set_cons_zero, List.set_cons_succ, i64_w, i32_w]
                  rfl
                 refine pure_ (i := 16) (N := some 52) (v := ?_) (a' := ?_) #[true, true, true, true, true, true, true, true, true, true, true, true, true, true, true, true, true, false] rfl rfl (any_of HT_.out zK) (fun _ _ _ h => h) (Or.inl ⟨by rfl, ?_⟩) ?_ ?_
                 rotate_left
                 ·intro w'
                  go_simp
                  with_reducible rfl
                 rotate_left
                 ·simp only [Act.put, List.setIfInBounds_toArray, List.set_cons_zero, List.set_cons_succ, i64_w, i32_w]
                  rfl
                 refine last_ (i := 17) (N := none) #[true, true, true, true, true, true, true, true, true, true, true, true, true, true, true, true, true, true] rfl rfl (one_of HT_.out zK) (by decide) (fun K hK => ?_)
                 refine skip_ (w1 := ?_) (by rfl) rfl ?_ ?_
                 rotate_left
                 ·go_simp
                  rfl
                 refine hK.out _ _ ?_
                 clear hK K
                 refine done_ (done_of HT_.out zK) ?_
                 try go_wp2
                 (try simp only [← hl3_2])
                 go_roundg k2
                 case measure => have := HK1.out; have := HK2.out; omega
                 case rel => exact ⟨(y273), (wrap64 (x5_2 + 1)), zT, H', ⟨by have := HK1.out; have := HK2.out; omega⟩, ⟨by (try simp only [hl3_1]); (try simp only [hl3_2]); (with_reducible repeat (first | apply Kd.R_alloc | apply Kd.R_drewN | apply Kd.R_drew)); exact HQ28.out⟩, ⟨by (try simp only [hl3_1]); (try simp only [hl3_2]); (with_reducible repeat (first | refine blk_drewN ?_ _ | refine blk_drew ?_ | refine blk_alloc ?_ _)); refine blk_far ?_ (by have h_ := Kd.R_ne HO_3.out BK263.out (by decide); intro e_; exact h_ (by rw [e_]; rfl)) _; (with_reducible repeat (first | refine blk_drewN ?_ _ | refine blk_drew ?_ | refine blk_alloc ?_ _)); exact BK263.out⟩, ⟨by repeat (first | (with_reducible first | exact HB.out | apply below_alloc | apply pw_below_drewN | apply below_drew1 | refine below_set ?_ GB7.out | refine below_set ?_ GE263.out) | exact HB.out)⟩⟩
                ·rw [if_neg c23] at H
                 exact absurd H (by simp)
               ·rw [if_neg c22] at H
                exact absurd H (by simp)
              ·rw [if_neg c21] at H
               exact absurd H (by simp)
             ·rw [if_neg c20] at H
              exact absurd H (by simp)
            ·rw [if_neg c19] at H
             have c19b0 : (((rd_T69 l0_1 x5_2).f0) == x4_1) = false := beq_eq_false_iff_ne.mpr c19
             have c19b1 : (((rd_T69 l0_1 x5_2).f0) != x4_1) = true := bne_iff_ne.mpr c19
             have H' := Aside0.mk H
             clear H
             have hcz29_0 : wr.cell? ⟨gb263, 0, none⟩ = some (.int .i64 a0_0) := (blk_cell BK263.out 0).trans rfl
             have hcz29_1 : wr.cell? ⟨gb263, 1, none⟩ = some (.slice A0_1 l0_1.length c0_1) := (blk_cell BK263.out 1).trans rfl
             have hfz29_0 := blk_frozen BK263.out 0
             have hfz29_1 := blk_frozen BK263.out 1
             have p268 : 0 ≤ (x5_2 : Int) := of_decide_eq_true zh
             have q268 : x5_2 < (l0_1.length : Int) := of_decide_eq_true zh
             obtain ⟨ad268, e268, hx268_0, hx268_1, hx268_2⟩ := at_T69 HR0_1.out x5_2 p268 q268
             cases e268
             replace hx268_0 := (HB.out.cell (World.block_lt_of_cell? w _ hx268_0)).trans hx268_0
             replace hx268_1 := (HB.out.cell (World.block_lt_of_cell? w _ hx268_1)).trans hx268_1
             replace hx268_2 := (HB.out.cell (World.block_lt_of_cell? w _ hx268_2)).trans hx268_2
             replace p268 := eq_true p268
             replace q268 := eq_true q268
             go_wp2
             (try simp only [← hl3_2])
             go_roundg k2
             case measure => have := HK1.out; have := HK2.out; omega
             case rel => exact ⟨(x3_2), (wrap64 (x5_2 + 1)), zT, H', ⟨by have := HK1.out; have := HK2.out; omega⟩, ⟨by (try simp only [hl3_1]); (try simp only [hl3_2]); (with_reducible repeat (first | apply Kd.R_alloc | apply Kd.R_drewN | apply Kd.R_drew)); exact HO_3.out⟩, ⟨by (try simp only [hl3_1]); (try simp only [hl3_2]); (with_reducible repeat (first | refine blk_drewN ?_ _ | refine blk_drew ?_ | refine blk_alloc ?_ _)); exact BK263.out⟩, ⟨by repeat (first | (with_reducible first | exact HB.out | apply below_alloc | apply pw_below_drewN | apply below_drew1 | refine below_set ?_ GE263.out) | exact HB.out)⟩⟩
           ·rw [if_neg c18] at H
            exact absurd H (by simp)
          ·rw [if_neg c17] at H
           have c17b0 : decide (x5_2 < (l0_1.length : Int)) = false := decide_eq_false c17
           clear c17
           have H' := Aside0.mk H
           clear H
           have hcz30_0 : wr.cell? ⟨gb263, 0, none⟩ = some (.int .i64 a0_0) := (blk_cell BK263.out 0).trans rfl
           have hcz30_1 : wr.cell? ⟨gb263, 1, none⟩ = some (.slice A0_1 l0_1.length c0_1) := (blk_cell BK263.out 1).trans rfl
           have hfz30_0 := blk_frozen BK263.out 0
           have hfz30_1 := blk_frozen BK263.out 1
           go_wp2
           (try simp only [← hl3_1, ← hl3_2])
           go_roundg k2
           case measure => have := HK1.out; have := HK2.out; omega
           case rel => exact ⟨(x3_2), (wrap64 (x4_1 - 1)), zT, H', ⟨by have := HK1.out; have := HK2.out; omega⟩, ⟨by (try simp only [hl3_1]); (try simp only [hl3_2]); (with_reducible repeat (first | apply Kd.R_alloc | apply Kd.R_drewN | apply Kd.R_drew)); exact HO_3.out⟩, ⟨by (try simp only [hl3_1]); (try simp only [hl3_2]); (with_reducible repeat (first | refine blk_drewN ?_ _ | refine blk_drew ?_ | refine blk_alloc ?_ _)); exact BK263.out⟩, ⟨by repeat (first | (with_reducible first | exact HB.out | apply below_alloc | apply pw_below_drewN | apply below_drew1 | refine below_set ?_ GE263.out) | exact HB.out)⟩⟩
       ·rw [if_neg c16] at H
        have c16b0 : decide (0 ≤ x4_1) = false := decide_eq_false c16
        clear c16
        obtain rfl := Option.some.inj H
        go_wp2
        go_ret
        exact ⟨_, by first | rfl | (simp [errW_none, errW_some] <;> rfl) | (simp only [← hji4]; first | rfl | (simp [errW_none, errW_some] <;> rfl)) | (simp [*, errW_none, errW_some] <;> rfl), by (with_reducible repeat (first | apply Kd.R_alloc | apply Kd.R_drewN | apply Kd.R_drew)); exact HO_3.out, by repeat (first | (with_reducible first | exact HB.out | apply below_alloc | apply pw_below_drewN | apply below_drew1 | refine below_set ?_ GE263.out) | exact HB.out)⟩
    ·rw [if_neg c6] at H
     exact absurd H (by simp)
   ·rw [if_neg c5] at H
    exact absurd H (by simp)
  ·rw [if_neg c3] at H
   exact absurd H (by simp)
 ·rw [if_neg c2] at H
  exact absurd H (by simp)
/-! ### ancepsref09_from: function 61 -/
mutual
def ancepsref09_from.l0 : Nat → List Int → Int → List (List Int) → Int → Int → List (S69) → Option ((List (List Int)))
 | 0, _, _, _, _, _, _ => none
 | k + 1, x1, x2, x7, x8, x275000, x275001 => if x8 < (x275001.length : Int) then (if 0 ≤ x8 then (if ((rd_T69 x275001 x8).f0) = x2 then (if 0 ≤ ((rd_T69 x275001 x8).f1) then (if ((rd_T69 x275001 x8).f1) < (x1.length : Int) then (ancepsref09_from.j1 k x1 x2 x7 x8 ((rd x1 ((rd_T69 x275001 x8).f1)) == 0) x275000 x275001) else (none)) else (none)) else (ancepsref09_from.j1 k x1 x2 x7 x8 true x275000 x275001)) else (none)) else (some x7)
def ancepsref09_from.j1 : Nat → List Int → Int → List (List Int) → Int → Bool → Int → List (S69) → Option ((List (List Int)))
 | 0, _, _, _, _, _, _, _ => none
 | k + 1, x1, x2, x7, x8, x44, x275000, x275001 => if x44 = true then (ancepsref09_from.l0 k x1 x2 x7 (wrap64 (x8 + 1)) x275000 x275001) else (if 0 ≤ x8 then (if x8 < (x275001.length : Int) then ((ancepsref09_from.f k x275000 x275001 x1 ((rd_T69 x275001 x8).f1)).bind fun t285 => (ancepsref09_from.l1 k x1 x2 x7 x8 t285 0 x275000 x275001)) else (none)) else (none))
def ancepsref09_from.l1 : Nat → List Int → Int → List (List Int) → Int → List (List Int) → Int → Int → List (S69) → Option ((List (List Int)))
 | 0, _, _, _, _, _, _, _, _ => none
 | k + 1, x1, x2, x7, x8, x9, x10, x275000, x275001 => if x10 < (x9.length : Int) then ((some (([x8] : List Int) : List Int)).bind fun y288 => (if 0 ≤ x10 then (if y288.length + (rd_L2 x9 x10).length < 17592186044416 then (if x7.length < 5864062014805 then (ancepsref09_from.l1 k x1 x2 (x7 ++ [(y288 ++ (rd_L2 x9 x10))]) x8 x9 (wrap64 (x10 + 1)) x275000 x275001) else (none)) else (none)) else (none))) else (ancepsref09_from.l0 k x1 x2 x7 (wrap64 (x8 + 1)) x275000 x275001)
def ancepsref09_from.f : Nat → Int → List (S69) → List Int → Int → Option ((List (List Int)))
 | 0, _, _, _, _ => none
 | k + 1, a0_0, l0_1, l1, a2 => if a2 = (wrap64 (a0_0 - 1)) then (some (([(([] : List Int))] : List (List Int)))) else (ancepsref09_from.l0 k l1 a2 ([] : List (List Int)) 0 a0_0 l0_1)
end
theorem ancepsref09_from.mono_l : ∀ k, (∀ y0 y1 y2 y3, LeO (ancepsref09_from.f k y0 y1 y2 y3) (ancepsref09_from.f (k + 1) y0 y1 y2 y3)) ∧ (∀ y0 y1 y2 y3 y4 y5, LeO (ancepsref09_from.l0 k y0 y1 y2 y3 y4 y5) (ancepsref09_from.l0 (k + 1) y0 y1 y2 y3 y4 y5)) ∧ (∀ y0 y1 y2 y3 y4 y5 y6, LeO (ancepsref09_from.j1 k y0 y1 y2 y3 y4 y5 y6) (ancepsref09_from.j1 (k + 1) y0 y1 y2 y3 y4 y5 y6)) ∧ (∀ y0 y1 y2 y3 y4 y5 y6 y7, LeO (ancepsref09_from.l1 k y0 y1 y2 y3 y4 y5 y6 y7) (ancepsref09_from.l1 (k + 1) y0 y1 y2 y3 y4 y5 y6 y7))
 | 0 => ⟨fun _ _ _ _ r h => by simp [ancepsref09_from.f] at h, fun _ _ _ _ _ _ r h => by simp [ancepsref09_from.l0] at h, fun _ _ _ _ _ _ _ r h => by simp [ancepsref09_from.j1] at h, fun _ _ _ _ _ _ _ _ r h => by simp [ancepsref09_from.l1] at h⟩
 | k + 1 => by
  obtain ⟨ih0, ih1, ih2, ih3⟩ := ancepsref09_from.mono_l k
  refine ⟨?_, ?_, ?_, ?_⟩
  ·intro y0 y1 y2 y3
   unfold ancepsref09_from.f
   repeat' first
   | (with_reducible exact ih0 _ _ _ _)
   | (with_reducible exact ih1 _ _ _ _ _ _)
   | (with_reducible exact ih2 _ _ _ _ _ _ _)
   | (with_reducible exact ih3 _ _ _ _ _ _ _ _)
   | (with_reducible exact LeO.refl _)
   | (with_reducible exact LeO.none _)
   | (with_reducible refine LeO.ite ?_ ?_)
   | (with_reducible refine LeO.bind ?_ (fun _ => ?_))
   | exact ih0 _ _ _ _
   | exact ih1 _ _ _ _ _ _
   | exact ih2 _ _ _ _ _ _ _
   | exact ih3 _ _ _ _ _ _ _ _
   | exact LeO.none _
   | refine LeO.ite ?_ ?_
   | refine LeO.bind ?_ (fun _ => ?_)
  ·intro y0 y1 y2 y3 y4 y5
   unfold ancepsref09_from.l0
   repeat' first
   | (with_reducible exact ih0 _ _ _ _)
   | (with_reducible exact ih1 _ _ _ _ _ _)
   | (with_reducible exact ih2 _ _ _ _ _ _ _)
   | (with_reducible exact ih3 _ _ _ _ _ _ _ _)
   | (with_reducible exact LeO.refl _)
   | (with_reducible exact LeO.none _)
   | (with_reducible refine LeO.ite ?_ ?_)
   | (with_reducible refine LeO.bind ?_ (fun _ => ?_))
   | exact ih0 _ _ _ _
   | exact ih1 _ _ _ _ _ _
   | exact ih2 _ _ _ _ _ _ _
   | exact ih3 _ _ _ _ _ _ _ _
   | exact LeO.none _
   | refine LeO.ite ?_ ?_
   | refine LeO.bind ?_ (fun _ => ?_)
  ·intro y0 y1 y2 y3 y4 y5 y6
   unfold ancepsref09_from.j1
   repeat' first
   | (with_reducible exact ih0 _ _ _ _)
   | (with_reducible exact ih1 _ _ _ _ _ _)
   | (with_reducible exact ih2 _ _ _ _ _ _ _)
   | (with_reducible exact ih3 _ _ _ _ _ _ _ _)
   | (with_reducible exact LeO.refl _)
   | (with_reducible exact LeO.none _)
   | (with_reducible refine LeO.ite ?_ ?_)
   | (with_reducible refine LeO.bind ?_ (fun _ => ?_))
   | exact ih0 _ _ _ _
   | exact ih1 _ _ _ _ _ _
   | exact ih2 _ _ _ _ _ _ _
   | exact ih3 _ _ _ _ _ _ _ _
   | exact LeO.none _
   | refine LeO.ite ?_ ?_
   | refine LeO.bind ?_ (fun _ => ?_)
  ·intro y0 y1 y2 y3 y4 y5 y6 y7
   unfold ancepsref09_from.l1
   repeat' first
   | (with_reducible exact ih0 _ _ _ _)
   | (with_reducible exact ih1 _ _ _ _ _ _)
   | (with_reducible exact ih2 _ _ _ _ _ _ _)
   | (with_reducible exact ih3 _ _ _ _ _ _ _ _)
   | (with_reducible exact LeO.refl _)
   | (with_reducible exact LeO.none _)
   | (with_reducible refine LeO.ite ?_ ?_)
   | (with_reducible refine LeO.bind ?_ (fun _ => ?_))
   | exact ih0 _ _ _ _
   | exact ih1 _ _ _ _ _ _
   | exact ih2 _ _ _ _ _ _ _
   | exact ih3 _ _ _ _ _ _ _ _
   | exact LeO.none _
   | refine LeO.ite ?_ ?_
   | refine LeO.bind ?_ (fun _ => ?_)
theorem ancepsref09_from.mono : ∀ a0 a1 a2 a3 k, LeO (ancepsref09_from.f k a0 a1 a2 a3) (ancepsref09_from.f (k + 1) a0 a1 a2 a3) := by
 intro a0 a1 a2 a3 k
 obtain ⟨ih0, ih1, ih2, ih3⟩ := ancepsref09_from.mono_l k
 exact ih0 a0 a1 a2 a3
def ancepsref09_from.T8 : Bool × List (List Nat × List Nat) := (true, [([], []), ([], []), ([], []), ([2], [2]), ([], []), ([3, 4], [3, 4]), ([5], [5]), ([6], [6]), ([0, 1, 7], [0, 1, 7]), ([8, 8, 0, 1, 2, 3, 4, 5, 6, 7, 8], [8])])
def ancepsref09_from.B8 : List Nat := [0, 0, 0, 4, 0, 28, 60, 124, 255, 511]
theorem ancepsref09_from.tab8 : rtab .any (opsOf Try.f61 8) = ancepsref09_from.T8 := by kernel_rfl
theorem ancepsref09_from.bits8 : waitsOk ancepsref09_from.T8.2 ancepsref09_from.B8 = true := by kernel_rfl
set_option maxHeartbeats 8000000 in
set_option maxRecDepth 100000 in
theorem ancepsref09_from.calls (k : Nat) : ∀ (a0_0 : Int) (A0_1 : Option Addr) (c0_1 : Nat) (l0_1 : List (S69)) (A1 : Option Addr) (c1 : Nat) (l1 : List Int) (a2 : Int) (r : List (List Int)) (w : World) (hr0_1 : Kd.C k69 w A0_1 l0_1.length l0_1) (hc0_1 : l0_1.length ≤ c0_1) (hr1 : Kd.C (Kd.int .i64) w A1 l1.length l1) (hc1 : l1.length ≤ c1) (h : ancepsref09_from.f k a0_0 l0_1 l1 a2 = some r),
  Calls Try.prog 61 #[.agg #[.int .i64 a0_0, .slice A0_1 l0_1.length c0_1], .slice A1 l1.length c1, .int .i64 a2] w fun e w' => ∃ v0_ : Value, e = .returned (v0_) ∧ Kd.N (Kd.slice 3 (Kd.int .i64)) 25 w' w.heap.size (fun k_ => (w.heap.size ≤ k_)) v0_ r ∧ Below w.heap.size w w' := by
 induction k using Nat.strongRecOn with
 | _ k ih =>
 intro a0_0 A0_1 c0_1 l0_1 A1 c1 l1 a2 r w hr0_1 hc0_1 hr1 hc1 h
 cases k with
 | zero => exact absurd h (by simp [ancepsref09_from.f])
 | succ k =>
 simp only [ancepsref09_from.f] at h
 have hu24 := Try.underlying24
 have hu3 := Try.underlying3
 have hu22 := Try.underlying22
 have hu2 := Try.underlying2
 have hu25 := Try.underlying25
 have HR0_1 := Aside0.mk hr0_1
 have HC0_1 := Aside0.mk hc0_1
 clear hr0_1 hc0_1
 have HR1 := Aside0.mk hr1
 have HC1 := Aside0.mk hc1
 clear hr1 hc1
 have HB := Aside0.mk (Below.refl w.heap.size w)
 have H : (if a2 = (wrap64 (a0_0 - 1)) then (some (([(([] : List Int))] : List (List Int)))) else (ancepsref09_from.l0 k l1 a2 ([] : List (List Int)) 0 a0_0 l0_1)) = some r := h
 clear h
 have HC4 := Aside0.mk H
 clear H
 go_enter Try.func61, Try.ntmps61
 go_upto_if 15 with (first | ((with_reducible refine gate_dst (N := 3) rfl ?_); refine box_event ?hg (N := 3) ?hd (cs := #[.int .i64 a0_0, .slice A0_1 l0_1.length c0_1]) (t := 24) ?hr ?_; (case hd => rfl); (case hg => rfl); (case hr => first | (go_simp; done) | (go_simp; rfl)); intro gb274 hg w5 hbox hb; have n0_ := Aside0.mk (below_step zB hb); have n1_ := Aside0.mk (hbox); have n2_ := Aside0.mk ((by rw [hg]; exact (below_size zB) : w.heap.size ≤ gb274)); have n3_ := Aside0.mk ((by rw [hg]; exact (below_size zB) : w.heap.size ≤ gb274)); clear HB; have HB := n0_; have BK274 := n1_; have GW274 := n2_; have GE274 := n3_; clear n0_ n1_ n2_ n3_; clear hb hbox hg; have hcz6_0 : w5.cell? ⟨gb274, 0, none⟩ = some (.int .i64 a0_0) := (blk_cell BK274.out 0).trans rfl; have hcz6_1 : w5.cell? ⟨gb274, 1, none⟩ = some (.slice A0_1 l0_1.length c0_1) := (blk_cell BK274.out 1).trans rfl; have hfz6_0 := blk_frozen BK274.out 0; have hfz6_1 := blk_frozen BK274.out 1))
 (try simp only [Act.put, List.setIfInBounds_toArray, List.set_cons_zero, List.set_cons_succ])
 have H := HC4.out
 clear HC4
 by_cases c7 : a2 = (wrap64 (a0_0 - 1))
 ·rw [if_pos c7] at H
  have c7b0 : (a2 == (wrap64 (a0_0 - 1))) = true := beq_iff_eq.mpr c7
  have c7b1 : (a2 != (wrap64 (a0_0 - 1))) = false := bne_eq_false_iff_eq.mpr c7
  clear c7
  (first | rw [c7b0] | (simp only [i64_w, i32_w]; rw [c7b0]) | skip)
  (try rw [c7b1])
  obtain ⟨y275, hy275⟩ : ∃ y_ : List Int, y_ = (([] : List Int)) := ⟨_, rfl⟩
  replace H : (some (([y275] : List (List Int)))) = some r := by first | (rw [hy275]; with_reducible exact H) | (have H2_ := (Option.bind_some _ _).symm.trans H; rw [hy275]; with_reducible exact H2_) | (have H2_ := (Option.bind_some _ _).symm.trans H; with_reducible exact H2_) | with_reducible exact H | (rw [hy275]; exact H) | exact H
  have Ny275 := Aside0.mk hy275
  clear hy275
  obtain ⟨y278, hy278⟩ : ∃ y_ : List (List Int), y_ = (([y275] : List (List Int))) := ⟨_, rfl⟩
  replace H : (some y278) = some r := by first | (rw [hy278]; with_reducible exact H) | (have H2_ := (Option.bind_some _ _).symm.trans H; rw [hy278]; with_reducible exact H2_) | (have H2_ := (Option.bind_some _ _).symm.trans H; with_reducible exact H2_) | with_reducible exact H | (rw [hy278]; exact H) | exact H
  have Ny278 := Aside0.mk hy278
  clear hy278
  obtain rfl := Option.some.inj H
  go_wp2_with (first | ((with_reducible refine gate_dst (N := 16) rfl ?_); refine Kd.R_lit (Kd.int .i64) _ 3 ?hg (N := 16) ?hd (xs := ([] : List Int)) (inner := []) (ok := fun _ => True) (okp := fun _ => True) ?hr ?hp (fun _ hk => hk) trivial (Below.refl _ _) (Nat.le_refl _) (by simp) ?_; (case hd => rfl); (case hg => rfl); (case hr => first | (go_simp; done) | (go_simp; rfl)); (case hp => exact (Reps.none _ _)); intro v276 w8 ho9 hb hg_ hnew_; clear hg_ hnew_; (first | rw [← Ny275.out] at ho9 | (simp only [Int.reduceToNat] at ho9; rw [← Ny275.out] at ho9)); have n0_ := Aside0.mk (Kd.R_lower (Kd.R_newM (M := fun k_ => (w.heap.size ≤ k_)) ho9 (below_size zB) (fun k_ h_ => h_)) (below_size zB)); have n1_ := Aside0.mk (blk_below (g := gb274) (o := .cells #[.int .i64 a0_0, .slice A0_1 l0_1.length c0_1] 24 (0, 0)) (zk BK274) hb); have n2_ := Aside0.mk (below_step zB hb); clear BK274; clear HB; have HO277 := n0_; have BK274 := n1_; have HB := n2_; clear n0_ n1_ n2_; clear hb ho9; obtain ⟨Ao10, co10, eo10⟩ := Kd.R_slice HO277.out; subst eo10) | ((with_reducible refine gate_dst (N := 17) rfl ?_); refine Kd.N_lit (Kd.slice 3 (Kd.int .i64)) _ 25 ?hg (N' := 17) ?hd (xs := ([y275] : List (List Int))) (inner := [.slice Ao10 y275.length co10]) (ok := (fun k_ => (w.heap.size ≤ k_) ∧ k_ ≠ gb274)) (okp := (fun k_ => (w.heap.size ≤ k_) ∧ k_ ≠ gb274)) ?hr ?hp (fun _ hk => hk) ((show ∀ k_, w8.heap.size ≤ k_ → (fun k_ => (w.heap.size ≤ k_) ∧ k_ ≠ gb274) k_ from fun k_ hk => ⟨(Nat.le_trans (below_size zB) hk), Kd.freshB (g := gb274) (o := .cells #[.int .i64 a0_0, .slice A0_1 l0_1.length c0_1] 24 (0, 0)) (zk BK274) k_ hk⟩) _ (Nat.le_refl _)) (Below.refl _ _) (Nat.le_refl _) (by simp) ?_; (case hd => rfl); (case hg => rfl); (case hr => first | (go_simp; done) | (go_simp; rfl)); (case hp => exact (Reps.one (show Kd.FK (Kd.slice 3 (Kd.int .i64)) _ _ y275 [.slice Ao10 y275.length co10] from (Kd.FK_slice_mk (Kd.R_reads' (Kd.R_mono (ok' := (fun k_ => (w.heap.size ≤ k_) ∧ k_ ≠ gb274)) (Kd.R_types (HO277.out) BK274.out (by decide)) (fun k_ hk => ⟨hk.1.1, hk.2⟩))).2.1 (Kd.R_F (Kd.R_mono (ok' := (fun k_ => (w.heap.size ≤ k_) ∧ k_ ≠ gb274)) (Kd.R_types (HO277.out) BK274.out (by decide)) (fun k_ hk => ⟨hk.1.1, hk.2⟩))))) (Reps.none _ _))); intro v279 w11 ho12 hb hg_ hnew_; clear hg_ hnew_; (first | rw [← Ny278.out] at ho12 | (simp only [Int.reduceToNat] at ho12; rw [← Ny278.out] at ho12)); have n0_ := Aside0.mk (Kd.N_lower ho12 (below_size zB)); have n1_ := Aside0.mk (blk_below (g := gb274) (o := .cells #[.int .i64 a0_0, .slice A0_1 l0_1.length c0_1] 24 (0, 0)) (zk BK274) hb); have n2_ := Aside0.mk (below_step zB hb); clear BK274; clear HB; clear HO277; have HO280 := n0_; have BK274 := n1_; have HB := n2_; clear n0_ n1_ n2_; clear hb ho12))
  go_ret
  exact ⟨_, by first | rfl | (simp [errW_none, errW_some] <;> rfl) | (simp [*, errW_none, errW_some] <;> rfl), by (with_reducible repeat (first | apply Kd.N_alloc | apply Kd.N_drewN | apply Kd.N_drew)); exact Kd.N_mono HO280.out (fun _ hk => hk.1), by repeat (first | (with_reducible first | exact HB.out | apply below_alloc | apply pw_below_drewN | apply below_drew1 | refine below_set ?_ GE274.out) | exact HB.out)⟩
 ·rw [if_neg c7] at H
  have c7b0 : (a2 == (wrap64 (a0_0 - 1))) = false := beq_eq_false_iff_ne.mpr c7
  have c7b1 : (a2 != (wrap64 (a0_0 - 1))) = true := bne_iff_ne.mpr c7
  (first | rw [c7b0] | (simp only [i64_w, i32_w]; rw [c7b0]) | skip)
  (try rw [c7b1])
  have H' := Aside0.mk H
  clear H
  go_wp2
  go_loopg [7, 8] k (fun kq v7 v8 w' => ∃ (x7_1 : List (List Int)) (x8_1 : Int), v8 = .int .i64 x8_1 ∧ Aside0 (ancepsref09_from.l0 kq l1 a2 x7_1 x8_1 a0_0 l0_1 = some r) ∧ Aside0 (kq ≤ k) ∧ Aside0 (Kd.N (Kd.slice 3 (Kd.int .i64)) 25 w' w.heap.size (fun k_ => (w.heap.size ≤ k_) ∧ k_ ≠ gb274) v7 x7_1) ∧ Aside0 (w'.heap[gb274]? = some (.cells #[.int .i64 a0_0, (.slice A0_1 l0_1.length c0_1)] 24 (0, 0))) ∧ Aside0 (Below w.heap.size w w'))
  case atStart => exact ⟨(([] : List (List Int))), (0), zT, H', ⟨Nat.le_refl _⟩, ⟨by first | exact Kd.S_nil _ _ _ _ _ | exact Kd.N_nil _ _ _ _ _ | exact Kd.V_nil _ _ _ _ _ | exact Kd.Q_nil _ _ _ _ _ | exact Kd.R_nil _ _ _ _ _⟩, ⟨by (with_reducible repeat (first | refine blk_drewN ?_ _ | refine blk_drew ?_ | refine blk_alloc ?_ _)); exact BK274.out⟩, ⟨by repeat (first | (with_reducible first | exact HB.out | apply below_alloc | apply pw_below_drewN | apply below_drew1 | refine below_set ?_ GE274.out) | exact HB.out)⟩⟩
  case round =>
   clear H'
   try clear c7
   try clear c7b0
   try clear c7b1
   try clear hcz6_0
   try clear hcz6_1
   try clear hfz6_0
   try clear hfz6_1
   obtain ⟨x7_1, x8_1, rfl, HA, HK1, HO_7, BK274, HB⟩ := hrel
   cases gk with
   | zero => exact absurd HA.out (by simp [ancepsref09_from.l0])
   | succ k1 =>
    have H := HA.out
    clear HA
    simp only [ancepsref09_from.l0] at H
    by_cases c13 : x8_1 < (l0_1.length : Int)
    ·rw [if_pos c13] at H
     have c13b0 : decide (x8_1 < (l0_1.length : Int)) = true := decide_eq_true c13
     clear c13
     have HC14 := Aside0.mk H
     clear H
     have hcz15_0 : wr.cell? ⟨gb274, 0, none⟩ = some (.int .i64 a0_0) := (blk_cell BK274.out 0).trans rfl
     have hcz15_1 : wr.cell? ⟨gb274, 1, none⟩ = some (.slice A0_1 l0_1.length c0_1) := (blk_cell BK274.out 1).trans rfl
     have hfz15_0 := blk_frozen BK274.out 0
     have hfz15_1 := blk_frozen BK274.out 1
     go_upto_region 7 with (fail)
     go_cut [44] (fun v44 wc => ∃ (kq : Nat) (x44_13 : Bool), v44 = .bool x44_13 ∧ Aside0 (ancepsref09_from.j1 kq l1 a2 x7_1 x8_1 x44_13 a0_0 l0_1 = some r) ∧ Aside0 (kq ≤ k1) ∧ Aside0 (Kd.N (Kd.slice 3 (Kd.int .i64)) 25 wc w.heap.size (fun k_ => (w.heap.size ≤ k_) ∧ k_ ≠ gb274) u7 x7_1) ∧ Aside0 (wc.heap[gb274]? = some (.cells #[.int .i64 a0_0, (.slice A0_1 l0_1.length c0_1)] 24 (0, 0))) ∧ Aside0 (Below w.heap.size w wc))
     case first =>
      have H := HC14.out
      clear HC14
      by_cases c16 : 0 ≤ x8_1
      ·rw [if_pos c16] at H
       have c16b0 : decide (0 ≤ x8_1) = true := decide_eq_true c16
       clear c16
       (first | rw [c16b0] | (simp only [i64_w, i32_w]; rw [c16b0]) | skip)
       by_cases c17 : ((rd_T69 l0_1 x8_1).f0) = a2
       ·rw [if_pos c17] at H
        have c17b0 : (((rd_T69 l0_1 x8_1).f0) == a2) = true := beq_iff_eq.mpr c17
        have c17b1 : (((rd_T69 l0_1 x8_1).f0) != a2) = false := bne_eq_false_iff_eq.mpr c17
        clear c17
        by_cases c18 : 0 ≤ ((rd_T69 l0_1 x8_1).f1)
        ·rw [if_pos c18] at H
         have c18b0 : decide (0 ≤ ((rd_T69 l0_1 x8_1).f1)) = true := decide_eq_true c18
         clear c18
         by_cases c19 : ((rd_T69 l0_1 x8_1).f1) < (l1.length : Int)
         ·rw [if_pos c19] at H
          have c19b0 : decide (((rd_T69 l0_1 x8_1).f1) < (l1.length : Int)) = true := decide_eq_true c19
          clear c19
          have H' := Aside0.mk H
          clear H
          have hcz20_0 : wr.cell? ⟨gb274, 0, none⟩ = some (.int .i64 a0_0) := (blk_cell BK274.out 0).trans rfl
          have hcz20_1 : wr.cell? ⟨gb274, 1, none⟩ = some (.slice A0_1 l0_1.length c0_1) := (blk_cell BK274.out 1).trans rfl
          have hfz20_0 := blk_frozen BK274.out 0
          have hfz20_1 := blk_frozen BK274.out 1
          have p281 : 0 ≤ (x8_1 : Int) := of_decide_eq_true zh
          have q281 : x8_1 < (l0_1.length : Int) := of_decide_eq_true zh
          obtain ⟨ad281, e281, hx281_0, hx281_1, hx281_2⟩ := at_T69 HR0_1.out x8_1 p281 q281
          cases e281
          replace hx281_0 := (HB.out.cell (World.block_lt_of_cell? w _ hx281_0)).trans hx281_0
          replace hx281_1 := (HB.out.cell (World.block_lt_of_cell? w _ hx281_1)).trans hx281_1
          replace hx281_2 := (HB.out.cell (World.block_lt_of_cell? w _ hx281_2)).trans hx281_2
          replace p281 := eq_true p281
          replace q281 := eq_true q281
          have p282 : 0 ≤ (x8_1 : Int) := of_decide_eq_true zh
          have q282 : x8_1 < (l0_1.length : Int) := of_decide_eq_true zh
          obtain ⟨ad282, e282, hx282_0, hx282_1, hx282_2⟩ := at_T69 HR0_1.out x8_1 p282 q282
          obtain rfl : ad281 = ad282 := (by injection e282)
          replace hx282_0 := (HB.out.cell (World.block_lt_of_cell? w _ hx282_0)).trans hx282_0
          replace hx282_1 := (HB.out.cell (World.block_lt_of_cell? w _ hx282_1)).trans hx282_1
          replace hx282_2 := (HB.out.cell (World.block_lt_of_cell? w _ hx282_2)).trans hx282_2
          replace p282 := eq_true p282
          replace q282 := eq_true q282
          have p283 : 0 ≤ (((rd_T69 l0_1 x8_1).f1) : Int) := of_decide_eq_true zh
          have q283 : ((rd_T69 l0_1 x8_1).f1) < (l1.length : Int) := of_decide_eq_true zh
          obtain ⟨ad283, e283, hx283_0⟩ := Kd.at_int HR1.out ((rd_T69 l0_1 x8_1).f1) p283 q283
          cases e283
          replace hx283_0 := (HB.out.cell (World.block_lt_of_cell? w _ hx283_0)).trans hx283_0
          replace p283 := eq_true p283
          replace q283 := eq_true q283
          go_wp2
          go_meet
          case rel => exact ⟨_, (((rd l1 ((rd_T69 l0_1 x8_1).f1)) == 0)), zT, H', ⟨by have := HK1.out; first | omega | exact Nat.le_refl _⟩, ⟨by (with_reducible repeat (first | apply Kd.N_alloc | apply Kd.N_drewN | apply Kd.N_drew)); exact HO_7.out⟩, ⟨by (with_reducible repeat (first | refine blk_drewN ?_ _ | refine blk_drew ?_ | refine blk_alloc ?_ _)); exact BK274.out⟩, ⟨by repeat (first | (with_reducible first | exact HB.out | apply below_alloc | apply pw_below_drewN | apply below_drew1 | refine below_set ?_ GE274.out) | exact HB.out)⟩⟩
         ·rw [if_neg c19] at H
          exact absurd H (by simp)
        ·rw [if_neg c18] at H
         exact absurd H (by simp)
       ·rw [if_neg c17] at H
        have c17b0 : (((rd_T69 l0_1 x8_1).f0) == a2) = false := beq_eq_false_iff_ne.mpr c17
        have c17b1 : (((rd_T69 l0_1 x8_1).f0) != a2) = true := bne_iff_ne.mpr c17
        have H' := Aside0.mk H
        clear H
        have hcz21_0 : wr.cell? ⟨gb274, 0, none⟩ = some (.int .i64 a0_0) := (blk_cell BK274.out 0).trans rfl
        have hcz21_1 : wr.cell? ⟨gb274, 1, none⟩ = some (.slice A0_1 l0_1.length c0_1) := (blk_cell BK274.out 1).trans rfl
        have hfz21_0 := blk_frozen BK274.out 0
        have hfz21_1 := blk_frozen BK274.out 1
        have p281 : 0 ≤ (x8_1 : Int) := of_decide_eq_true zh
        have q281 : x8_1 < (l0_1.length : Int) := of_decide_eq_true zh
        obtain ⟨ad281, e281, hx281_0, hx281_1, hx281_2⟩ := at_T69 HR0_1.out x8_1 p281 q281
        cases e281
        replace hx281_0 := (HB.out.cell (World.block_lt_of_cell? w _ hx281_0)).trans hx281_0
        replace hx281_1 := (HB.out.cell (World.block_lt_of_cell? w _ hx281_1)).trans hx281_1
        replace hx281_2 := (HB.out.cell (World.block_lt_of_cell? w _ hx281_2)).trans hx281_2
        replace p281 := eq_true p281
        replace q281 := eq_true q281
        go_wp2
        go_meet
        case rel => exact ⟨_, (true), zT, H', ⟨by have := HK1.out; first | omega | exact Nat.le_refl _⟩, ⟨by (with_reducible repeat (first | apply Kd.N_alloc | apply Kd.N_drewN | apply Kd.N_drew)); exact HO_7.out⟩, ⟨by (with_reducible repeat (first | refine blk_drewN ?_ _ | refine blk_drew ?_ | refine blk_alloc ?_ _)); exact BK274.out⟩, ⟨by repeat (first | (with_reducible first | exact HB.out | apply below_alloc | apply pw_below_drewN | apply below_drew1 | refine below_set ?_ GE274.out) | exact HB.out)⟩⟩
      ·rw [if_neg c16] at H
       exact absurd H (by simp)
     case rest =>
      clear HC14
      try clear c7
      try clear c7b0
      try clear c7b1
      try clear c13
      try clear c13b0
      try clear hcz15_0
      try clear hcz15_1
      try clear hcz6_0
      try clear hcz6_1
      try clear hfz15_0
      try clear hfz15_1
      try clear hfz6_0
      try clear hfz6_1
      obtain ⟨kq, x44_13, rfl, HA, HJ13, HO_7, BK274, HB⟩ := hcut
      cases kq with
      | zero => exact absurd HA.out (by simp [ancepsref09_from.j1])
      | succ kj13 =>
       have H := HA.out
       clear HA
       simp only [ancepsref09_from.j1] at H
       by_cases c22 : x44_13 = true
       ·subst c22
        have H1 : (ancepsref09_from.l0 kj13 l1 a2 x7_1 (wrap64 (x8_1 + 1)) a0_0 l0_1) = some r := by rw [if_pos rfl] at H; exact H
        clear H
        have H := H1
        clear H1
        have H' := Aside0.mk H
        clear H
        go_wp2
        go_roundg kj13
        case measure => have := HK1.out; have := HJ13.out; omega
        case rel => exact ⟨(x7_1), (wrap64 (x8_1 + 1)), zT, H', ⟨by have := HK1.out; have := HJ13.out; omega⟩, ⟨by (with_reducible repeat (first | apply Kd.N_alloc | apply Kd.N_drewN | apply Kd.N_drew)); exact HO_7.out⟩, ⟨by (with_reducible repeat (first | refine blk_drewN ?_ _ | refine blk_drew ?_ | refine blk_alloc ?_ _)); exact BK274.out⟩, ⟨by repeat (first | (with_reducible first | exact HB.out | apply below_alloc | apply pw_below_drewN | apply below_drew1 | refine below_set ?_ GE274.out) | exact HB.out)⟩⟩
       ·replace c22 := Bool.eq_false_iff.mpr c22
        subst c22
        have H1 : (if 0 ≤ x8_1 then (if x8_1 < (l0_1.length : Int) then ((ancepsref09_from.f kj13 a0_0 l0_1 l1 ((rd_T69 l0_1 x8_1).f1)).bind fun t285 => (ancepsref09_from.l1 kj13 l1 a2 x7_1 x8_1 t285 0 a0_0 l0_1)) else (none)) else (none)) = some r := by rw [if_neg (show ¬ (false = true) by decide)] at H; exact H
        clear H
        have H := H1
        clear H1
        by_cases c23 : 0 ≤ x8_1
        ·rw [if_pos c23] at H
         have c23b0 : decide (0 ≤ x8_1) = true := decide_eq_true c23
         clear c23
         by_cases c24 : x8_1 < (l0_1.length : Int)
         ·rw [if_pos c24] at H
          have c24b0 : decide (x8_1 < (l0_1.length : Int)) = true := decide_eq_true c24
          clear c24
          replace H := Option.bind_eq_some_iff.mp H
          obtain ⟨t285, A250, H⟩ := H
          replace H : (ancepsref09_from.l1 kj13 l1 a2 x7_1 x8_1 t285 0 a0_0 l0_1) = some r := H
          have A25 := Aside0.mk A250
          clear A250
          have H' := Aside0.mk H
          clear H
          try go_wp2
          have n0_ := Aside0.mk (Kd.N_drew HO_7.out)
          have n1_ := Aside0.mk (blk_drew BK274.out)
          have n2_ := Aside0.mk (below_drew1 HB.out)
          clear HO_7
          clear BK274
          clear HB
          have HO_7 := n0_
          have BK274 := n1_
          have HB := n2_
          clear n0_ n1_ n2_
          have p284 : 0 ≤ (x8_1 : Int) := of_decide_eq_true zh
          have q284 : x8_1 < (l0_1.length : Int) := of_decide_eq_true zh
          obtain ⟨ad284, e284, hx284_0, hx284_1, hx284_2⟩ := at_T69 HR0_1.out x8_1 p284 q284
          have hw284_2 := hx284_2
          have hw284_1 := hx284_1
          have hw284_0 := hx284_0
          cases e284
          replace hx284_0 := (HB.out.cell (World.block_lt_of_cell? w _ hx284_0)).trans hx284_0
          replace hx284_1 := (HB.out.cell (World.block_lt_of_cell? w _ hx284_1)).trans hx284_1
          replace hx284_2 := (HB.out.cell (World.block_lt_of_cell? w _ hx284_2)).trans hx284_2
          replace p284 := eq_true p284
          replace q284 := eq_true q284
          refine start_ (n := 10) (S := fun w' => w'.cell? ⟨gb274, 0, none⟩ = some (.int .i64 a0_0) ∧ w'.cell? ⟨gb274, 1, none⟩ = some (.slice (some ad284) l0_1.length c0_1) ∧ w'.cell? (ad284.add ((x8_1).toNat * 3)) = some (.int .i64 ((rd_T69 l0_1 x8_1).f0)) ∧ w'.cell? ⟨(ad284.add ((x8_1).toNat * 3)).block, (ad284.add ((x8_1).toNat * 3)).off + 1, none⟩ = some (.int .i64 ((rd_T69 l0_1 x8_1).f1)) ∧ w'.cell? ⟨(ad284.add ((x8_1).toNat * 3)).block, (ad284.add ((x8_1).toNat * 3)).off + 2, none⟩ = some (.int .i64 ((rd_T69 l0_1 x8_1).f2))) (ds := []) #[false, false, false, false, false, false, false, false, false, false] zK rfl rfl ⟨(blk_cell BK274.out 0).trans rfl, (blk_cell BK274.out 1).trans rfl, ((HB.out.cell (World.block_lt_of_cell? w _ hw284_0)).trans hw284_0), ((HB.out.cell (World.block_lt_of_cell? w _ hw284_1)).trans hw284_1), ((HB.out.cell (World.block_lt_of_cell? w _ hw284_2)).trans hw284_2)⟩ (fun hHeld => ?_); refine with_tabW ancepsref09_from.tab8 ancepsref09_from.bits8 (fun HT_ HW_ => ?_)
          generalize wc.drew = w26 at HO_7 BK274 HB hx284_0 hx284_1 hx284_2 hHeld ⊢
          refine pure_ (i := 1) (N := some 46) (v := ?_) (a' := ?_) #[false, true, false, false, false, false, false, false, false, false] rfl rfl (any_of HT_.out zK) (fun _ _ _ h => h) (Or.inl ⟨by rfl, ?_⟩) ?_ ?_
          rotate_left
          ·intro w'
           go_simp
           with_reducible rfl
          rotate_left
          ·simp only [Act.put, List.setIfInBounds_toArray, List.set_cons_zero, List.set_cons_succ, i64_w, i32_w]
           rfl
          refine pure_ (i := 2) (N := some 47) (v := ?_) (a' := ?_) #[false, true, true, false, false, false, false, false, false, false] rfl rfl (any_of HT_.out zK) (fun _ _ _ h => h) (Or.inl ⟨by rfl, ?_⟩) ?_ ?_
          rotate_left
          ·intro w'
           go_simp
           with_reducible rfl
          rotate_left
          ·simp only [Act.put, List.setIfInBounds_toArray, List.set_cons_zero, List.set_cons_succ, i64_w, i32_w]
           rfl
          refine pure_ (i := 4) (N := some 49) (v := ?_) (a' := ?_) #[false, true, true, false, true, false, false, false, false, false] rfl rfl (any_of HT_.out zK) (fun _ _ _ h => h) (Or.inl ⟨by rfl, ?_⟩) ?_ ?_
          rotate_left
          ·intro w'
           go_simp
           with_reducible rfl
          rotate_left
          ·simp only [Act.put, List.setIfInBounds_toArray, List.set_cons_zero, List.set_cons_succ, i64_w, i32_w]
           rfl
          refine take_ (i := 0) (N := some 45) (v := ?_) (a' := ?_) #[true, true, true, false, true, false, false, false, false, false] rfl rfl (take_ofW HT_.out HW_.out zK) (fun _ _ _ h => h) (Or.inl ⟨by rfl, ?_⟩) hHeld ?_ ?_
          rotate_left
          ·rintro w' ⟨s0, s1, s2, s3, s4⟩
           go_simp
           with_reducible rfl
          rotate_left
          ·simp only [Act.put, List.setIfInBounds_toArray, List.set_cons_zero, List.set_cons_succ, i64_w, i32_w]
           rfl
          refine take_ (i := 3) (N := some 48) (v := ?_) (a' := ?_) #[true, true, true, true, true, false, false, false, false, false] rfl rfl (take_ofW HT_.out HW_.out zK) (fun _ _ _ h => h) (Or.inl ⟨by rfl, ?_⟩) hHeld ?_ ?_
          rotate_left
          ·rintro w' ⟨s0, s1, s2, s3, s4⟩
           go_simp
           with_reducible rfl
          rotate_left
          ·simp only [Act.put, List.setIfInBounds_toArray, List.set_cons_zero, List.set_cons_succ, i64_w, i32_w]
           rfl
          refine pure_ (i := 5) (N := some 50) (v := ?_) (a' := ?_) #[true, true, true, true, true, true, false, false, false, false] rfl rfl (any_of HT_.out zK) (fun _ _ _ h => h) (Or.inl ⟨by rfl, ?_⟩) ?_ ?_
          rotate_left
          ·intro w'
           go_simp
           with_reducible rfl
          rotate_left
          ·simp only [Act.put, List.setIfInBounds_toArray, List.set_cons_zero, List.set_cons_succ, i64_w, i32_w]
           rfl
          refine pure_ (i := 6) (N := some 51) (v := ?_) (a' := ?_) #[true, true, true, true, true, true, true, false, false, false] rfl rfl (any_of HT_.out zK) (fun _ _ _ h => h) (Or.inl ⟨by rfl, ?_⟩) ?_ ?_
          rotate_left
          ·intro w'
           go_simp
           with_reducible rfl
          rotate_left
          ·simp only [Act.put, List.setIfInBounds_toArray, List.set_cons_zero, List.set_cons_succ, i64_w, i32_w]
           rfl
          refine take_ (i := 7) (N := some 52) (v := ?_) (a' := ?_) #[true, true, true, true, true, true, true, true, false, false] rfl rfl (take_ofW HT_.out HW_.out zK) (fun _ _ _ h => h) (Or.inl ⟨by rfl, ?_⟩) hHeld ?_ ?_
          rotate_left
          ·rintro w' ⟨s0, s1, s2, s3, s4⟩
           go_simp
           with_reducible rfl
          rotate_left
          ·simp only [Act.put, List.setIfInBounds_toArray, List.set_cons_zero, List.set_cons_succ, i64_w, i32_w]
           rfl
          refine one_ (i := 8) (N := some 53) #[true, true, true, true, true, true, true, true, true, false] rfl rfl (one_of HT_.out zK) (by decide) (fun K hK => ?_)
          refine goes_ Try.func61 zK rfl #[.agg #[.int .i64 a0_0, .slice (some ad284) l0_1.length c0_1], .slice A1 l1.length c1, .int .i64 ((rd_T69 l0_1 x8_1).f1)] (by rfl) rfl rfl zM ?_
          with_reducible refine (ih kj13 (by have := HK1.out; have := HJ13.out; omega) a0_0 _ _ l0_1 _ _ l1 ((rd_T69 l0_1 x8_1).f1) t285 _ ?side1 ?side2 ?side3 ?side4 A25.out).mono ?_
          (case side1 => repeat (first | exact (Kd.C_below HR0_1.out HB.out) | (with_reducible refine Kd.C_alloc ?_ _) | (with_reducible refine Kd.C_drewN ?_ _) | (with_reducible refine Kd.C_drew ?_)))
          (case side2 => exact HC0_1.out)
          (case side3 => repeat (first | exact (Kd.C_below HR1.out HB.out) | (with_reducible refine Kd.C_alloc ?_ _) | (with_reducible refine Kd.C_drewN ?_ _) | (with_reducible refine Kd.C_drew ?_)))
          (case side4 => exact HC1.out)
          rintro e w27 ⟨v286, rfl, ho0, hb⟩
          refine ⟨_, rfl, ?_⟩
          have n0_ := Aside0.mk (Kd.N_elder' (zN HO_7) (Kd.N_base ho0) hb)
          have n1_ := Aside0.mk (Kd.N_lower (Kd.N_mono (ok' := fun k_ => (w.heap.size ≤ k_) ∧ some k_ ≠ (u7 : Value).ownBlock ∧ k_ ≠ gb274) ho0 (fun k_ hk_ => ⟨(Nat.le_trans (below_size zB) hk_), (Kd.fresh' (Kd.N_lt (zN HO_7)) k_ hk_), (Kd.freshB (g := gb274) (o := .cells #[.int .i64 a0_0, .slice (some ad284) l0_1.length c0_1] 24 (0, 0)) (zk BK274) k_ hk_)⟩)) (below_size zB))
          have n2_ := Aside0.mk (blk_below (g := gb274) (o := .cells #[.int .i64 a0_0, .slice (some ad284) l0_1.length c0_1] 24 (0, 0)) (zk BK274) hb)
          have n3_ := Aside0.mk (below_step zB hb)
          clear HO_7
          clear BK274
          clear HB
          have HO_7 := n0_
          have HO287 := n1_
          have BK274 := n2_
          have HB := n3_
          clear n0_ n1_ n2_ n3_
          (try clear hb)
          (try clear hb2)
          (try clear hk)
          (try clear hi)
          (try clear ho0)
          refine hK.out _ _ ⟨(blk_cell BK274.out 0).trans rfl, (blk_cell BK274.out 1).trans rfl, ((HB.out.cell (World.block_lt_of_cell? w _ hw284_0)).trans hw284_0), ((HB.out.cell (World.block_lt_of_cell? w _ hw284_1)).trans hw284_1), ((HB.out.cell (World.block_lt_of_cell? w _ hw284_2)).trans hw284_2)⟩ (fun hHeld => ?_)
          clear hK K
          refine norm_ (a' := ?_) ?_ ?_
          rotate_left
          ·show Act.put _ (some 53) _ = _
           simp only [Act.put, List.setIfInBounds_toArray, List.set_cons_zero, List.set_cons_succ, i64_w, i32_w]
           rfl
          refine pure_ (i := 9) (N := some 9) (v := ?_) (a' := ?_) #[true, true, true, true, true, true, true, true, true, true] rfl rfl (any_of HT_.out zK) (fun _ _ _ h => h) (Or.inl ⟨by rfl, ?_⟩) ?_ ?_
          rotate_left
          ·intro w'
           go_simp
           with_reducible rfl
          rotate_left
          ·simp only [Act.put, List.setIfInBounds_toArray, List.set_cons_zero, List.set_cons_succ, i64_w, i32_w]
           rfl
          refine done_ (done_of HT_.out zK) ?_
          try go_wp2
          go_loopg [7, 10] kj13 (fun kq v7 v10 w' => ∃ (x7_3 : List (List Int)) (x10_3 : Int), v10 = .int .i64 x10_3 ∧ Aside0 (ancepsref09_from.l1 kq l1 a2 x7_3 x8_1 t285 x10_3 a0_0 l0_1 = some r) ∧ Aside0 (kq ≤ kj13) ∧ Aside0 (Kd.N (Kd.slice 3 (Kd.int .i64)) 25 w' w.heap.size (fun k_ => (w.heap.size ≤ k_) ∧ some k_ ≠ (v286 : Value).ownBlock ∧ k_ ≠ gb274) v7 x7_3) ∧ Aside0 (Kd.N (Kd.slice 3 (Kd.int .i64)) 25 w' w.heap.size (fun k_ => (w.heap.size ≤ k_) ∧ some k_ ≠ (v7 : Value).ownBlock ∧ k_ ≠ gb274) v286 t285) ∧ Aside0 (w'.heap[gb274]? = some (.cells #[.int .i64 a0_0, (.slice (some ad284) l0_1.length c0_1)] 24 (0, 0))) ∧ Aside0 (Below w.heap.size w w'))
          case atStart => exact ⟨(x7_1), (0), zT, H', ⟨Nat.le_refl _⟩, ⟨by (with_reducible repeat (first | apply Kd.N_alloc | apply Kd.N_drewN | apply Kd.N_drew)); exact Kd.N_mono HO_7.out (fun _ hk => ⟨hk.1.1, ⟨hk.2, hk.1.2⟩⟩)⟩, ⟨by (with_reducible repeat (first | apply Kd.N_alloc | apply Kd.N_drewN | apply Kd.N_drew)); exact HO287.out⟩, ⟨by (with_reducible repeat (first | refine blk_drewN ?_ _ | refine blk_drew ?_ | refine blk_alloc ?_ _)); exact BK274.out⟩, ⟨by repeat (first | (with_reducible first | exact HB.out | apply below_alloc | apply pw_below_drewN | apply below_drew1 | refine below_set ?_ GE274.out) | exact HB.out)⟩⟩
          case round =>
           clear H'
           try clear c1
           try clear c7
           try clear c7b0
           try clear c7b1
           try clear c13
           try clear c13b0
           try clear c22
           try clear c23
           try clear c23b0
           try clear c24
           try clear c24b0
           try clear hcz15_0
           try clear hcz15_1
           try clear hcz6_0
           try clear hcz6_1
           try clear hfz15_0
           try clear hfz15_1
           try clear hfz6_0
           try clear hfz6_1
           try clear hx284_0
           try clear hx284_1
           try clear hx284_2
           try clear p284
           try clear q284
           obtain ⟨x7_3, x10_3, rfl, HA, HK3, HO_7, HO_9, BK274, HB⟩ := hrel
           cases gk with
           | zero => exact absurd HA.out (by simp [ancepsref09_from.l1])
           | succ k3 =>
            have H := HA.out
            clear HA
            simp only [ancepsref09_from.l1] at H
            by_cases c28 : x10_3 < (t285.length : Int)
            ·rw [if_pos c28] at H
             have c28b0 : decide (x10_3 < (t285.length : Int)) = true := decide_eq_true c28
             clear c28
             obtain ⟨y288, hy288⟩ : ∃ y_ : List Int, y_ = (([x8_1] : List Int)) := ⟨_, rfl⟩
             replace H : (if 0 ≤ x10_3 then (if y288.length + (rd_L2 t285 x10_3).length < 17592186044416 then (if x7_3.length < 5864062014805 then (ancepsref09_from.l1 k3 l1 a2 (x7_3 ++ [(y288 ++ (rd_L2 t285 x10_3))]) x8_1 t285 (wrap64 (x10_3 + 1)) a0_0 l0_1) else (none)) else (none)) else (none)) = some r := by first | (rw [hy288]; with_reducible exact H) | (have H2_ := (Option.bind_some _ _).symm.trans H; rw [hy288]; with_reducible exact H2_) | (have H2_ := (Option.bind_some _ _).symm.trans H; with_reducible exact H2_) | with_reducible exact H | (rw [hy288]; exact H) | exact H
             have Ny288 := Aside0.mk hy288
             clear hy288
             by_cases c29 : 0 ≤ x10_3
             ·rw [if_pos c29] at H
              have c29b0 : decide (0 ≤ x10_3) = true := decide_eq_true c29
              clear c29
              by_cases c30 : y288.length + (rd_L2 t285 x10_3).length < 17592186044416
              ·rw [if_pos c30] at H
               have LMc30 := Aside0.mk c30
               clear c30
               obtain ⟨y292, hy292⟩ : ∃ y_ : List Int, y_ = (y288 ++ (rd_L2 t285 x10_3)) := ⟨_, rfl⟩
               replace H : (if x7_3.length < 5864062014805 then (ancepsref09_from.l1 k3 l1 a2 (x7_3 ++ [y292]) x8_1 t285 (wrap64 (x10_3 + 1)) a0_0 l0_1) else (none)) = some r := by first | (rw [hy292]; with_reducible exact H) | (have H2_ := (Option.bind_some _ _).symm.trans H; rw [hy292]; with_reducible exact H2_) | (have H2_ := (Option.bind_some _ _).symm.trans H; with_reducible exact H2_) | with_reducible exact H | (rw [hy292]; exact H) | exact H
               have Ny292 := Aside0.mk hy292
               clear hy292
               by_cases c31 : x7_3.length < 5864062014805
               ·rw [if_pos c31] at H
                have LMc31 := Aside0.mk c31
                clear c31
                obtain ⟨y295, hy295⟩ : ∃ y_ : List (List Int), y_ = (x7_3 ++ [y292]) := ⟨_, rfl⟩
                replace H : (ancepsref09_from.l1 k3 l1 a2 y295 x8_1 t285 (wrap64 (x10_3 + 1)) a0_0 l0_1) = some r := by first | (rw [hy295]; with_reducible exact H) | (have H2_ := (Option.bind_some _ _).symm.trans H; rw [hy295]; with_reducible exact H2_) | (have H2_ := (Option.bind_some _ _).symm.trans H; with_reducible exact H2_) | with_reducible exact H | (rw [hy295]; exact H) | exact H
                have Ny295 := Aside0.mk hy295
                clear hy295
                have H' := Aside0.mk H
                clear H
                obtain ⟨Ao32, co32, eo32⟩ := Kd.N_slice HO_9.out
                subst eo32
                go_wp2_with (first | ((with_reducible refine gate_dst (N := 62) rfl ?_); refine Kd.R_lit (Kd.int .i64) _ 3 ?hg (N := 62) ?hd (xs := ([x8_1] : List Int)) (inner := [.int .i64 x8_1]) (ok := fun _ => True) (okp := fun _ => True) ?hr ?hp (fun _ hk => hk) trivial (Below.refl _ _) (Nat.le_refl _) (by simp) ?_; (case hd => rfl); (case hg => rfl); (case hr => first | (go_simp; done) | (go_simp; rfl)); (case hp => exact (Reps.one (show Kd.M (Kd.int .i64) _ _ _ x8_1 [.int .i64 x8_1] from rfl) (Reps.none _ _))); intro v289 w33 ho34 hb hg_ hnew_; clear hg_ hnew_; (first | rw [← Ny288.out] at ho34 | (simp only [Int.reduceToNat] at ho34; rw [← Ny288.out] at ho34)); have n0_ := Aside0.mk (Kd.N_elder' (zN HO_7) (Kd.R_base ho34) hb); have n1_ := Aside0.mk (Kd.N_elder' (zN HO_9) (Kd.R_base ho34) hb); have n2_ := Aside0.mk (Kd.R_lower (Kd.R_newM (M := fun k_ => (w.heap.size ≤ k_)) ho34 (below_size zB) (fun k_ h_ => h_)) (below_size zB)); have n3_ := Aside0.mk (blk_below (g := gb274) (o := .cells #[.int .i64 a0_0, .slice (some ad284) l0_1.length c0_1] 24 (0, 0)) (zk BK274) hb); have n4_ := Aside0.mk (below_step zB hb); clear HO_7; clear HO_9; clear BK274; clear HB; have HO_7 := n0_; have HO_9 := n1_; have HO290 := n2_; have BK274 := n3_; have HB := n4_; clear n0_ n1_ n2_ n3_ n4_; clear hb ho34; have p291 : 0 ≤ (x10_3 : Int) := of_decide_eq_true zh; have q291 : x10_3 < (t285.length : Int) := of_decide_eq_true zh; obtain ⟨ad291, A291_0, c291_0, e291, hx291_0, hl291_0, hi291_0⟩ := at_L2 (Kd.N_reads' HO_9.out).2.2 x10_3 p291 q291; cases e291; obtain ⟨ce291, hce291, hMe291, hcc291⟩ := Kd.N_get HO_9.out [] x10_3 p291 (by first | exact q291 | exact of_decide_eq_true zh | (have e_ := (Kd.N_reads' HO_9.out).1; omega)); obtain ⟨ua291_0, uc291_0, rfl, ul291_0, ge291_0⟩ := Kd.FK_slice_open hMe291; have hv291_0 := hcc291 0 _ rfl; rw [Nat.add_zero, show ((Kd.slice 3 (Kd.int .i64))).sz = 1 from rfl, Nat.mul_one] at hv291_0; replace hv291_0 := Option.some.inj (hv291_0.symm.trans hx291_0); injection hv291_0 with hva_ hvn_ hvc_; rw [hva_] at ge291_0; rw [hvc_] at ul291_0; have HL291_0 := Aside0.mk (show Kd.V (Kd.int .i64) 3 _ w.heap.size _ _ (rd_L2 t285 x10_3) from Kd.V_mk ul291_0 ge291_0); clear hva_ hvn_ hvc_ ge291_0 ul291_0; clear hcc291 hce291; have HR291_0 := Aside0.mk hi291_0; have HC291_0 := Aside0.mk hl291_0; clear hi291_0 hl291_0; replace p291 := eq_true p291; replace q291 := eq_true q291) | ((with_reducible refine gate_builtin (b := .append) (xs := #[.tmp 62, .tmp 66]) rfl ?_); at_builtin; refine Kd.R_append_rows (Kd.int .i64) (w0 := w) w.heap.size rfl (.tmp 62) (.tmp 66) 25 3 (.int .i64 0) 8 rfl Try.underlying25 info3 rfl (by decide) (by omega) v289 y288 (rd_L2 t285 x10_3) _ _ _ (fun k_ => (w.heap.size ≤ k_)) (fun _ => False) rfl rfl ?aO ?aR (fun _ _ h => h) (fun _ h => h.elim) ?aF ?aB ?aS ?aL ?_; (case aR => repeat (first | exact (by repeat (first | (with_reducible exact HR291_0.out) | (with_reducible refine Kd.C_alloc ?_ _) | (with_reducible refine Kd.C_drewN ?_ _) | (with_reducible refine Kd.C_drew ?_) | exact HR291_0.out)) | (with_reducible refine Kd.C_alloc ?_ _) | (with_reducible refine Kd.C_drewN ?_ _) | (with_reducible refine Kd.C_drew ?_))); (case aB => exact zB); (case aF => exact (fun k_ hk => (Nat.le_trans (below_size zB) hk))); (case aO => exact (by (with_reducible repeat (first | apply Kd.R_alloc | apply Kd.R_drewN | apply Kd.R_drew)); exact Kd.R_mono HO290.out (fun _ hk => hk.1))); (case aS => exact (below_size zB)); (case aL => have := LMc30.out; omega); intro v293 w35 ho hb hg hat; rw [← Ny292.out] at ho; have n0_ := Aside0.mk (Kd.N_afterv (ok := (fun k_ => (w.heap.size ≤ k_) ∧ some k_ ≠ (.slice (some ad291) t285.length co32 : Value).ownBlock ∧ k_ ≠ gb274)) (zN HO_7) hg hat); have n1_ := Aside0.mk (Kd.N_afterv (ok := (fun k_ => (w.heap.size ≤ k_) ∧ some k_ ≠ (u7 : Value).ownBlock ∧ k_ ≠ gb274)) (zN HO_9) hg hat); have n2_ := Aside0.mk (blk_grown (g := gb274) (o := .cells #[.int .i64 a0_0, .slice (some ad284) l0_1.length c0_1] 24 (0, 0)) (zk BK274) hg (Kd.R_ne HO290.out BK274.out (by decide))); have n3_ := Aside0.mk (Kd.V_afterv (ok := (fun k_ => (w.heap.size ≤ k_) ∧ some k_ ≠ (u7 : Value).ownBlock ∧ some k_ ≠ (.slice (some ad291) t285.length co32 : Value).ownBlock ∧ k_ ≠ gb274)) (by (with_reducible repeat (first | apply Kd.V_alloc | apply Kd.V_drewN | apply Kd.V_drew)); exact Kd.V_mono HL291_0.out (fun _ hk => ⟨⟨hk.1.1.1, ⟨hk.1.1.2.1, ⟨hk.2, hk.1.1.2.2⟩⟩⟩, hk.1.2⟩)) hg hat); have n4_ := Aside0.mk (hb); have n5_ := Aside0.mk (ho); clear HO_7; clear HO_9; clear BK274; clear HL291_0; clear HB; clear HO290; have HO_7 := n0_; have HO_9 := n1_; have BK274 := n2_; have HL291_0 := n3_; have HB := n4_; have HO294 := n5_; clear n0_ n1_ n2_ n3_ n4_ n5_; clear ho hb hg hat; obtain ⟨Ao37, co37, eo37⟩ := Kd.R_slice HO294.out; subst eo37) | ((with_reducible refine gate_builtin (b := .append) (xs := #[.tmp 60, .tmp 68]) rfl ?_); at_builtin; refine Kd.N_append (Kd.slice 3 (Kd.int .i64)) (w0 := w) w.heap.size rfl (.tmp 60) (.tmp 68) 34 25 (.slice none 0 0) 24 rfl Try.underlying34 info25 rfl (by decide) (by omega) u7 x7_3 y292 [.slice Ao37 y292.length co37] (fun k_ => (w.heap.size ≤ k_) ∧ some k_ ≠ (.slice (some ad291) t285.length co32 : Value).ownBlock ∧ k_ ≠ gb274) (fun k_ => ((fun k_ => (w.heap.size ≤ k_) ∧ some k_ ≠ (.slice (some ad291) t285.length co32 : Value).ownBlock ∧ k_ ≠ gb274)) k_ ∧ some k_ ≠ (u7 : Value).ownBlock) rfl rfl ?aP (fun _ hk => hk) ?aF ?aO ?aB ?aS ?aL ?_; (case aP => exact (Kd.FK_slice_mk (Kd.R_reads' (Kd.R_mono (ok' := (fun k_ => ((fun k_ => (w.heap.size ≤ k_) ∧ some k_ ≠ (.slice (some ad291) t285.length co32 : Value).ownBlock ∧ k_ ≠ gb274)) k_ ∧ some k_ ≠ (u7 : Value).ownBlock)) (Kd.R_types (Kd.R_apart' (Kd.R_apart' (HO294.out) (Kd.N_typed HO_9.out) (by decide)) (Kd.N_typed HO_7.out) (by decide)) BK274.out (by decide)) (fun k_ hk => ⟨⟨hk.1.1.1, ⟨hk.1.1.2, hk.2⟩⟩, hk.1.2⟩))).2.1 (Kd.R_F (Kd.R_mono (ok' := (fun k_ => ((fun k_ => (w.heap.size ≤ k_) ∧ some k_ ≠ (.slice (some ad291) t285.length co32 : Value).ownBlock ∧ k_ ≠ gb274)) k_ ∧ some k_ ≠ (u7 : Value).ownBlock)) (Kd.R_types (Kd.R_apart' (Kd.R_apart' (HO294.out) (Kd.N_typed HO_9.out) (by decide)) (Kd.N_typed HO_7.out) (by decide)) BK274.out (by decide)) (fun k_ hk => ⟨⟨hk.1.1.1, ⟨hk.1.1.2, hk.2⟩⟩, hk.1.2⟩))))); (case aB => exact zB); (case aF => exact (fun k_ hk => ⟨(Nat.le_trans (below_size zB) hk), Kd.fresh' (Kd.N_lt (zN HO_9)) k_ hk, Kd.freshB (g := gb274) (o := .cells #[.int .i64 a0_0, .slice (some ad284) l0_1.length c0_1] 24 (0, 0)) (zk BK274) k_ hk⟩)); (case aO => exact (by (with_reducible repeat (first | apply Kd.N_alloc | apply Kd.N_drewN | apply Kd.N_drew)); exact Kd.N_mono HO_7.out (fun _ hk => ⟨hk.1.1, ⟨hk.1.2.1, hk.1.2.2⟩⟩))); (case aS => exact (below_size zB)); (case aL => have := LMc31.out; omega); intro v296 w36 ho hb hg hat; rw [← Ny295.out] at ho; have n0_ := Aside0.mk (Kd.N_afterv (ok := (fun k_ => (w.heap.size ≤ k_) ∧ some k_ ≠ (.slice Ao37 y292.length co37 : Value).ownBlock ∧ k_ ≠ gb274)) (by (with_reducible repeat (first | apply Kd.N_alloc | apply Kd.N_drewN | apply Kd.N_drew)); exact Kd.N_mono HO_9.out (fun _ hk => ⟨⟨hk.1.1, ⟨hk.2, hk.1.2.2⟩⟩, hk.1.2.1⟩)) hg hat); have n1_ := Aside0.mk (blk_grown (g := gb274) (o := .cells #[.int .i64 a0_0, .slice (some ad284) l0_1.length c0_1] 24 (0, 0)) (zk BK274) hg (Kd.N_ne HO_7.out BK274.out (by decide))); have n2_ := Aside0.mk (Kd.V_afterv (ok := (fun k_ => (w.heap.size ≤ k_) ∧ some k_ ≠ (.slice (some ad291) t285.length co32 : Value).ownBlock ∧ some k_ ≠ (.slice Ao37 y292.length co37 : Value).ownBlock ∧ k_ ≠ gb274)) (by (with_reducible repeat (first | apply Kd.V_alloc | apply Kd.V_drewN | apply Kd.V_drew)); exact Kd.V_mono HL291_0.out (fun _ hk => ⟨⟨hk.1.1, ⟨hk.1.2.2.1, ⟨hk.2, hk.1.2.2.2⟩⟩⟩, hk.1.2.1⟩)) hg hat); have n3_ := Aside0.mk (hb); have n4_ := Aside0.mk (ho); clear HO_9; clear BK274; clear HL291_0; clear HB; clear HO_7; clear HO294; have HO_9 := n0_; have BK274 := n1_; have HL291_0 := n2_; have HB := n3_; have HO297 := n4_; clear n0_ n1_ n2_ n3_ n4_; clear ho hb hg hat))
                go_roundg k3
                case measure => have := HK1.out; have := HJ13.out; have := HK3.out; omega
                case rel => exact ⟨(y295), (wrap64 (x10_3 + 1)), zT, H', ⟨by have := HK1.out; have := HJ13.out; have := HK3.out; omega⟩, ⟨by (with_reducible repeat (first | apply Kd.N_alloc | apply Kd.N_drewN | apply Kd.N_drew)); exact HO297.out⟩, ⟨by (with_reducible repeat (first | apply Kd.N_alloc | apply Kd.N_drewN | apply Kd.N_drew)); exact Kd.N_mono HO_9.out (fun _ hk => ⟨hk.1.1, ⟨hk.2, hk.1.2.2⟩⟩)⟩, ⟨by (with_reducible repeat (first | refine blk_drewN ?_ _ | refine blk_drew ?_ | refine blk_alloc ?_ _)); exact BK274.out⟩, ⟨by repeat (first | (with_reducible first | exact HB.out | apply below_alloc | apply pw_below_drewN | apply below_drew1 | refine below_set ?_ GE274.out) | exact HB.out)⟩⟩
               ·rw [if_neg c31] at H
                exact absurd H (by simp)
              ·rw [if_neg c30] at H
               exact absurd H (by simp)
             ·rw [if_neg c29] at H
              exact absurd H (by simp)
            ·rw [if_neg c28] at H
             have c28b0 : decide (x10_3 < (t285.length : Int)) = false := decide_eq_false c28
             clear c28
             have H' := Aside0.mk H
             clear H
             obtain ⟨Ao38, co38, eo38⟩ := Kd.N_slice HO_9.out
             subst eo38
             go_wp2
             go_roundg k3
             case measure => have := HK1.out; have := HJ13.out; have := HK3.out; omega
             case rel => exact ⟨(x7_3), (wrap64 (x8_1 + 1)), zT, H', ⟨by have := HK1.out; have := HJ13.out; have := HK3.out; omega⟩, ⟨by (with_reducible repeat (first | apply Kd.N_alloc | apply Kd.N_drewN | apply Kd.N_drew)); exact Kd.N_mono HO_7.out (fun _ hk => ⟨hk.1, hk.2.2⟩)⟩, ⟨by (with_reducible repeat (first | refine blk_drewN ?_ _ | refine blk_drew ?_ | refine blk_alloc ?_ _)); exact BK274.out⟩, ⟨by repeat (first | (with_reducible first | exact HB.out | apply below_alloc | apply pw_below_drewN | apply below_drew1 | refine below_set ?_ GE274.out) | exact HB.out)⟩⟩
         ·rw [if_neg c24] at H
          exact absurd H (by simp)
        ·rw [if_neg c23] at H
         exact absurd H (by simp)
    ·rw [if_neg c13] at H
     have c13b0 : decide (x8_1 < (l0_1.length : Int)) = false := decide_eq_false c13
     clear c13
     obtain rfl := Option.some.inj H
     have hcz39_0 : wr.cell? ⟨gb274, 0, none⟩ = some (.int .i64 a0_0) := (blk_cell BK274.out 0).trans rfl
     have hcz39_1 : wr.cell? ⟨gb274, 1, none⟩ = some (.slice A0_1 l0_1.length c0_1) := (blk_cell BK274.out 1).trans rfl
     have hfz39_0 := blk_frozen BK274.out 0
     have hfz39_1 := blk_frozen BK274.out 1
     go_wp2
     go_ret
     exact ⟨_, by first | rfl | (simp [errW_none, errW_some] <;> rfl) | (simp [*, errW_none, errW_some] <;> rfl), by (with_reducible repeat (first | apply Kd.N_alloc | apply Kd.N_drewN | apply Kd.N_drew)); exact Kd.N_mono HO_7.out (fun _ hk => hk.1), by repeat (first | (with_reducible first | exact HB.out | apply below_alloc | apply pw_below_drewN | apply below_drew1 | refine below_set ?_ GE274.out) | exact HB.out)⟩
end Go.Proofs.Ytanbffoilianhaa.F
