-- Written by wip/tools/myprint.py, a program of this session's.
import Derived.Test.YtpojokndmkhpkaaM0
import Derived.Test.YtpojokndmkhpkaaM1
import Derived.Test.YtpojokndmkhpkaaM3
namespace Go.Proofs.Ytpojokndmkhpkaa.M
open Go.RowKit Go.Proofs.YtpojokndmkhpkaaW.PrintWords Go.Proofs.YtpojokndmkhpkaaW.PrintLast Go.Proofs.YtpojokndmkhpkaaW.PrintMore
attribute [local go_sem] max2_int min2_int max_two min_two max_three min_three max_four min_four   -- for this text's walks alone
set_option linter.unusedVariables false
set_option linter.unusedSimpArgs false
/-! ### ancepsref08_node: function 55 -/
mutual
def ancepsref08_node.j0 : Nat → Int → Bool → Int → Int → Int → List (S24) → Option (Int)
 | 0, _, _, _, _, _, _ => none
 | k + 1, x3, x4, x161000, x161001, x161002, x161003 => if x161000 = 4 then (ancepsref08_node.j1 k x3 x4 true x161000 x161001 x161002 x161003) else (if x161000 = 5 then (ancepsref08_node.j1 k x3 x4 true x161000 x161001 x161002 x161003) else (ancepsref08_node.j1 k x3 x4 (x161000 == 6) x161000 x161001 x161002 x161003))
def ancepsref08_node.j1 : Nat → Int → Bool → Bool → Int → Int → Int → List (S24) → Option (Int)
 | 0, _, _, _, _, _, _, _ => none
 | k + 1, x3, x4, x41, x161000, x161001, x161002, x161003 => if x41 = true then (ancepsref08_node.j2 k (x3 == 1) x161000 x161001 x161002 x161003) else (ancepsref08_node.j2 k x4 x161000 x161001 x161002 x161003)
def ancepsref08_node.j2 : Nat → Bool → Int → Int → Int → List (S24) → Option (Int)
 | 0, _, _, _, _, _ => none
 | k + 1, x4, x161000, x161001, x161002, x161003 => if x4 = true then (if x161000 = 1 then (if x161000 = 4 then (ancepsref08_node.j3 k false x161000 x161001 x161002 x161003) else (ancepsref08_node.j3 k (x161002 != 0) x161000 x161001 x161002 x161003)) else (if x161001 = 0 then (if x161000 = 4 then (ancepsref08_node.j3 k false x161000 x161001 x161002 x161003) else (ancepsref08_node.j3 k (x161002 != 0) x161000 x161001 x161002 x161003)) else (ancepsref08_node.j3 k true x161000 x161001 x161002 x161003))) else (ancepsref08_node.j3 k true x161000 x161001 x161002 x161003)
def ancepsref08_node.j3 : Nat → Bool → Int → Int → Int → List (S24) → Option (Int)
 | 0, _, _, _, _, _ => none
 | k + 1, x65, x161000, x161001, x161002, x161003 => if x65 = true then (some 1) else (if x161001 < 0 then (some 6) else (if x161001 > 255 then (some 6) else (if x161002 < 0 then (some 6) else (if x161002 > 9 then (some 6) else (some 0)))))
end
def ancepsref08_node.f (k : Nat) (a0_0 : Int) (a0_1 : Int) (a0_2 : Int) (l0_3 : List (S24)) : Option (Int) := if a0_0 = 1 then (if (l0_3.length : Int) = 0 then (ancepsref08_node.j0 k (l0_3.length : Int) true a0_0 a0_1 a0_2 l0_3) else (if a0_0 = 2 then (ancepsref08_node.j0 k (l0_3.length : Int) true a0_0 a0_1 a0_2 l0_3) else (if a0_0 = 3 then (ancepsref08_node.j0 k (l0_3.length : Int) (decide ((l0_3.length : Int) ≥ 2)) a0_0 a0_1 a0_2 l0_3) else (ancepsref08_node.j0 k (l0_3.length : Int) false a0_0 a0_1 a0_2 l0_3)))) else (if a0_0 = 2 then (ancepsref08_node.j0 k (l0_3.length : Int) true a0_0 a0_1 a0_2 l0_3) else (if a0_0 = 3 then (ancepsref08_node.j0 k (l0_3.length : Int) (decide ((l0_3.length : Int) ≥ 2)) a0_0 a0_1 a0_2 l0_3) else (ancepsref08_node.j0 k (l0_3.length : Int) false a0_0 a0_1 a0_2 l0_3)))
theorem ancepsref08_node.mono_l : ∀ k, (∀ y0 y1 y2 y3 y4 y5, LeO (ancepsref08_node.j0 k y0 y1 y2 y3 y4 y5) (ancepsref08_node.j0 (k + 1) y0 y1 y2 y3 y4 y5)) ∧ (∀ y0 y1 y2 y3 y4 y5 y6, LeO (ancepsref08_node.j1 k y0 y1 y2 y3 y4 y5 y6) (ancepsref08_node.j1 (k + 1) y0 y1 y2 y3 y4 y5 y6)) ∧ (∀ y0 y1 y2 y3 y4, LeO (ancepsref08_node.j2 k y0 y1 y2 y3 y4) (ancepsref08_node.j2 (k + 1) y0 y1 y2 y3 y4)) ∧ (∀ y0 y1 y2 y3 y4, LeO (ancepsref08_node.j3 k y0 y1 y2 y3 y4) (ancepsref08_node.j3 (k + 1) y0 y1 y2 y3 y4))
 | 0 => ⟨fun _ _ _ _ _ _ r h => by simp [ancepsref08_node.j0] at h, fun _ _ _ _ _ _ _ r h => by simp [ancepsref08_node.j1] at h, fun _ _ _ _ _ r h => by simp [ancepsref08_node.j2] at h, fun _ _ _ _ _ r h => by simp [ancepsref08_node.j3] at h⟩
 | k + 1 => by
  obtain ⟨ih0, ih1, ih2, ih3⟩ := ancepsref08_node.mono_l k
  refine ⟨?_, ?_, ?_, ?_⟩
  ·intro y0 y1 y2 y3 y4 y5
   unfold ancepsref08_node.j0
   repeat' first
   | (with_reducible exact ih0 _ _ _ _ _ _)
   | (with_reducible exact ih1 _ _ _ _ _ _ _)
   | (with_reducible exact ih2 _ _ _ _ _)
   | (with_reducible exact ih3 _ _ _ _ _)
   | (with_reducible exact LeO.refl _)
   | (with_reducible exact LeO.none _)
   | (with_reducible refine LeO.ite ?_ ?_)
   | (with_reducible refine LeO.bind ?_ (fun _ => ?_))
   | exact ih0 _ _ _ _ _ _
   | exact ih1 _ _ _ _ _ _ _
   | exact ih2 _ _ _ _ _
   | exact ih3 _ _ _ _ _
   | exact LeO.none _
   | refine LeO.ite ?_ ?_
   | refine LeO.bind ?_ (fun _ => ?_)
  ·intro y0 y1 y2 y3 y4 y5 y6
   unfold ancepsref08_node.j1
   repeat' first
   | (with_reducible exact ih0 _ _ _ _ _ _)
   | (with_reducible exact ih1 _ _ _ _ _ _ _)
   | (with_reducible exact ih2 _ _ _ _ _)
   | (with_reducible exact ih3 _ _ _ _ _)
   | (with_reducible exact LeO.refl _)
   | (with_reducible exact LeO.none _)
   | (with_reducible refine LeO.ite ?_ ?_)
   | (with_reducible refine LeO.bind ?_ (fun _ => ?_))
   | exact ih0 _ _ _ _ _ _
   | exact ih1 _ _ _ _ _ _ _
   | exact ih2 _ _ _ _ _
   | exact ih3 _ _ _ _ _
   | exact LeO.none _
   | refine LeO.ite ?_ ?_
   | refine LeO.bind ?_ (fun _ => ?_)
  ·intro y0 y1 y2 y3 y4
   unfold ancepsref08_node.j2
   repeat' first
   | (with_reducible exact ih0 _ _ _ _ _ _)
   | (with_reducible exact ih1 _ _ _ _ _ _ _)
   | (with_reducible exact ih2 _ _ _ _ _)
   | (with_reducible exact ih3 _ _ _ _ _)
   | (with_reducible exact LeO.refl _)
   | (with_reducible exact LeO.none _)
   | (with_reducible refine LeO.ite ?_ ?_)
   | (with_reducible refine LeO.bind ?_ (fun _ => ?_))
   | exact ih0 _ _ _ _ _ _
   | exact ih1 _ _ _ _ _ _ _
   | exact ih2 _ _ _ _ _
   | exact ih3 _ _ _ _ _
   | exact LeO.none _
   | refine LeO.ite ?_ ?_
   | refine LeO.bind ?_ (fun _ => ?_)
  ·intro y0 y1 y2 y3 y4
   unfold ancepsref08_node.j3
   repeat' first
   | (with_reducible exact ih0 _ _ _ _ _ _)
   | (with_reducible exact ih1 _ _ _ _ _ _ _)
   | (with_reducible exact ih2 _ _ _ _ _)
   | (with_reducible exact ih3 _ _ _ _ _)
   | (with_reducible exact LeO.refl _)
   | (with_reducible exact LeO.none _)
   | (with_reducible refine LeO.ite ?_ ?_)
   | (with_reducible refine LeO.bind ?_ (fun _ => ?_))
   | exact ih0 _ _ _ _ _ _
   | exact ih1 _ _ _ _ _ _ _
   | exact ih2 _ _ _ _ _
   | exact ih3 _ _ _ _ _
   | exact LeO.none _
   | refine LeO.ite ?_ ?_
   | refine LeO.bind ?_ (fun _ => ?_)
theorem ancepsref08_node.mono : ∀ a0 a1 a2 a3 k, LeO (ancepsref08_node.f k a0 a1 a2 a3) (ancepsref08_node.f (k + 1) a0 a1 a2 a3) := by
 intro a0 a1 a2 a3 k
 obtain ⟨ih0, ih1, ih2, ih3⟩ := ancepsref08_node.mono_l k
 unfold ancepsref08_node.f
 repeat' first
   | (with_reducible exact ih0 _ _ _ _ _ _)
   | (with_reducible exact ih1 _ _ _ _ _ _ _)
   | (with_reducible exact ih2 _ _ _ _ _)
   | (with_reducible exact ih3 _ _ _ _ _)
   | (with_reducible exact LeO.refl _)
   | (with_reducible exact LeO.none _)
   | (with_reducible refine LeO.ite ?_ ?_)
   | (with_reducible refine LeO.bind ?_ (fun _ => ?_))
   | exact ih0 _ _ _ _ _ _
   | exact ih1 _ _ _ _ _ _ _
   | exact ih2 _ _ _ _ _
   | exact ih3 _ _ _ _ _
   | exact LeO.none _
   | refine LeO.ite ?_ ?_
   | refine LeO.bind ?_ (fun _ => ?_)
set_option maxHeartbeats 8000000 in
set_option maxRecDepth 100000 in
theorem ancepsref08_node.calls (k : Nat) (a0_0 : Int) (a0_1 : Int) (a0_2 : Int) (A0_3 : Option Addr) (c0_3 : Nat) (l0_3 : List (S24)) (r : Int) (w : World) (hr0_3 : Kd.C k24 w A0_3 l0_3.length l0_3) (hc0_3 : l0_3.length ≤ c0_3) (h : ancepsref08_node.f k a0_0 a0_1 a0_2 l0_3 = some r) :
  Calls Try.prog 55 #[.agg #[.int .i64 a0_0, .int .i64 a0_1, .int .i64 a0_2, .slice A0_3 l0_3.length c0_3]] w fun e w' => e = .returned (.int .i64 r) ∧ Below w.heap.size w w' := by
 have hu24 := Try.underlying24
 have hu22 := Try.underlying22
 have hu3 := Try.underlying3
 have HR0_3 := Aside0.mk hr0_3
 have HC0_3 := Aside0.mk hc0_3
 clear hr0_3 hc0_3
 have HB := Aside0.mk (Below.refl w.heap.size w)
 have H : (if a0_0 = 1 then (if (l0_3.length : Int) = 0 then (ancepsref08_node.j0 k (l0_3.length : Int) true a0_0 a0_1 a0_2 l0_3) else (if a0_0 = 2 then (ancepsref08_node.j0 k (l0_3.length : Int) true a0_0 a0_1 a0_2 l0_3) else (if a0_0 = 3 then (ancepsref08_node.j0 k (l0_3.length : Int) (decide ((l0_3.length : Int) ≥ 2)) a0_0 a0_1 a0_2 l0_3) else (ancepsref08_node.j0 k (l0_3.length : Int) false a0_0 a0_1 a0_2 l0_3)))) else (if a0_0 = 2 then (ancepsref08_node.j0 k (l0_3.length : Int) true a0_0 a0_1 a0_2 l0_3) else (if a0_0 = 3 then (ancepsref08_node.j0 k (l0_3.length : Int) (decide ((l0_3.length : Int) ≥ 2)) a0_0 a0_1 a0_2 l0_3) else (ancepsref08_node.j0 k (l0_3.length : Int) false a0_0 a0_1 a0_2 l0_3)))) = some r := h
 clear h
 have HC2 := Aside0.mk H
 clear H
 go_enter Try.func55, Try.ntmps55
 go_upto_region 2 with (first | ((with_reducible refine gate_dst (N := 1) rfl ?_); refine box_event ?hg (N := 1) ?hd (cs := #[.int .i64 a0_0, .int .i64 a0_1, .int .i64 a0_2, .slice A0_3 l0_3.length c0_3]) (t := 24) ?hr ?_; (case hd => rfl); (case hg => rfl); (case hr => first | (go_simp; done) | (go_simp; rfl)); intro gb160 hg w3 hbox hb; have n0_ := Aside0.mk (below_step zB hb); have n1_ := Aside0.mk (hbox); have n2_ := Aside0.mk ((by rw [hg]; exact (below_size zB) : w.heap.size ≤ gb160)); have n3_ := Aside0.mk ((by rw [hg]; exact (below_size zB) : w.heap.size ≤ gb160)); clear HB; have HB := n0_; have BK160 := n1_; have GW160 := n2_; have GE160 := n3_; clear n0_ n1_ n2_ n3_; clear hb hbox hg; have hcz4_0 : w3.cell? ⟨gb160, 0, none⟩ = some (.int .i64 a0_0) := (blk_cell BK160.out 0).trans rfl; have hcz4_1 : w3.cell? ⟨gb160, 1, none⟩ = some (.int .i64 a0_1) := (blk_cell BK160.out 1).trans rfl; have hcz4_2 : w3.cell? ⟨gb160, 2, none⟩ = some (.int .i64 a0_2) := (blk_cell BK160.out 2).trans rfl; have hcz4_3 : w3.cell? ⟨gb160, 3, none⟩ = some (.slice A0_3 l0_3.length c0_3) := (blk_cell BK160.out 3).trans rfl; have hfz4_0 := blk_frozen BK160.out 0; have hfz4_1 := blk_frozen BK160.out 1; have hfz4_2 := blk_frozen BK160.out 2; have hfz4_3 := blk_frozen BK160.out 3))
 (try simp only [Act.put, List.setIfInBounds_toArray, List.set_cons_zero, List.set_cons_succ])
 go_cut [4] (fun v4 wc => ∃ (kq : Nat) (x4_1 : Bool), v4 = .bool x4_1 ∧ Aside0 (ancepsref08_node.j0 kq (l0_3.length : Int) x4_1 a0_0 a0_1 a0_2 l0_3 = some r) ∧ Aside0 (kq ≤ k) ∧ Aside0 (wc.heap[gb160]? = some (.cells #[.int .i64 a0_0, .int .i64 a0_1, .int .i64 a0_2, (.slice A0_3 l0_3.length c0_3)] 24 (0, 0))) ∧ Aside0 (Below w.heap.size w wc))
 case first =>
  have H := HC2.out
  clear HC2
  by_cases c5 : a0_0 = 1
  ·rw [if_pos c5] at H
   have c5b0 : (a0_0 == 1) = true := beq_iff_eq.mpr c5
   have c5b1 : (a0_0 != 1) = false := bne_eq_false_iff_eq.mpr c5
   clear c5
   (first | rw [c5b0] | (simp only [i64_w, i32_w]; rw [c5b0]) | skip)
   (try rw [c5b1])
   by_cases c6 : (l0_3.length : Int) = 0
   ·rw [if_pos c6] at H
    have c6b0 : ((l0_3.length : Int) == 0) = true := beq_iff_eq.mpr c6
    have c6b1 : ((l0_3.length : Int) != 0) = false := bne_eq_false_iff_eq.mpr c6
    clear c6
    have H' := Aside0.mk H
    clear H
    have hcz7_0 : w3.cell? ⟨gb160, 0, none⟩ = some (.int .i64 a0_0) := (blk_cell BK160.out 0).trans rfl
    have hcz7_1 : w3.cell? ⟨gb160, 1, none⟩ = some (.int .i64 a0_1) := (blk_cell BK160.out 1).trans rfl
    have hcz7_2 : w3.cell? ⟨gb160, 2, none⟩ = some (.int .i64 a0_2) := (blk_cell BK160.out 2).trans rfl
    have hcz7_3 : w3.cell? ⟨gb160, 3, none⟩ = some (.slice A0_3 l0_3.length c0_3) := (blk_cell BK160.out 3).trans rfl
    have hfz7_0 := blk_frozen BK160.out 0
    have hfz7_1 := blk_frozen BK160.out 1
    have hfz7_2 := blk_frozen BK160.out 2
    have hfz7_3 := blk_frozen BK160.out 3
    go_wp2
    go_meet
    case rel => exact ⟨_, (true), zT, H', ⟨by first | omega | exact Nat.le_refl _⟩, ⟨by (with_reducible repeat (first | refine blk_drewN ?_ _ | refine blk_drew ?_ | refine blk_alloc ?_ _)); exact BK160.out⟩, ⟨by repeat (first | (with_reducible first | exact HB.out | apply below_alloc | apply pw_below_drewN | apply below_drew1 | refine below_set ?_ GE160.out) | exact HB.out)⟩⟩
   ·rw [if_neg c6] at H
    have c6b0 : ((l0_3.length : Int) == 0) = false := beq_eq_false_iff_ne.mpr c6
    have c6b1 : ((l0_3.length : Int) != 0) = true := bne_iff_ne.mpr c6
    have c6b2 : ¬ (l0_3 = []) := fun h_ => c6 (by rw [h_]; rfl)
    by_cases c8 : a0_0 = 2
    ·rw [if_pos c8] at H
     have c8b0 : (a0_0 == 2) = true := beq_iff_eq.mpr c8
     have c8b1 : (a0_0 != 2) = false := bne_eq_false_iff_eq.mpr c8
     clear c8
     have H' := Aside0.mk H
     clear H
     have hcz9_0 : w3.cell? ⟨gb160, 0, none⟩ = some (.int .i64 a0_0) := (blk_cell BK160.out 0).trans rfl
     have hcz9_1 : w3.cell? ⟨gb160, 1, none⟩ = some (.int .i64 a0_1) := (blk_cell BK160.out 1).trans rfl
     have hcz9_2 : w3.cell? ⟨gb160, 2, none⟩ = some (.int .i64 a0_2) := (blk_cell BK160.out 2).trans rfl
     have hcz9_3 : w3.cell? ⟨gb160, 3, none⟩ = some (.slice A0_3 l0_3.length c0_3) := (blk_cell BK160.out 3).trans rfl
     have hfz9_0 := blk_frozen BK160.out 0
     have hfz9_1 := blk_frozen BK160.out 1
     have hfz9_2 := blk_frozen BK160.out 2
     have hfz9_3 := blk_frozen BK160.out 3
     go_wp2
     go_meet
     case rel => exact ⟨_, (true), zT, H', ⟨by first | omega | exact Nat.le_refl _⟩, ⟨by (with_reducible repeat (first | refine blk_drewN ?_ _ | refine blk_drew ?_ | refine blk_alloc ?_ _)); exact BK160.out⟩, ⟨by repeat (first | (with_reducible first | exact HB.out | apply below_alloc | apply pw_below_drewN | apply below_drew1 | refine below_set ?_ GE160.out) | exact HB.out)⟩⟩
    ·rw [if_neg c8] at H
     have c8b0 : (a0_0 == 2) = false := beq_eq_false_iff_ne.mpr c8
     have c8b1 : (a0_0 != 2) = true := bne_iff_ne.mpr c8
     by_cases c10 : a0_0 = 3
     ·rw [if_pos c10] at H
      have c10b0 : (a0_0 == 3) = true := beq_iff_eq.mpr c10
      have c10b1 : (a0_0 != 3) = false := bne_eq_false_iff_eq.mpr c10
      clear c10
      have H' := Aside0.mk H
      clear H
      have hcz11_0 : w3.cell? ⟨gb160, 0, none⟩ = some (.int .i64 a0_0) := (blk_cell BK160.out 0).trans rfl
      have hcz11_1 : w3.cell? ⟨gb160, 1, none⟩ = some (.int .i64 a0_1) := (blk_cell BK160.out 1).trans rfl
      have hcz11_2 : w3.cell? ⟨gb160, 2, none⟩ = some (.int .i64 a0_2) := (blk_cell BK160.out 2).trans rfl
      have hcz11_3 : w3.cell? ⟨gb160, 3, none⟩ = some (.slice A0_3 l0_3.length c0_3) := (blk_cell BK160.out 3).trans rfl
      have hfz11_0 := blk_frozen BK160.out 0
      have hfz11_1 := blk_frozen BK160.out 1
      have hfz11_2 := blk_frozen BK160.out 2
      have hfz11_3 := blk_frozen BK160.out 3
      go_wp2
      go_meet
      case rel => exact ⟨_, (decide ((l0_3.length : Int) ≥ 2)), zT, H', ⟨by first | omega | exact Nat.le_refl _⟩, ⟨by (with_reducible repeat (first | refine blk_drewN ?_ _ | refine blk_drew ?_ | refine blk_alloc ?_ _)); exact BK160.out⟩, ⟨by repeat (first | (with_reducible first | exact HB.out | apply below_alloc | apply pw_below_drewN | apply below_drew1 | refine below_set ?_ GE160.out) | exact HB.out)⟩⟩
     ·rw [if_neg c10] at H
      have c10b0 : (a0_0 == 3) = false := beq_eq_false_iff_ne.mpr c10
      have c10b1 : (a0_0 != 3) = true := bne_iff_ne.mpr c10
      have H' := Aside0.mk H
      clear H
      have hcz12_0 : w3.cell? ⟨gb160, 0, none⟩ = some (.int .i64 a0_0) := (blk_cell BK160.out 0).trans rfl
      have hcz12_1 : w3.cell? ⟨gb160, 1, none⟩ = some (.int .i64 a0_1) := (blk_cell BK160.out 1).trans rfl
      have hcz12_2 : w3.cell? ⟨gb160, 2, none⟩ = some (.int .i64 a0_2) := (blk_cell BK160.out 2).trans rfl
      have hcz12_3 : w3.cell? ⟨gb160, 3, none⟩ = some (.slice A0_3 l0_3.length c0_3) := (blk_cell BK160.out 3).trans rfl
      have hfz12_0 := blk_frozen BK160.out 0
      have hfz12_1 := blk_frozen BK160.out 1
      have hfz12_2 := blk_frozen BK160.out 2
      have hfz12_3 := blk_frozen BK160.out 3
      go_wp2
      go_meet
      case rel => exact ⟨_, (false), zT, H', ⟨by first | omega | exact Nat.le_refl _⟩, ⟨by (with_reducible repeat (first | refine blk_drewN ?_ _ | refine blk_drew ?_ | refine blk_alloc ?_ _)); exact BK160.out⟩, ⟨by repeat (first | (with_reducible first | exact HB.out | apply below_alloc | apply pw_below_drewN | apply below_drew1 | refine below_set ?_ GE160.out) | exact HB.out)⟩⟩
  ·rw [if_neg c5] at H
   have c5b0 : (a0_0 == 1) = false := beq_eq_false_iff_ne.mpr c5
   have c5b1 : (a0_0 != 1) = true := bne_iff_ne.mpr c5
   (first | rw [c5b0] | (simp only [i64_w, i32_w]; rw [c5b0]) | skip)
   (try rw [c5b1])
   by_cases c13 : a0_0 = 2
   ·rw [if_pos c13] at H
    have c13b0 : (a0_0 == 2) = true := beq_iff_eq.mpr c13
    have c13b1 : (a0_0 != 2) = false := bne_eq_false_iff_eq.mpr c13
    clear c13
    have H' := Aside0.mk H
    clear H
    have hcz14_0 : w3.cell? ⟨gb160, 0, none⟩ = some (.int .i64 a0_0) := (blk_cell BK160.out 0).trans rfl
    have hcz14_1 : w3.cell? ⟨gb160, 1, none⟩ = some (.int .i64 a0_1) := (blk_cell BK160.out 1).trans rfl
    have hcz14_2 : w3.cell? ⟨gb160, 2, none⟩ = some (.int .i64 a0_2) := (blk_cell BK160.out 2).trans rfl
    have hcz14_3 : w3.cell? ⟨gb160, 3, none⟩ = some (.slice A0_3 l0_3.length c0_3) := (blk_cell BK160.out 3).trans rfl
    have hfz14_0 := blk_frozen BK160.out 0
    have hfz14_1 := blk_frozen BK160.out 1
    have hfz14_2 := blk_frozen BK160.out 2
    have hfz14_3 := blk_frozen BK160.out 3
    go_wp2
    go_meet
    case rel => exact ⟨_, (true), zT, H', ⟨by first | omega | exact Nat.le_refl _⟩, ⟨by (with_reducible repeat (first | refine blk_drewN ?_ _ | refine blk_drew ?_ | refine blk_alloc ?_ _)); exact BK160.out⟩, ⟨by repeat (first | (with_reducible first | exact HB.out | apply below_alloc | apply pw_below_drewN | apply below_drew1 | refine below_set ?_ GE160.out) | exact HB.out)⟩⟩
   ·rw [if_neg c13] at H
    have c13b0 : (a0_0 == 2) = false := beq_eq_false_iff_ne.mpr c13
    have c13b1 : (a0_0 != 2) = true := bne_iff_ne.mpr c13
    by_cases c15 : a0_0 = 3
    ·rw [if_pos c15] at H
     have c15b0 : (a0_0 == 3) = true := beq_iff_eq.mpr c15
     have c15b1 : (a0_0 != 3) = false := bne_eq_false_iff_eq.mpr c15
     clear c15
     have H' := Aside0.mk H
     clear H
     have hcz16_0 : w3.cell? ⟨gb160, 0, none⟩ = some (.int .i64 a0_0) := (blk_cell BK160.out 0).trans rfl
     have hcz16_1 : w3.cell? ⟨gb160, 1, none⟩ = some (.int .i64 a0_1) := (blk_cell BK160.out 1).trans rfl
     have hcz16_2 : w3.cell? ⟨gb160, 2, none⟩ = some (.int .i64 a0_2) := (blk_cell BK160.out 2).trans rfl
     have hcz16_3 : w3.cell? ⟨gb160, 3, none⟩ = some (.slice A0_3 l0_3.length c0_3) := (blk_cell BK160.out 3).trans rfl
     have hfz16_0 := blk_frozen BK160.out 0
     have hfz16_1 := blk_frozen BK160.out 1
     have hfz16_2 := blk_frozen BK160.out 2
     have hfz16_3 := blk_frozen BK160.out 3
     go_wp2
     go_meet
     case rel => exact ⟨_, (decide ((l0_3.length : Int) ≥ 2)), zT, H', ⟨by first | omega | exact Nat.le_refl _⟩, ⟨by (with_reducible repeat (first | refine blk_drewN ?_ _ | refine blk_drew ?_ | refine blk_alloc ?_ _)); exact BK160.out⟩, ⟨by repeat (first | (with_reducible first | exact HB.out | apply below_alloc | apply pw_below_drewN | apply below_drew1 | refine below_set ?_ GE160.out) | exact HB.out)⟩⟩
    ·rw [if_neg c15] at H
     have c15b0 : (a0_0 == 3) = false := beq_eq_false_iff_ne.mpr c15
     have c15b1 : (a0_0 != 3) = true := bne_iff_ne.mpr c15
     have H' := Aside0.mk H
     clear H
     have hcz17_0 : w3.cell? ⟨gb160, 0, none⟩ = some (.int .i64 a0_0) := (blk_cell BK160.out 0).trans rfl
     have hcz17_1 : w3.cell? ⟨gb160, 1, none⟩ = some (.int .i64 a0_1) := (blk_cell BK160.out 1).trans rfl
     have hcz17_2 : w3.cell? ⟨gb160, 2, none⟩ = some (.int .i64 a0_2) := (blk_cell BK160.out 2).trans rfl
     have hcz17_3 : w3.cell? ⟨gb160, 3, none⟩ = some (.slice A0_3 l0_3.length c0_3) := (blk_cell BK160.out 3).trans rfl
     have hfz17_0 := blk_frozen BK160.out 0
     have hfz17_1 := blk_frozen BK160.out 1
     have hfz17_2 := blk_frozen BK160.out 2
     have hfz17_3 := blk_frozen BK160.out 3
     go_wp2
     go_meet
     case rel => exact ⟨_, (false), zT, H', ⟨by first | omega | exact Nat.le_refl _⟩, ⟨by (with_reducible repeat (first | refine blk_drewN ?_ _ | refine blk_drew ?_ | refine blk_alloc ?_ _)); exact BK160.out⟩, ⟨by repeat (first | (with_reducible first | exact HB.out | apply below_alloc | apply pw_below_drewN | apply below_drew1 | refine below_set ?_ GE160.out) | exact HB.out)⟩⟩
 case rest =>
  clear HC2
  try clear hcz4_0
  try clear hcz4_1
  try clear hcz4_2
  try clear hcz4_3
  try clear hfz4_0
  try clear hfz4_1
  try clear hfz4_2
  try clear hfz4_3
  obtain ⟨kq, x4_1, rfl, HA, HJ1, BK160, HB⟩ := hcut
  cases kq with
  | zero => exact absurd HA.out (by simp [ancepsref08_node.j0])
  | succ kj1 =>
   have H := HA.out
   clear HA
   simp only [ancepsref08_node.j0] at H
   have HC18 := Aside0.mk H
   clear H
   go_upto_region 3 with (fail)
   go_cut [41] (fun v41 wc => ∃ (kq : Nat) (x41_17 : Bool), v41 = .bool x41_17 ∧ Aside0 (ancepsref08_node.j1 kq (l0_3.length : Int) x4_1 x41_17 a0_0 a0_1 a0_2 l0_3 = some r) ∧ Aside0 (kq ≤ kj1) ∧ Aside0 (wc.heap[gb160]? = some (.cells #[.int .i64 a0_0, .int .i64 a0_1, .int .i64 a0_2, (.slice A0_3 l0_3.length c0_3)] 24 (0, 0))) ∧ Aside0 (Below w.heap.size w wc))
   case first =>
    have H := HC18.out
    clear HC18
    by_cases c19 : a0_0 = 4
    ·rw [if_pos c19] at H
     have c19b0 : (a0_0 == 4) = true := beq_iff_eq.mpr c19
     have c19b1 : (a0_0 != 4) = false := bne_eq_false_iff_eq.mpr c19
     clear c19
     (first | rw [c19b0] | (simp only [i64_w, i32_w]; rw [c19b0]) | skip)
     (try rw [c19b1])
     have H' := Aside0.mk H
     clear H
     have hcz20_0 : wc.cell? ⟨gb160, 0, none⟩ = some (.int .i64 a0_0) := (blk_cell BK160.out 0).trans rfl
     have hcz20_1 : wc.cell? ⟨gb160, 1, none⟩ = some (.int .i64 a0_1) := (blk_cell BK160.out 1).trans rfl
     have hcz20_2 : wc.cell? ⟨gb160, 2, none⟩ = some (.int .i64 a0_2) := (blk_cell BK160.out 2).trans rfl
     have hcz20_3 : wc.cell? ⟨gb160, 3, none⟩ = some (.slice A0_3 l0_3.length c0_3) := (blk_cell BK160.out 3).trans rfl
     have hfz20_0 := blk_frozen BK160.out 0
     have hfz20_1 := blk_frozen BK160.out 1
     have hfz20_2 := blk_frozen BK160.out 2
     have hfz20_3 := blk_frozen BK160.out 3
     go_wp2
     go_meet
     case rel => exact ⟨_, (true), zT, H', ⟨by have := HJ1.out; first | omega | exact Nat.le_refl _⟩, ⟨by (with_reducible repeat (first | refine blk_drewN ?_ _ | refine blk_drew ?_ | refine blk_alloc ?_ _)); exact BK160.out⟩, ⟨by repeat (first | (with_reducible first | exact HB.out | apply below_alloc | apply pw_below_drewN | apply below_drew1 | refine below_set ?_ GE160.out) | exact HB.out)⟩⟩
    ·rw [if_neg c19] at H
     have c19b0 : (a0_0 == 4) = false := beq_eq_false_iff_ne.mpr c19
     have c19b1 : (a0_0 != 4) = true := bne_iff_ne.mpr c19
     (first | rw [c19b0] | (simp only [i64_w, i32_w]; rw [c19b0]) | skip)
     (try rw [c19b1])
     by_cases c21 : a0_0 = 5
     ·rw [if_pos c21] at H
      have c21b0 : (a0_0 == 5) = true := beq_iff_eq.mpr c21
      have c21b1 : (a0_0 != 5) = false := bne_eq_false_iff_eq.mpr c21
      clear c21
      have H' := Aside0.mk H
      clear H
      have hcz22_0 : wc.cell? ⟨gb160, 0, none⟩ = some (.int .i64 a0_0) := (blk_cell BK160.out 0).trans rfl
      have hcz22_1 : wc.cell? ⟨gb160, 1, none⟩ = some (.int .i64 a0_1) := (blk_cell BK160.out 1).trans rfl
      have hcz22_2 : wc.cell? ⟨gb160, 2, none⟩ = some (.int .i64 a0_2) := (blk_cell BK160.out 2).trans rfl
      have hcz22_3 : wc.cell? ⟨gb160, 3, none⟩ = some (.slice A0_3 l0_3.length c0_3) := (blk_cell BK160.out 3).trans rfl
      have hfz22_0 := blk_frozen BK160.out 0
      have hfz22_1 := blk_frozen BK160.out 1
      have hfz22_2 := blk_frozen BK160.out 2
      have hfz22_3 := blk_frozen BK160.out 3
      go_wp2
      go_meet
      case rel => exact ⟨_, (true), zT, H', ⟨by have := HJ1.out; first | omega | exact Nat.le_refl _⟩, ⟨by (with_reducible repeat (first | refine blk_drewN ?_ _ | refine blk_drew ?_ | refine blk_alloc ?_ _)); exact BK160.out⟩, ⟨by repeat (first | (with_reducible first | exact HB.out | apply below_alloc | apply pw_below_drewN | apply below_drew1 | refine below_set ?_ GE160.out) | exact HB.out)⟩⟩
     ·rw [if_neg c21] at H
      have c21b0 : (a0_0 == 5) = false := beq_eq_false_iff_ne.mpr c21
      have c21b1 : (a0_0 != 5) = true := bne_iff_ne.mpr c21
      have H' := Aside0.mk H
      clear H
      have hcz23_0 : wc.cell? ⟨gb160, 0, none⟩ = some (.int .i64 a0_0) := (blk_cell BK160.out 0).trans rfl
      have hcz23_1 : wc.cell? ⟨gb160, 1, none⟩ = some (.int .i64 a0_1) := (blk_cell BK160.out 1).trans rfl
      have hcz23_2 : wc.cell? ⟨gb160, 2, none⟩ = some (.int .i64 a0_2) := (blk_cell BK160.out 2).trans rfl
      have hcz23_3 : wc.cell? ⟨gb160, 3, none⟩ = some (.slice A0_3 l0_3.length c0_3) := (blk_cell BK160.out 3).trans rfl
      have hfz23_0 := blk_frozen BK160.out 0
      have hfz23_1 := blk_frozen BK160.out 1
      have hfz23_2 := blk_frozen BK160.out 2
      have hfz23_3 := blk_frozen BK160.out 3
      go_wp2
      go_meet
      case rel => exact ⟨_, ((a0_0 == 6)), zT, H', ⟨by have := HJ1.out; first | omega | exact Nat.le_refl _⟩, ⟨by (with_reducible repeat (first | refine blk_drewN ?_ _ | refine blk_drew ?_ | refine blk_alloc ?_ _)); exact BK160.out⟩, ⟨by repeat (first | (with_reducible first | exact HB.out | apply below_alloc | apply pw_below_drewN | apply below_drew1 | refine below_set ?_ GE160.out) | exact HB.out)⟩⟩
   case rest =>
    clear HC18
    try clear hcz4_0
    try clear hcz4_1
    try clear hcz4_2
    try clear hcz4_3
    try clear hfz4_0
    try clear hfz4_1
    try clear hfz4_2
    try clear hfz4_3
    obtain ⟨kq, x41_17, rfl, HA, HJ17, BK160, HB⟩ := hcut
    cases kq with
    | zero => exact absurd HA.out (by simp [ancepsref08_node.j1])
    | succ kj17 =>
     have H := HA.out
     clear HA
     simp only [ancepsref08_node.j1] at H
     have HC24 := Aside0.mk H
     clear H
     go_upto_if 41 with (fail)
     go_cut [4] (fun v4 wc => ∃ (kq : Nat) (x4_23 : Bool), v4 = .bool x4_23 ∧ Aside0 (ancepsref08_node.j2 kq x4_23 a0_0 a0_1 a0_2 l0_3 = some r) ∧ Aside0 (kq ≤ kj17) ∧ Aside0 (wc.heap[gb160]? = some (.cells #[.int .i64 a0_0, .int .i64 a0_1, .int .i64 a0_2, (.slice A0_3 l0_3.length c0_3)] 24 (0, 0))) ∧ Aside0 (Below w.heap.size w wc))
     case first =>
      have H := HC24.out
      clear HC24
      by_cases c25 : x41_17 = true
      ·subst c25
       have H1 : (ancepsref08_node.j2 kj17 ((l0_3.length : Int) == 1) a0_0 a0_1 a0_2 l0_3) = some r := by rw [if_pos rfl] at H; exact H
       clear H
       have H := H1
       clear H1
       have H' := Aside0.mk H
       clear H
       go_wp2
       go_meet
       case rel => exact ⟨_, (((l0_3.length : Int) == 1)), zT, H', ⟨by have := HJ1.out; have := HJ17.out; first | omega | exact Nat.le_refl _⟩, ⟨by (with_reducible repeat (first | refine blk_drewN ?_ _ | refine blk_drew ?_ | refine blk_alloc ?_ _)); exact BK160.out⟩, ⟨by repeat (first | (with_reducible first | exact HB.out | apply below_alloc | apply pw_below_drewN | apply below_drew1 | refine below_set ?_ GE160.out) | exact HB.out)⟩⟩
      ·replace c25 := Bool.eq_false_iff.mpr c25
       subst c25
       have H1 : (ancepsref08_node.j2 kj17 x4_1 a0_0 a0_1 a0_2 l0_3) = some r := by rw [if_neg (show ¬ (false = true) by decide)] at H; exact H
       clear H
       have H := H1
       clear H1
       have H' := Aside0.mk H
       clear H
       go_wp2
       go_meet
       case rel => exact ⟨_, (x4_1), zT, H', ⟨by have := HJ1.out; have := HJ17.out; first | omega | exact Nat.le_refl _⟩, ⟨by (with_reducible repeat (first | refine blk_drewN ?_ _ | refine blk_drew ?_ | refine blk_alloc ?_ _)); exact BK160.out⟩, ⟨by repeat (first | (with_reducible first | exact HB.out | apply below_alloc | apply pw_below_drewN | apply below_drew1 | refine below_set ?_ GE160.out) | exact HB.out)⟩⟩
     case rest =>
      clear HC24
      try clear hcz4_0
      try clear hcz4_1
      try clear hcz4_2
      try clear hcz4_3
      try clear hfz4_0
      try clear hfz4_1
      try clear hfz4_2
      try clear hfz4_3
      obtain ⟨kq, x4_23, rfl, HA, HJ23, BK160, HB⟩ := hcut
      cases kq with
      | zero => exact absurd HA.out (by simp [ancepsref08_node.j2])
      | succ kj23 =>
       have H := HA.out
       clear HA
       simp only [ancepsref08_node.j2] at H
       have HC26 := Aside0.mk H
       clear H
       go_upto_region 5 with (fail)
       go_cut [65] (fun v65 wc => ∃ (kq : Nat) (x65_25 : Bool), v65 = .bool x65_25 ∧ Aside0 (ancepsref08_node.j3 kq x65_25 a0_0 a0_1 a0_2 l0_3 = some r) ∧ Aside0 (kq ≤ kj23) ∧ Aside0 (wc.heap[gb160]? = some (.cells #[.int .i64 a0_0, .int .i64 a0_1, .int .i64 a0_2, (.slice A0_3 l0_3.length c0_3)] 24 (0, 0))) ∧ Aside0 (Below w.heap.size w wc))
       case first =>
        have H := HC26.out
        clear HC26
        by_cases c27 : x4_23 = true
        ·subst c27
         have H1 : (if a0_0 = 1 then (if a0_0 = 4 then (ancepsref08_node.j3 kj23 false a0_0 a0_1 a0_2 l0_3) else (ancepsref08_node.j3 kj23 (a0_2 != 0) a0_0 a0_1 a0_2 l0_3)) else (if a0_1 = 0 then (if a0_0 = 4 then (ancepsref08_node.j3 kj23 false a0_0 a0_1 a0_2 l0_3) else (ancepsref08_node.j3 kj23 (a0_2 != 0) a0_0 a0_1 a0_2 l0_3)) else (ancepsref08_node.j3 kj23 true a0_0 a0_1 a0_2 l0_3))) = some r := by rw [if_pos rfl] at H; exact H
         clear H
         have H := H1
         clear H1
         by_cases c28 : a0_0 = 1
         ·rw [if_pos c28] at H
          have c28b0 : (a0_0 == 1) = true := beq_iff_eq.mpr c28
          have c28b1 : (a0_0 != 1) = false := bne_eq_false_iff_eq.mpr c28
          clear c28
          (first | rw [c28b0] | (simp only [i64_w, i32_w]; rw [c28b0]) | skip)
          (try rw [c28b1])
          by_cases c29 : a0_0 = 4
          ·rw [if_pos c29] at H
           have c29b0 : (a0_0 == 4) = true := beq_iff_eq.mpr c29
           have c29b1 : (a0_0 != 4) = false := bne_eq_false_iff_eq.mpr c29
           clear c29
           have H' := Aside0.mk H
           clear H
           have hcz30_0 : wc.cell? ⟨gb160, 0, none⟩ = some (.int .i64 a0_0) := (blk_cell BK160.out 0).trans rfl
           have hcz30_1 : wc.cell? ⟨gb160, 1, none⟩ = some (.int .i64 a0_1) := (blk_cell BK160.out 1).trans rfl
           have hcz30_2 : wc.cell? ⟨gb160, 2, none⟩ = some (.int .i64 a0_2) := (blk_cell BK160.out 2).trans rfl
           have hcz30_3 : wc.cell? ⟨gb160, 3, none⟩ = some (.slice A0_3 l0_3.length c0_3) := (blk_cell BK160.out 3).trans rfl
           have hfz30_0 := blk_frozen BK160.out 0
           have hfz30_1 := blk_frozen BK160.out 1
           have hfz30_2 := blk_frozen BK160.out 2
           have hfz30_3 := blk_frozen BK160.out 3
           go_wp2
           go_meet
           case rel => exact ⟨_, (false), zT, H', ⟨by have := HJ1.out; have := HJ17.out; have := HJ23.out; first | omega | exact Nat.le_refl _⟩, ⟨by (with_reducible repeat (first | refine blk_drewN ?_ _ | refine blk_drew ?_ | refine blk_alloc ?_ _)); exact BK160.out⟩, ⟨by repeat (first | (with_reducible first | exact HB.out | apply below_alloc | apply pw_below_drewN | apply below_drew1 | refine below_set ?_ GE160.out) | exact HB.out)⟩⟩
          ·rw [if_neg c29] at H
           have c29b0 : (a0_0 == 4) = false := beq_eq_false_iff_ne.mpr c29
           have c29b1 : (a0_0 != 4) = true := bne_iff_ne.mpr c29
           have H' := Aside0.mk H
           clear H
           have hcz31_0 : wc.cell? ⟨gb160, 0, none⟩ = some (.int .i64 a0_0) := (blk_cell BK160.out 0).trans rfl
           have hcz31_1 : wc.cell? ⟨gb160, 1, none⟩ = some (.int .i64 a0_1) := (blk_cell BK160.out 1).trans rfl
           have hcz31_2 : wc.cell? ⟨gb160, 2, none⟩ = some (.int .i64 a0_2) := (blk_cell BK160.out 2).trans rfl
           have hcz31_3 : wc.cell? ⟨gb160, 3, none⟩ = some (.slice A0_3 l0_3.length c0_3) := (blk_cell BK160.out 3).trans rfl
           have hfz31_0 := blk_frozen BK160.out 0
           have hfz31_1 := blk_frozen BK160.out 1
           have hfz31_2 := blk_frozen BK160.out 2
           have hfz31_3 := blk_frozen BK160.out 3
           go_wp2
           go_meet
           case rel => exact ⟨_, ((a0_2 != 0)), zT, H', ⟨by have := HJ1.out; have := HJ17.out; have := HJ23.out; first | omega | exact Nat.le_refl _⟩, ⟨by (with_reducible repeat (first | refine blk_drewN ?_ _ | refine blk_drew ?_ | refine blk_alloc ?_ _)); exact BK160.out⟩, ⟨by repeat (first | (with_reducible first | exact HB.out | apply below_alloc | apply pw_below_drewN | apply below_drew1 | refine below_set ?_ GE160.out) | exact HB.out)⟩⟩
         ·rw [if_neg c28] at H
          have c28b0 : (a0_0 == 1) = false := beq_eq_false_iff_ne.mpr c28
          have c28b1 : (a0_0 != 1) = true := bne_iff_ne.mpr c28
          (first | rw [c28b0] | (simp only [i64_w, i32_w]; rw [c28b0]) | skip)
          (try rw [c28b1])
          by_cases c32 : a0_1 = 0
          ·rw [if_pos c32] at H
           have c32b0 : (a0_1 == 0) = true := beq_iff_eq.mpr c32
           have c32b1 : (a0_1 != 0) = false := bne_eq_false_iff_eq.mpr c32
           clear c32
           by_cases c33 : a0_0 = 4
           ·rw [if_pos c33] at H
            have c33b0 : (a0_0 == 4) = true := beq_iff_eq.mpr c33
            have c33b1 : (a0_0 != 4) = false := bne_eq_false_iff_eq.mpr c33
            clear c33
            have H' := Aside0.mk H
            clear H
            have hcz34_0 : wc.cell? ⟨gb160, 0, none⟩ = some (.int .i64 a0_0) := (blk_cell BK160.out 0).trans rfl
            have hcz34_1 : wc.cell? ⟨gb160, 1, none⟩ = some (.int .i64 a0_1) := (blk_cell BK160.out 1).trans rfl
            have hcz34_2 : wc.cell? ⟨gb160, 2, none⟩ = some (.int .i64 a0_2) := (blk_cell BK160.out 2).trans rfl
            have hcz34_3 : wc.cell? ⟨gb160, 3, none⟩ = some (.slice A0_3 l0_3.length c0_3) := (blk_cell BK160.out 3).trans rfl
            have hfz34_0 := blk_frozen BK160.out 0
            have hfz34_1 := blk_frozen BK160.out 1
            have hfz34_2 := blk_frozen BK160.out 2
            have hfz34_3 := blk_frozen BK160.out 3
            go_wp2
            go_meet
            case rel => exact ⟨_, (false), zT, H', ⟨by have := HJ1.out; have := HJ17.out; have := HJ23.out; first | omega | exact Nat.le_refl _⟩, ⟨by (with_reducible repeat (first | refine blk_drewN ?_ _ | refine blk_drew ?_ | refine blk_alloc ?_ _)); exact BK160.out⟩, ⟨by repeat (first | (with_reducible first | exact HB.out | apply below_alloc | apply pw_below_drewN | apply below_drew1 | refine below_set ?_ GE160.out) | exact HB.out)⟩⟩
           ·rw [if_neg c33] at H
            have c33b0 : (a0_0 == 4) = false := beq_eq_false_iff_ne.mpr c33
            have c33b1 : (a0_0 != 4) = true := bne_iff_ne.mpr c33
            have H' := Aside0.mk H
            clear H
            have hcz35_0 : wc.cell? ⟨gb160, 0, none⟩ = some (.int .i64 a0_0) := (blk_cell BK160.out 0).trans rfl
            have hcz35_1 : wc.cell? ⟨gb160, 1, none⟩ = some (.int .i64 a0_1) := (blk_cell BK160.out 1).trans rfl
            have hcz35_2 : wc.cell? ⟨gb160, 2, none⟩ = some (.int .i64 a0_2) := (blk_cell BK160.out 2).trans rfl
            have hcz35_3 : wc.cell? ⟨gb160, 3, none⟩ = some (.slice A0_3 l0_3.length c0_3) := (blk_cell BK160.out 3).trans rfl
            have hfz35_0 := blk_frozen BK160.out 0
            have hfz35_1 := blk_frozen BK160.out 1
            have hfz35_2 := blk_frozen BK160.out 2
            have hfz35_3 := blk_frozen BK160.out 3
            go_wp2
            go_meet
            case rel => exact ⟨_, ((a0_2 != 0)), zT, H', ⟨by have := HJ1.out; have := HJ17.out; have := HJ23.out; first | omega | exact Nat.le_refl _⟩, ⟨by (with_reducible repeat (first | refine blk_drewN ?_ _ | refine blk_drew ?_ | refine blk_alloc ?_ _)); exact BK160.out⟩, ⟨by repeat (first | (with_reducible first | exact HB.out | apply below_alloc | apply pw_below_drewN | apply below_drew1 | refine below_set ?_ GE160.out) | exact HB.out)⟩⟩
          ·rw [if_neg c32] at H
           have c32b0 : (a0_1 == 0) = false := beq_eq_false_iff_ne.mpr c32
           have c32b1 : (a0_1 != 0) = true := bne_iff_ne.mpr c32
           have H' := Aside0.mk H
           clear H
           have hcz36_0 : wc.cell? ⟨gb160, 0, none⟩ = some (.int .i64 a0_0) := (blk_cell BK160.out 0).trans rfl
           have hcz36_1 : wc.cell? ⟨gb160, 1, none⟩ = some (.int .i64 a0_1) := (blk_cell BK160.out 1).trans rfl
           have hcz36_2 : wc.cell? ⟨gb160, 2, none⟩ = some (.int .i64 a0_2) := (blk_cell BK160.out 2).trans rfl
           have hcz36_3 : wc.cell? ⟨gb160, 3, none⟩ = some (.slice A0_3 l0_3.length c0_3) := (blk_cell BK160.out 3).trans rfl
           have hfz36_0 := blk_frozen BK160.out 0
           have hfz36_1 := blk_frozen BK160.out 1
           have hfz36_2 := blk_frozen BK160.out 2
           have hfz36_3 := blk_frozen BK160.out 3
           go_wp2
           go_meet
           case rel => exact ⟨_, (true), zT, H', ⟨by have := HJ1.out; have := HJ17.out; have := HJ23.out; first | omega | exact Nat.le_refl _⟩, ⟨by (with_reducible repeat (first | refine blk_drewN ?_ _ | refine blk_drew ?_ | refine blk_alloc ?_ _)); exact BK160.out⟩, ⟨by repeat (first | (with_reducible first | exact HB.out | apply below_alloc | apply pw_below_drewN | apply below_drew1 | refine below_set ?_ GE160.out) | exact HB.out)⟩⟩
        ·replace c27 := Bool.eq_false_iff.mpr c27
         subst c27
         have H1 : (ancepsref08_node.j3 kj23 true a0_0 a0_1 a0_2 l0_3) = some r := by rw [if_neg (show ¬ (false = true) by decide)] at H; exact H
         clear H
         have H := H1
         clear H1
         have H' := Aside0.mk H
         clear H
         go_wp2
         go_meet
         case rel => exact ⟨_, (true), zT, H', ⟨by have := HJ1.out; have := HJ17.out; have := HJ23.out; first | omega | exact Nat.le_refl _⟩, ⟨by (with_reducible repeat (first | refine blk_drewN ?_ _ | refine blk_drew ?_ | refine blk_alloc ?_ _)); exact BK160.out⟩, ⟨by repeat (first | (with_reducible first | exact HB.out | apply below_alloc | apply pw_below_drewN | apply below_drew1 | refine below_set ?_ GE160.out) | exact HB.out)⟩⟩
       case rest =>
        clear HC26
        try clear hcz4_0
        try clear hcz4_1
        try clear hcz4_2
        try clear hcz4_3
        try clear hfz4_0
        try clear hfz4_1
        try clear hfz4_2
        try clear hfz4_3
        obtain ⟨kq, x65_25, rfl, HA, HJ25, BK160, HB⟩ := hcut
        cases kq with
        | zero => exact absurd HA.out (by simp [ancepsref08_node.j3])
        | succ kj25 =>
         have H := HA.out
         clear HA
         simp only [ancepsref08_node.j3] at H
         by_cases c37 : x65_25 = true
         ·subst c37
          have H1 : (some 1) = some r := by rw [if_pos rfl] at H; exact H
          clear H
          have H := H1
          clear H1
          obtain rfl := Option.some.inj H
          go_wp2
          go_ret
          exact ⟨by first | rfl | (simp [errW_none, errW_some] <;> rfl) | (simp [*, errW_none, errW_some] <;> rfl), by repeat (first | (with_reducible first | exact HB.out | apply below_alloc | apply pw_below_drewN | apply below_drew1 | refine below_set ?_ GE160.out) | exact HB.out)⟩
         ·replace c37 := Bool.eq_false_iff.mpr c37
          subst c37
          have H1 : (if a0_1 < 0 then (some 6) else (if a0_1 > 255 then (some 6) else (if a0_2 < 0 then (some 6) else (if a0_2 > 9 then (some 6) else (some 0))))) = some r := by rw [if_neg (show ¬ (false = true) by decide)] at H; exact H
          clear H
          have H := H1
          clear H1
          by_cases c38 : a0_1 < 0
          ·rw [if_pos c38] at H
           have c38b0 : decide (a0_1 < 0) = true := decide_eq_true c38
           clear c38
           obtain rfl := Option.some.inj H
           have hcz39_0 : wc.cell? ⟨gb160, 0, none⟩ = some (.int .i64 a0_0) := (blk_cell BK160.out 0).trans rfl
           have hcz39_1 : wc.cell? ⟨gb160, 1, none⟩ = some (.int .i64 a0_1) := (blk_cell BK160.out 1).trans rfl
           have hcz39_2 : wc.cell? ⟨gb160, 2, none⟩ = some (.int .i64 a0_2) := (blk_cell BK160.out 2).trans rfl
           have hcz39_3 : wc.cell? ⟨gb160, 3, none⟩ = some (.slice A0_3 l0_3.length c0_3) := (blk_cell BK160.out 3).trans rfl
           have hfz39_0 := blk_frozen BK160.out 0
           have hfz39_1 := blk_frozen BK160.out 1
           have hfz39_2 := blk_frozen BK160.out 2
           have hfz39_3 := blk_frozen BK160.out 3
           go_wp2
           go_ret
           exact ⟨by first | rfl | (simp [errW_none, errW_some] <;> rfl) | (simp [*, errW_none, errW_some] <;> rfl), by repeat (first | (with_reducible first | exact HB.out | apply below_alloc | apply pw_below_drewN | apply below_drew1 | refine below_set ?_ GE160.out) | exact HB.out)⟩
          ·rw [if_neg c38] at H
           have c38b0 : decide (a0_1 < 0) = false := decide_eq_false c38
           clear c38
           by_cases c40 : a0_1 > 255
           ·rw [if_pos c40] at H
            have c40b0 : decide (255 < a0_1) = true := decide_eq_true c40
            clear c40
            obtain rfl := Option.some.inj H
            have hcz41_0 : wc.cell? ⟨gb160, 0, none⟩ = some (.int .i64 a0_0) := (blk_cell BK160.out 0).trans rfl
            have hcz41_1 : wc.cell? ⟨gb160, 1, none⟩ = some (.int .i64 a0_1) := (blk_cell BK160.out 1).trans rfl
            have hcz41_2 : wc.cell? ⟨gb160, 2, none⟩ = some (.int .i64 a0_2) := (blk_cell BK160.out 2).trans rfl
            have hcz41_3 : wc.cell? ⟨gb160, 3, none⟩ = some (.slice A0_3 l0_3.length c0_3) := (blk_cell BK160.out 3).trans rfl
            have hfz41_0 := blk_frozen BK160.out 0
            have hfz41_1 := blk_frozen BK160.out 1
            have hfz41_2 := blk_frozen BK160.out 2
            have hfz41_3 := blk_frozen BK160.out 3
            go_wp2
            go_ret
            exact ⟨by first | rfl | (simp [errW_none, errW_some] <;> rfl) | (simp [*, errW_none, errW_some] <;> rfl), by repeat (first | (with_reducible first | exact HB.out | apply below_alloc | apply pw_below_drewN | apply below_drew1 | refine below_set ?_ GE160.out) | exact HB.out)⟩
           ·rw [if_neg c40] at H
            have c40b0 : decide (255 < a0_1) = false := decide_eq_false c40
            clear c40
            by_cases c42 : a0_2 < 0
            ·rw [if_pos c42] at H
             have c42b0 : decide (a0_2 < 0) = true := decide_eq_true c42
             clear c42
             obtain rfl := Option.some.inj H
             have hcz43_0 : wc.cell? ⟨gb160, 0, none⟩ = some (.int .i64 a0_0) := (blk_cell BK160.out 0).trans rfl
             have hcz43_1 : wc.cell? ⟨gb160, 1, none⟩ = some (.int .i64 a0_1) := (blk_cell BK160.out 1).trans rfl
             have hcz43_2 : wc.cell? ⟨gb160, 2, none⟩ = some (.int .i64 a0_2) := (blk_cell BK160.out 2).trans rfl
             have hcz43_3 : wc.cell? ⟨gb160, 3, none⟩ = some (.slice A0_3 l0_3.length c0_3) := (blk_cell BK160.out 3).trans rfl
             have hfz43_0 := blk_frozen BK160.out 0
             have hfz43_1 := blk_frozen BK160.out 1
             have hfz43_2 := blk_frozen BK160.out 2
             have hfz43_3 := blk_frozen BK160.out 3
             go_wp2
             go_ret
             exact ⟨by first | rfl | (simp [errW_none, errW_some] <;> rfl) | (simp [*, errW_none, errW_some] <;> rfl), by repeat (first | (with_reducible first | exact HB.out | apply below_alloc | apply pw_below_drewN | apply below_drew1 | refine below_set ?_ GE160.out) | exact HB.out)⟩
            ·rw [if_neg c42] at H
             have c42b0 : decide (a0_2 < 0) = false := decide_eq_false c42
             clear c42
             by_cases c44 : a0_2 > 9
             ·rw [if_pos c44] at H
              have c44b0 : decide (9 < a0_2) = true := decide_eq_true c44
              clear c44
              obtain rfl := Option.some.inj H
              have hcz45_0 : wc.cell? ⟨gb160, 0, none⟩ = some (.int .i64 a0_0) := (blk_cell BK160.out 0).trans rfl
              have hcz45_1 : wc.cell? ⟨gb160, 1, none⟩ = some (.int .i64 a0_1) := (blk_cell BK160.out 1).trans rfl
              have hcz45_2 : wc.cell? ⟨gb160, 2, none⟩ = some (.int .i64 a0_2) := (blk_cell BK160.out 2).trans rfl
              have hcz45_3 : wc.cell? ⟨gb160, 3, none⟩ = some (.slice A0_3 l0_3.length c0_3) := (blk_cell BK160.out 3).trans rfl
              have hfz45_0 := blk_frozen BK160.out 0
              have hfz45_1 := blk_frozen BK160.out 1
              have hfz45_2 := blk_frozen BK160.out 2
              have hfz45_3 := blk_frozen BK160.out 3
              go_wp2
              go_ret
              exact ⟨by first | rfl | (simp [errW_none, errW_some] <;> rfl) | (simp [*, errW_none, errW_some] <;> rfl), by repeat (first | (with_reducible first | exact HB.out | apply below_alloc | apply pw_below_drewN | apply below_drew1 | refine below_set ?_ GE160.out) | exact HB.out)⟩
             ·rw [if_neg c44] at H
              have c44b0 : decide (9 < a0_2) = false := decide_eq_false c44
              clear c44
              obtain rfl := Option.some.inj H
              have hcz46_0 : wc.cell? ⟨gb160, 0, none⟩ = some (.int .i64 a0_0) := (blk_cell BK160.out 0).trans rfl
              have hcz46_1 : wc.cell? ⟨gb160, 1, none⟩ = some (.int .i64 a0_1) := (blk_cell BK160.out 1).trans rfl
              have hcz46_2 : wc.cell? ⟨gb160, 2, none⟩ = some (.int .i64 a0_2) := (blk_cell BK160.out 2).trans rfl
              have hcz46_3 : wc.cell? ⟨gb160, 3, none⟩ = some (.slice A0_3 l0_3.length c0_3) := (blk_cell BK160.out 3).trans rfl
              have hfz46_0 := blk_frozen BK160.out 0
              have hfz46_1 := blk_frozen BK160.out 1
              have hfz46_2 := blk_frozen BK160.out 2
              have hfz46_3 := blk_frozen BK160.out 3
              go_wp2
              go_ret
              exact ⟨by first | rfl | (simp [errW_none, errW_some] <;> rfl) | (simp [*, errW_none, errW_some] <;> rfl), by repeat (first | (with_reducible first | exact HB.out | apply below_alloc | apply pw_below_drewN | apply below_drew1 | refine below_set ?_ GE160.out) | exact HB.out)⟩
/-! ### ancepsref08_nodes: function 36 -/
mutual
def ancepsref08_nodes.l0 : Nat → Int → Int → Int → Int → List (S24) → Option (Int)
 | 0, _, _, _, _, _ => none
 | k + 1, x4, x162000, x162001, x162002, x162003 => if x4 < (x162003.length : Int) then (if 0 ≤ x4 then ((ancepsref08_nodes.f k ((rd_T24 x162003 x4).f0) ((rd_T24 x162003 x4).f1) ((rd_T24 x162003 x4).f2) ((rd_T24 x162003 x4).f3)).bind fun t164 => (if t164 = 0 then (ancepsref08_nodes.l0 k (wrap64 (x4 + 1)) x162000 x162001 x162002 x162003) else (some t164))) else (none)) else (some 0)
def ancepsref08_nodes.f : Nat → Int → Int → Int → List (S24) → Option (Int)
 | 0, _, _, _, _ => none
 | k + 1, a0_0, a0_1, a0_2, l0_3 => (ancepsref08_node.f k a0_0 a0_1 a0_2 l0_3).bind fun t162 => (if t162 = 0 then (ancepsref08_nodes.l0 k 0 a0_0 a0_1 a0_2 l0_3) else (some t162))
end
theorem ancepsref08_nodes.mono_l : ∀ k, (∀ y0 y1 y2 y3, LeO (ancepsref08_nodes.f k y0 y1 y2 y3) (ancepsref08_nodes.f (k + 1) y0 y1 y2 y3)) ∧ (∀ y0 y1 y2 y3 y4, LeO (ancepsref08_nodes.l0 k y0 y1 y2 y3 y4) (ancepsref08_nodes.l0 (k + 1) y0 y1 y2 y3 y4))
 | 0 => ⟨fun _ _ _ _ r h => by simp [ancepsref08_nodes.f] at h, fun _ _ _ _ _ r h => by simp [ancepsref08_nodes.l0] at h⟩
 | k + 1 => by
  obtain ⟨ih0, ih1⟩ := ancepsref08_nodes.mono_l k
  refine ⟨?_, ?_⟩
  ·intro y0 y1 y2 y3
   unfold ancepsref08_nodes.f
   repeat' first
   | (with_reducible exact ih0 _ _ _ _)
   | (with_reducible exact ih1 _ _ _ _ _)
   | (with_reducible exact ancepsref08_node.mono _ _ _ _ _)
   | (with_reducible exact LeO.refl _)
   | (with_reducible exact LeO.none _)
   | (with_reducible refine LeO.ite ?_ ?_)
   | (with_reducible refine LeO.bind ?_ (fun _ => ?_))
   | exact ih0 _ _ _ _
   | exact ih1 _ _ _ _ _
   | exact ancepsref08_node.mono _ _ _ _ _
   | exact LeO.none _
   | refine LeO.ite ?_ ?_
   | refine LeO.bind ?_ (fun _ => ?_)
  ·intro y0 y1 y2 y3 y4
   unfold ancepsref08_nodes.l0
   repeat' first
   | (with_reducible exact ih0 _ _ _ _)
   | (with_reducible exact ih1 _ _ _ _ _)
   | (with_reducible exact ancepsref08_node.mono _ _ _ _ _)
   | (with_reducible exact LeO.refl _)
   | (with_reducible exact LeO.none _)
   | (with_reducible refine LeO.ite ?_ ?_)
   | (with_reducible refine LeO.bind ?_ (fun _ => ?_))
   | exact ih0 _ _ _ _
   | exact ih1 _ _ _ _ _
   | exact ancepsref08_node.mono _ _ _ _ _
   | exact LeO.none _
   | refine LeO.ite ?_ ?_
   | refine LeO.bind ?_ (fun _ => ?_)
theorem ancepsref08_nodes.mono : ∀ a0 a1 a2 a3 k, LeO (ancepsref08_nodes.f k a0 a1 a2 a3) (ancepsref08_nodes.f (k + 1) a0 a1 a2 a3) := by
 intro a0 a1 a2 a3 k
 obtain ⟨ih0, ih1⟩ := ancepsref08_nodes.mono_l k
 exact ih0 a0 a1 a2 a3
set_option maxHeartbeats 8000000 in
set_option maxRecDepth 100000 in
theorem ancepsref08_nodes.calls (k : Nat) : ∀ (a0_0 : Int) (a0_1 : Int) (a0_2 : Int) (A0_3 : Option Addr) (c0_3 : Nat) (l0_3 : List (S24)) (r : Int) (w : World) (hr0_3 : Kd.C k24 w A0_3 l0_3.length l0_3) (hc0_3 : l0_3.length ≤ c0_3) (h : ancepsref08_nodes.f k a0_0 a0_1 a0_2 l0_3 = some r),
  Calls Try.prog 36 #[.agg #[.int .i64 a0_0, .int .i64 a0_1, .int .i64 a0_2, .slice A0_3 l0_3.length c0_3]] w fun e w' => e = .returned (.int .i64 r) ∧ Below w.heap.size w w' := by
 induction k using Nat.strongRecOn with
 | _ k ih =>
 intro a0_0 a0_1 a0_2 A0_3 c0_3 l0_3 r w hr0_3 hc0_3 h
 cases k with
 | zero => exact absurd h (by simp [ancepsref08_nodes.f])
 | succ k =>
 simp only [ancepsref08_nodes.f] at h
 have hu24 := Try.underlying24
 have hu22 := Try.underlying22
 have HR0_3 := Aside0.mk hr0_3
 have HC0_3 := Aside0.mk hc0_3
 clear hr0_3 hc0_3
 have HB := Aside0.mk (Below.refl w.heap.size w)
 have H : ((ancepsref08_node.f k a0_0 a0_1 a0_2 l0_3).bind fun t162 => (if t162 = 0 then (ancepsref08_nodes.l0 k 0 a0_0 a0_1 a0_2 l0_3) else (some t162))) = some r := h
 clear h
 replace H := Option.bind_eq_some_iff.mp H
 obtain ⟨t162, A20, H⟩ := H
 replace H : (if t162 = 0 then (ancepsref08_nodes.l0 k 0 a0_0 a0_1 a0_2 l0_3) else (some t162)) = some r := H
 have A2 := Aside0.mk A20
 clear A20
 have HC3 := Aside0.mk H
 clear H
 go_enter Try.func36, Try.ntmps36
 go_upto_if 9 with (first | ((with_reducible refine gate_dst (N := 1) rfl ?_); refine box_event ?hg (N := 1) ?hd (cs := #[.int .i64 a0_0, .int .i64 a0_1, .int .i64 a0_2, .slice A0_3 l0_3.length c0_3]) (t := 24) ?hr ?_; (case hd => rfl); (case hg => rfl); (case hr => first | (go_simp; done) | (go_simp; rfl)); intro gb161 hg w4 hbox hb; have n0_ := Aside0.mk (below_step zB hb); have n1_ := Aside0.mk (hbox); have n2_ := Aside0.mk ((by rw [hg]; exact (below_size zB) : w.heap.size ≤ gb161)); have n3_ := Aside0.mk ((by rw [hg]; exact (below_size zB) : w.heap.size ≤ gb161)); clear HB; have HB := n0_; have BK161 := n1_; have GW161 := n2_; have GE161 := n3_; clear n0_ n1_ n2_ n3_; clear hb hbox hg; have hcz5_0 : w4.cell? ⟨gb161, 0, none⟩ = some (.int .i64 a0_0) := (blk_cell BK161.out 0).trans rfl; have hcz5_1 : w4.cell? ⟨gb161, 1, none⟩ = some (.int .i64 a0_1) := (blk_cell BK161.out 1).trans rfl; have hcz5_2 : w4.cell? ⟨gb161, 2, none⟩ = some (.int .i64 a0_2) := (blk_cell BK161.out 2).trans rfl; have hcz5_3 : w4.cell? ⟨gb161, 3, none⟩ = some (.slice A0_3 l0_3.length c0_3) := (blk_cell BK161.out 3).trans rfl; have hfz5_0 := blk_frozen BK161.out 0; have hfz5_1 := blk_frozen BK161.out 1; have hfz5_2 := blk_frozen BK161.out 2; have hfz5_3 := blk_frozen BK161.out 3) | ((with_reducible refine gate_callee (f := 55) rfl ?_); refine goesL_ (some 7) rfl rfl Try.func55 zK rfl #[.agg #[.int .i64 a0_0, .int .i64 a0_1, .int .i64 a0_2, .slice A0_3 l0_3.length c0_3]] rfl zM ?_; (with_reducible refine (ancepsref08_node.calls k a0_0 a0_1 a0_2 _ _ l0_3 t162 _ ?side1 ?side2 A2.out).mono ?_); (case side1 => repeat (first | exact (Kd.C_below HR0_3.out HB.out) | (with_reducible refine Kd.C_alloc ?_ _) | (with_reducible refine Kd.C_drewN ?_ _) | (with_reducible refine Kd.C_drew ?_))); (case side2 => exact HC0_3.out); rintro e w6 ⟨rfl, hb⟩; refine ⟨_, rfl, ?_⟩; have n0_ := Aside0.mk (blk_below (g := gb161) (o := .cells #[.int .i64 a0_0, .int .i64 a0_1, .int .i64 a0_2, .slice A0_3 l0_3.length c0_3] 24 (0, 0)) (zk BK161) hb); have n1_ := Aside0.mk (below_step zB hb); clear BK161; clear HB; have BK161 := n0_; have HB := n1_; clear n0_ n1_; (try clear hb); (try clear hb2); (try clear hk); (try clear hi)))
 (try simp only [Act.put, List.setIfInBounds_toArray, List.set_cons_zero, List.set_cons_succ])
 have H := HC3.out
 clear HC3
 by_cases c7 : t162 = 0
 ·rw [if_pos c7] at H
  have c7b0 : (t162 == 0) = true := beq_iff_eq.mpr c7
  have c7b1 : (t162 != 0) = false := bne_eq_false_iff_eq.mpr c7
  clear c7
  (first | rw [c7b0] | (simp only [i64_w, i32_w]; rw [c7b0]) | skip)
  (try rw [c7b1])
  have H' := Aside0.mk H
  clear H
  go_wp2
  go_loopg [4] k (fun kq v4 w' => ∃ (x4_1 : Int), v4 = .int .i64 x4_1 ∧ Aside0 (ancepsref08_nodes.l0 kq x4_1 a0_0 a0_1 a0_2 l0_3 = some r) ∧ Aside0 (kq ≤ k) ∧ Aside0 (w'.heap[gb161]? = some (.cells #[.int .i64 a0_0, .int .i64 a0_1, .int .i64 a0_2, (.slice A0_3 l0_3.length c0_3)] 24 (0, 0))) ∧ Aside0 (Below w.heap.size w w'))
  case atStart => exact ⟨(0), zT, H', ⟨Nat.le_refl _⟩, ⟨by (with_reducible repeat (first | refine blk_drewN ?_ _ | refine blk_drew ?_ | refine blk_alloc ?_ _)); exact BK161.out⟩, ⟨by repeat (first | (with_reducible first | exact HB.out | apply below_alloc | apply pw_below_drewN | apply below_drew1 | refine below_set ?_ GE161.out) | exact HB.out)⟩⟩
  case round =>
   clear H'
   try clear c7
   try clear c7b0
   try clear c7b1
   try clear hcz5_0
   try clear hcz5_1
   try clear hcz5_2
   try clear hcz5_3
   try clear hfz5_0
   try clear hfz5_1
   try clear hfz5_2
   try clear hfz5_3
   obtain ⟨x4_1, rfl, HA, HK1, BK161, HB⟩ := hrel
   cases gk with
   | zero => exact absurd HA.out (by simp [ancepsref08_nodes.l0])
   | succ k1 =>
    have H := HA.out
    clear HA
    simp only [ancepsref08_nodes.l0] at H
    by_cases c8 : x4_1 < (l0_3.length : Int)
    ·rw [if_pos c8] at H
     have c8b0 : decide (x4_1 < (l0_3.length : Int)) = true := decide_eq_true c8
     clear c8
     by_cases c9 : 0 ≤ x4_1
     ·rw [if_pos c9] at H
      have c9b0 : decide (0 ≤ x4_1) = true := decide_eq_true c9
      clear c9
      replace H := Option.bind_eq_some_iff.mp H
      obtain ⟨t164, A100, H⟩ := H
      replace H : (if t164 = 0 then (ancepsref08_nodes.l0 k1 (wrap64 (x4_1 + 1)) a0_0 a0_1 a0_2 l0_3) else (some t164)) = some r := H
      have A10 := Aside0.mk A100
      clear A100
      have HC11 := Aside0.mk H
      clear H
      have hcz12_0 : wr.cell? ⟨gb161, 0, none⟩ = some (.int .i64 a0_0) := (blk_cell BK161.out 0).trans rfl
      have hcz12_1 : wr.cell? ⟨gb161, 1, none⟩ = some (.int .i64 a0_1) := (blk_cell BK161.out 1).trans rfl
      have hcz12_2 : wr.cell? ⟨gb161, 2, none⟩ = some (.int .i64 a0_2) := (blk_cell BK161.out 2).trans rfl
      have hcz12_3 : wr.cell? ⟨gb161, 3, none⟩ = some (.slice A0_3 l0_3.length c0_3) := (blk_cell BK161.out 3).trans rfl
      have hfz12_0 := blk_frozen BK161.out 0
      have hfz12_1 := blk_frozen BK161.out 1
      have hfz12_2 := blk_frozen BK161.out 2
      have hfz12_3 := blk_frozen BK161.out 3
      have p163 : 0 ≤ (x4_1 : Int) := of_decide_eq_true zh
      have q163 : x4_1 < (l0_3.length : Int) := of_decide_eq_true zh
      obtain ⟨ad163, A163_3, c163_3, e163, hx163_0, hx163_1, hx163_2, hx163_3, hl163_3, hi163_3⟩ := at_T24 HR0_3.out x4_1 p163 q163
      cases e163
      replace hx163_0 := (HB.out.cell (World.block_lt_of_cell? w _ hx163_0)).trans hx163_0
      replace hx163_1 := (HB.out.cell (World.block_lt_of_cell? w _ hx163_1)).trans hx163_1
      replace hx163_2 := (HB.out.cell (World.block_lt_of_cell? w _ hx163_2)).trans hx163_2
      replace hx163_3 := (HB.out.cell (World.block_lt_of_cell? w _ hx163_3)).trans hx163_3
      have HR163_3 := Aside0.mk hi163_3
      have HC163_3 := Aside0.mk hl163_3
      clear hi163_3 hl163_3
      replace p163 := eq_true p163
      replace q163 := eq_true q163
      go_upto_if 25 with (first | ((with_reducible refine gate_callee (f := 36) rfl ?_); refine goesL_ (some 23) rfl rfl Try.func36 zK rfl #[.agg #[.int .i64 ((rd_T24 l0_3 x4_1).f0), .int .i64 ((rd_T24 l0_3 x4_1).f1), .int .i64 ((rd_T24 l0_3 x4_1).f2), .slice A163_3 ((rd_T24 l0_3 x4_1).f3).length c163_3]] rfl zM ?_; (with_reducible refine (ih k1 (by have := HK1.out; omega) ((rd_T24 l0_3 x4_1).f0) ((rd_T24 l0_3 x4_1).f1) ((rd_T24 l0_3 x4_1).f2) _ _ ((rd_T24 l0_3 x4_1).f3) t164 _ ?side1 ?side2 A10.out).mono ?_); (case side1 => repeat (first | exact (Kd.C_below HR163_3.out HB.out) | (with_reducible refine Kd.C_alloc ?_ _) | (with_reducible refine Kd.C_drewN ?_ _) | (with_reducible refine Kd.C_drew ?_))); (case side2 => exact HC163_3.out); rintro e w13 ⟨rfl, hb⟩; refine ⟨_, rfl, ?_⟩; have n0_ := Aside0.mk (blk_below (g := gb161) (o := .cells #[.int .i64 a0_0, .int .i64 a0_1, .int .i64 a0_2, .slice (some ad163) l0_3.length c0_3] 24 (0, 0)) (zk BK161) hb); have n1_ := Aside0.mk (below_step zB hb); clear BK161; clear HB; have BK161 := n0_; have HB := n1_; clear n0_ n1_; (try clear hb); (try clear hb2); (try clear hk); (try clear hi)))
      (try simp only [Act.put, List.setIfInBounds_toArray, List.set_cons_zero, List.set_cons_succ])
      have H := HC11.out
      clear HC11
      by_cases c14 : t164 = 0
      ·rw [if_pos c14] at H
       have c14b0 : (t164 == 0) = true := beq_iff_eq.mpr c14
       have c14b1 : (t164 != 0) = false := bne_eq_false_iff_eq.mpr c14
       clear c14
       (first | rw [c14b0] | (simp only [i64_w, i32_w]; rw [c14b0]) | skip)
       (try rw [c14b1])
       have H' := Aside0.mk H
       clear H
       go_wp2
       go_roundg k1
       case measure => have := HK1.out; omega
       case rel => exact ⟨(wrap64 (x4_1 + 1)), zT, H', ⟨by have := HK1.out; omega⟩, ⟨by (with_reducible repeat (first | refine blk_drewN ?_ _ | refine blk_drew ?_ | refine blk_alloc ?_ _)); exact BK161.out⟩, ⟨by repeat (first | (with_reducible first | exact HB.out | apply below_alloc | apply pw_below_drewN | apply below_drew1 | refine below_set ?_ GE161.out) | exact HB.out)⟩⟩
      ·rw [if_neg c14] at H
       have c14b0 : (t164 == 0) = false := beq_eq_false_iff_ne.mpr c14
       have c14b1 : (t164 != 0) = true := bne_iff_ne.mpr c14
       (first | rw [c14b0] | (simp only [i64_w, i32_w]; rw [c14b0]) | skip)
       (try rw [c14b1])
       obtain rfl := Option.some.inj H
       go_wp2
       go_ret
       exact ⟨by first | rfl | (simp [errW_none, errW_some] <;> rfl) | (simp [*, errW_none, errW_some] <;> rfl), by repeat (first | (with_reducible first | exact HB.out | apply below_alloc | apply pw_below_drewN | apply below_drew1 | refine below_set ?_ GE161.out) | exact HB.out)⟩
     ·rw [if_neg c9] at H
      exact absurd H (by simp)
    ·rw [if_neg c8] at H
     have c8b0 : decide (x4_1 < (l0_3.length : Int)) = false := decide_eq_false c8
     clear c8
     obtain rfl := Option.some.inj H
     have hcz15_0 : wr.cell? ⟨gb161, 0, none⟩ = some (.int .i64 a0_0) := (blk_cell BK161.out 0).trans rfl
     have hcz15_1 : wr.cell? ⟨gb161, 1, none⟩ = some (.int .i64 a0_1) := (blk_cell BK161.out 1).trans rfl
     have hcz15_2 : wr.cell? ⟨gb161, 2, none⟩ = some (.int .i64 a0_2) := (blk_cell BK161.out 2).trans rfl
     have hcz15_3 : wr.cell? ⟨gb161, 3, none⟩ = some (.slice A0_3 l0_3.length c0_3) := (blk_cell BK161.out 3).trans rfl
     have hfz15_0 := blk_frozen BK161.out 0
     have hfz15_1 := blk_frozen BK161.out 1
     have hfz15_2 := blk_frozen BK161.out 2
     have hfz15_3 := blk_frozen BK161.out 3
     go_wp2
     go_ret
     exact ⟨by first | rfl | (simp [errW_none, errW_some] <;> rfl) | (simp [*, errW_none, errW_some] <;> rfl), by repeat (first | (with_reducible first | exact HB.out | apply below_alloc | apply pw_below_drewN | apply below_drew1 | refine below_set ?_ GE161.out) | exact HB.out)⟩
 ·rw [if_neg c7] at H
  have c7b0 : (t162 == 0) = false := beq_eq_false_iff_ne.mpr c7
  have c7b1 : (t162 != 0) = true := bne_iff_ne.mpr c7
  (first | rw [c7b0] | (simp only [i64_w, i32_w]; rw [c7b0]) | skip)
  (try rw [c7b1])
  obtain rfl := Option.some.inj H
  go_wp2
  go_ret
  exact ⟨by first | rfl | (simp [errW_none, errW_some] <;> rfl) | (simp [*, errW_none, errW_some] <;> rfl), by repeat (first | (with_reducible first | exact HB.out | apply below_alloc | apply pw_below_drewN | apply below_drew1 | refine below_set ?_ GE161.out) | exact HB.out)⟩
/-! ### ancepsref08_leaves: function 37 -/
mutual
def ancepsref08_leaves.l0 : Nat → Int → Int → Int → Int → Int → List (S24) → Option (Int)
 | 0, _, _, _, _, _, _ => none
 | k + 1, x3, x4, x166000, x166001, x166002, x166003 => if x4 < (x166003.length : Int) then (if 0 ≤ x4 then ((ancepsref08_leaves.f k ((rd_T24 x166003 x4).f0) ((rd_T24 x166003 x4).f1) ((rd_T24 x166003 x4).f2) ((rd_T24 x166003 x4).f3)).bind fun t167 => (ancepsref08_leaves.l0 k (wrap64 (x3 + t167)) (wrap64 (x4 + 1)) x166000 x166001 x166002 x166003)) else (none)) else (if x166000 = 4 then (if (wrap64 (x3 * x166002)) > 400 then (some 401) else (some (wrap64 (x3 * x166002)))) else (if x3 > 400 then (some 401) else (some x3)))
def ancepsref08_leaves.f : Nat → Int → Int → Int → List (S24) → Option (Int)
 | 0, _, _, _, _ => none
 | k + 1, a0_0, a0_1, a0_2, l0_3 => if a0_0 = 1 then (some 1) else (ancepsref08_leaves.l0 k 0 0 a0_0 a0_1 a0_2 l0_3)
end
theorem ancepsref08_leaves.mono_l : ∀ k, (∀ y0 y1 y2 y3, LeO (ancepsref08_leaves.f k y0 y1 y2 y3) (ancepsref08_leaves.f (k + 1) y0 y1 y2 y3)) ∧ (∀ y0 y1 y2 y3 y4 y5, LeO (ancepsref08_leaves.l0 k y0 y1 y2 y3 y4 y5) (ancepsref08_leaves.l0 (k + 1) y0 y1 y2 y3 y4 y5))
 | 0 => ⟨fun _ _ _ _ r h => by simp [ancepsref08_leaves.f] at h, fun _ _ _ _ _ _ r h => by simp [ancepsref08_leaves.l0] at h⟩
 | k + 1 => by
  obtain ⟨ih0, ih1⟩ := ancepsref08_leaves.mono_l k
  refine ⟨?_, ?_⟩
  ·intro y0 y1 y2 y3
   unfold ancepsref08_leaves.f
   repeat' first
   | (with_reducible exact ih0 _ _ _ _)
   | (with_reducible exact ih1 _ _ _ _ _ _)
   | (with_reducible exact LeO.refl _)
   | (with_reducible exact LeO.none _)
   | (with_reducible refine LeO.ite ?_ ?_)
   | (with_reducible refine LeO.bind ?_ (fun _ => ?_))
   | exact ih0 _ _ _ _
   | exact ih1 _ _ _ _ _ _
   | exact LeO.none _
   | refine LeO.ite ?_ ?_
   | refine LeO.bind ?_ (fun _ => ?_)
  ·intro y0 y1 y2 y3 y4 y5
   unfold ancepsref08_leaves.l0
   repeat' first
   | (with_reducible exact ih0 _ _ _ _)
   | (with_reducible exact ih1 _ _ _ _ _ _)
   | (with_reducible exact LeO.refl _)
   | (with_reducible exact LeO.none _)
   | (with_reducible refine LeO.ite ?_ ?_)
   | (with_reducible refine LeO.bind ?_ (fun _ => ?_))
   | exact ih0 _ _ _ _
   | exact ih1 _ _ _ _ _ _
   | exact LeO.none _
   | refine LeO.ite ?_ ?_
   | refine LeO.bind ?_ (fun _ => ?_)
theorem ancepsref08_leaves.mono : ∀ a0 a1 a2 a3 k, LeO (ancepsref08_leaves.f k a0 a1 a2 a3) (ancepsref08_leaves.f (k + 1) a0 a1 a2 a3) := by
 intro a0 a1 a2 a3 k
 obtain ⟨ih0, ih1⟩ := ancepsref08_leaves.mono_l k
 exact ih0 a0 a1 a2 a3
set_option maxHeartbeats 8000000 in
set_option maxRecDepth 100000 in
theorem ancepsref08_leaves.calls (k : Nat) : ∀ (a0_0 : Int) (a0_1 : Int) (a0_2 : Int) (A0_3 : Option Addr) (c0_3 : Nat) (l0_3 : List (S24)) (r : Int) (w : World) (hr0_3 : Kd.C k24 w A0_3 l0_3.length l0_3) (hc0_3 : l0_3.length ≤ c0_3) (h : ancepsref08_leaves.f k a0_0 a0_1 a0_2 l0_3 = some r),
  Calls Try.prog 37 #[.agg #[.int .i64 a0_0, .int .i64 a0_1, .int .i64 a0_2, .slice A0_3 l0_3.length c0_3]] w fun e w' => e = .returned (.int .i64 r) ∧ Below w.heap.size w w' := by
 induction k using Nat.strongRecOn with
 | _ k ih =>
 intro a0_0 a0_1 a0_2 A0_3 c0_3 l0_3 r w hr0_3 hc0_3 h
 cases k with
 | zero => exact absurd h (by simp [ancepsref08_leaves.f])
 | succ k =>
 simp only [ancepsref08_leaves.f] at h
 have hu24 := Try.underlying24
 have hu3 := Try.underlying3
 have hu22 := Try.underlying22
 have HR0_3 := Aside0.mk hr0_3
 have HC0_3 := Aside0.mk hc0_3
 clear hr0_3 hc0_3
 have HB := Aside0.mk (Below.refl w.heap.size w)
 have H : (if a0_0 = 1 then (some 1) else (ancepsref08_leaves.l0 k 0 0 a0_0 a0_1 a0_2 l0_3)) = some r := h
 clear h
 have HC2 := Aside0.mk H
 clear H
 go_enter Try.func37, Try.ntmps37
 go_upto_if 7 with (first | ((with_reducible refine gate_dst (N := 1) rfl ?_); refine box_event ?hg (N := 1) ?hd (cs := #[.int .i64 a0_0, .int .i64 a0_1, .int .i64 a0_2, .slice A0_3 l0_3.length c0_3]) (t := 24) ?hr ?_; (case hd => rfl); (case hg => rfl); (case hr => first | (go_simp; done) | (go_simp; rfl)); intro gb165 hg w3 hbox hb; have n0_ := Aside0.mk (below_step zB hb); have n1_ := Aside0.mk (hbox); have n2_ := Aside0.mk ((by rw [hg]; exact (below_size zB) : w.heap.size ≤ gb165)); have n3_ := Aside0.mk ((by rw [hg]; exact (below_size zB) : w.heap.size ≤ gb165)); clear HB; have HB := n0_; have BK165 := n1_; have GW165 := n2_; have GE165 := n3_; clear n0_ n1_ n2_ n3_; clear hb hbox hg; have hcz4_0 : w3.cell? ⟨gb165, 0, none⟩ = some (.int .i64 a0_0) := (blk_cell BK165.out 0).trans rfl; have hcz4_1 : w3.cell? ⟨gb165, 1, none⟩ = some (.int .i64 a0_1) := (blk_cell BK165.out 1).trans rfl; have hcz4_2 : w3.cell? ⟨gb165, 2, none⟩ = some (.int .i64 a0_2) := (blk_cell BK165.out 2).trans rfl; have hcz4_3 : w3.cell? ⟨gb165, 3, none⟩ = some (.slice A0_3 l0_3.length c0_3) := (blk_cell BK165.out 3).trans rfl; have hfz4_0 := blk_frozen BK165.out 0; have hfz4_1 := blk_frozen BK165.out 1; have hfz4_2 := blk_frozen BK165.out 2; have hfz4_3 := blk_frozen BK165.out 3))
 (try simp only [Act.put, List.setIfInBounds_toArray, List.set_cons_zero, List.set_cons_succ])
 have H := HC2.out
 clear HC2
 by_cases c5 : a0_0 = 1
 ·rw [if_pos c5] at H
  have c5b0 : (a0_0 == 1) = true := beq_iff_eq.mpr c5
  have c5b1 : (a0_0 != 1) = false := bne_eq_false_iff_eq.mpr c5
  clear c5
  (first | rw [c5b0] | (simp only [i64_w, i32_w]; rw [c5b0]) | skip)
  (try rw [c5b1])
  obtain rfl := Option.some.inj H
  go_wp2
  go_ret
  exact ⟨by first | rfl | (simp [errW_none, errW_some] <;> rfl) | (simp [*, errW_none, errW_some] <;> rfl), by repeat (first | (with_reducible first | exact HB.out | apply below_alloc | apply pw_below_drewN | apply below_drew1 | refine below_set ?_ GE165.out) | exact HB.out)⟩
 ·rw [if_neg c5] at H
  have c5b0 : (a0_0 == 1) = false := beq_eq_false_iff_ne.mpr c5
  have c5b1 : (a0_0 != 1) = true := bne_iff_ne.mpr c5
  (first | rw [c5b0] | (simp only [i64_w, i32_w]; rw [c5b0]) | skip)
  (try rw [c5b1])
  have H' := Aside0.mk H
  clear H
  go_wp2
  go_loopg [3, 4] k (fun kq v3 v4 w' => ∃ (x3_1 : Int) (x4_1 : Int), v3 = .int .i64 x3_1 ∧ v4 = .int .i64 x4_1 ∧ Aside0 (ancepsref08_leaves.l0 kq x3_1 x4_1 a0_0 a0_1 a0_2 l0_3 = some r) ∧ Aside0 (kq ≤ k) ∧ Aside0 (w'.heap[gb165]? = some (.cells #[.int .i64 a0_0, .int .i64 a0_1, .int .i64 a0_2, (.slice A0_3 l0_3.length c0_3)] 24 (0, 0))) ∧ Aside0 (Below w.heap.size w w'))
  case atStart => exact ⟨(0), (0), zT, zT, H', ⟨Nat.le_refl _⟩, ⟨by (with_reducible repeat (first | refine blk_drewN ?_ _ | refine blk_drew ?_ | refine blk_alloc ?_ _)); exact BK165.out⟩, ⟨by repeat (first | (with_reducible first | exact HB.out | apply below_alloc | apply pw_below_drewN | apply below_drew1 | refine below_set ?_ GE165.out) | exact HB.out)⟩⟩
  case round =>
   clear H'
   try clear c5
   try clear c5b0
   try clear c5b1
   try clear hcz4_0
   try clear hcz4_1
   try clear hcz4_2
   try clear hcz4_3
   try clear hfz4_0
   try clear hfz4_1
   try clear hfz4_2
   try clear hfz4_3
   obtain ⟨x3_1, x4_1, rfl, rfl, HA, HK1, BK165, HB⟩ := hrel
   cases gk with
   | zero => exact absurd HA.out (by simp [ancepsref08_leaves.l0])
   | succ k1 =>
    have H := HA.out
    clear HA
    simp only [ancepsref08_leaves.l0] at H
    by_cases c6 : x4_1 < (l0_3.length : Int)
    ·rw [if_pos c6] at H
     have c6b0 : decide (x4_1 < (l0_3.length : Int)) = true := decide_eq_true c6
     clear c6
     by_cases c7 : 0 ≤ x4_1
     ·rw [if_pos c7] at H
      have c7b0 : decide (0 ≤ x4_1) = true := decide_eq_true c7
      clear c7
      replace H := Option.bind_eq_some_iff.mp H
      obtain ⟨t167, A80, H⟩ := H
      replace H : (ancepsref08_leaves.l0 k1 (wrap64 (x3_1 + t167)) (wrap64 (x4_1 + 1)) a0_0 a0_1 a0_2 l0_3) = some r := H
      have A8 := Aside0.mk A80
      clear A80
      have H' := Aside0.mk H
      clear H
      have hcz9_0 : wr.cell? ⟨gb165, 0, none⟩ = some (.int .i64 a0_0) := (blk_cell BK165.out 0).trans rfl
      have hcz9_1 : wr.cell? ⟨gb165, 1, none⟩ = some (.int .i64 a0_1) := (blk_cell BK165.out 1).trans rfl
      have hcz9_2 : wr.cell? ⟨gb165, 2, none⟩ = some (.int .i64 a0_2) := (blk_cell BK165.out 2).trans rfl
      have hcz9_3 : wr.cell? ⟨gb165, 3, none⟩ = some (.slice A0_3 l0_3.length c0_3) := (blk_cell BK165.out 3).trans rfl
      have hfz9_0 := blk_frozen BK165.out 0
      have hfz9_1 := blk_frozen BK165.out 1
      have hfz9_2 := blk_frozen BK165.out 2
      have hfz9_3 := blk_frozen BK165.out 3
      have p166 : 0 ≤ (x4_1 : Int) := of_decide_eq_true zh
      have q166 : x4_1 < (l0_3.length : Int) := of_decide_eq_true zh
      obtain ⟨ad166, A166_3, c166_3, e166, hx166_0, hx166_1, hx166_2, hx166_3, hl166_3, hi166_3⟩ := at_T24 HR0_3.out x4_1 p166 q166
      cases e166
      replace hx166_0 := (HB.out.cell (World.block_lt_of_cell? w _ hx166_0)).trans hx166_0
      replace hx166_1 := (HB.out.cell (World.block_lt_of_cell? w _ hx166_1)).trans hx166_1
      replace hx166_2 := (HB.out.cell (World.block_lt_of_cell? w _ hx166_2)).trans hx166_2
      replace hx166_3 := (HB.out.cell (World.block_lt_of_cell? w _ hx166_3)).trans hx166_3
      have HR166_3 := Aside0.mk hi166_3
      have HC166_3 := Aside0.mk hl166_3
      clear hi166_3 hl166_3
      replace p166 := eq_true p166
      replace q166 := eq_true q166
      go_wp2_with (first | ((with_reducible refine gate_callee (f := 37) rfl ?_); refine goesL_ (some 21) rfl rfl Try.func37 zK rfl #[.agg #[.int .i64 ((rd_T24 l0_3 x4_1).f0), .int .i64 ((rd_T24 l0_3 x4_1).f1), .int .i64 ((rd_T24 l0_3 x4_1).f2), .slice A166_3 ((rd_T24 l0_3 x4_1).f3).length c166_3]] rfl zM ?_; (with_reducible refine (ih k1 (by have := HK1.out; omega) ((rd_T24 l0_3 x4_1).f0) ((rd_T24 l0_3 x4_1).f1) ((rd_T24 l0_3 x4_1).f2) _ _ ((rd_T24 l0_3 x4_1).f3) t167 _ ?side1 ?side2 A8.out).mono ?_); (case side1 => repeat (first | exact (Kd.C_below HR166_3.out HB.out) | (with_reducible refine Kd.C_alloc ?_ _) | (with_reducible refine Kd.C_drewN ?_ _) | (with_reducible refine Kd.C_drew ?_))); (case side2 => exact HC166_3.out); rintro e w10 ⟨rfl, hb⟩; refine ⟨_, rfl, ?_⟩; have n0_ := Aside0.mk (blk_below (g := gb165) (o := .cells #[.int .i64 a0_0, .int .i64 a0_1, .int .i64 a0_2, .slice (some ad166) l0_3.length c0_3] 24 (0, 0)) (zk BK165) hb); have n1_ := Aside0.mk (below_step zB hb); clear BK165; clear HB; have BK165 := n0_; have HB := n1_; clear n0_ n1_; (try clear hb); (try clear hb2); (try clear hk); (try clear hi)))
      go_roundg k1
      case measure => have := HK1.out; omega
      case rel => exact ⟨(wrap64 (x3_1 + t167)), (wrap64 (x4_1 + 1)), zT, zT, H', ⟨by have := HK1.out; omega⟩, ⟨by (with_reducible repeat (first | refine blk_drewN ?_ _ | refine blk_drew ?_ | refine blk_alloc ?_ _)); exact BK165.out⟩, ⟨by repeat (first | (with_reducible first | exact HB.out | apply below_alloc | apply pw_below_drewN | apply below_drew1 | refine below_set ?_ GE165.out) | exact HB.out)⟩⟩
     ·rw [if_neg c7] at H
      exact absurd H (by simp)
    ·rw [if_neg c6] at H
     have c6b0 : decide (x4_1 < (l0_3.length : Int)) = false := decide_eq_false c6
     clear c6
     by_cases c11 : a0_0 = 4
     ·rw [if_pos c11] at H
      have c11b0 : (a0_0 == 4) = true := beq_iff_eq.mpr c11
      have c11b1 : (a0_0 != 4) = false := bne_eq_false_iff_eq.mpr c11
      clear c11
      by_cases c12 : (wrap64 (x3_1 * a0_2)) > 400
      ·rw [if_pos c12] at H
       have c12b0 : decide (400 < (wrap64 (x3_1 * a0_2))) = true := decide_eq_true c12
       clear c12
       obtain rfl := Option.some.inj H
       have hcz13_0 : wr.cell? ⟨gb165, 0, none⟩ = some (.int .i64 a0_0) := (blk_cell BK165.out 0).trans rfl
       have hcz13_1 : wr.cell? ⟨gb165, 1, none⟩ = some (.int .i64 a0_1) := (blk_cell BK165.out 1).trans rfl
       have hcz13_2 : wr.cell? ⟨gb165, 2, none⟩ = some (.int .i64 a0_2) := (blk_cell BK165.out 2).trans rfl
       have hcz13_3 : wr.cell? ⟨gb165, 3, none⟩ = some (.slice A0_3 l0_3.length c0_3) := (blk_cell BK165.out 3).trans rfl
       have hfz13_0 := blk_frozen BK165.out 0
       have hfz13_1 := blk_frozen BK165.out 1
       have hfz13_2 := blk_frozen BK165.out 2
       have hfz13_3 := blk_frozen BK165.out 3
       go_wp2
       go_ret
       exact ⟨by first | rfl | (simp [errW_none, errW_some] <;> rfl) | (simp [*, errW_none, errW_some] <;> rfl), by repeat (first | (with_reducible first | exact HB.out | apply below_alloc | apply pw_below_drewN | apply below_drew1 | refine below_set ?_ GE165.out) | exact HB.out)⟩
      ·rw [if_neg c12] at H
       have c12b0 : decide (400 < (wrap64 (x3_1 * a0_2))) = false := decide_eq_false c12
       clear c12
       obtain rfl := Option.some.inj H
       have hcz14_0 : wr.cell? ⟨gb165, 0, none⟩ = some (.int .i64 a0_0) := (blk_cell BK165.out 0).trans rfl
       have hcz14_1 : wr.cell? ⟨gb165, 1, none⟩ = some (.int .i64 a0_1) := (blk_cell BK165.out 1).trans rfl
       have hcz14_2 : wr.cell? ⟨gb165, 2, none⟩ = some (.int .i64 a0_2) := (blk_cell BK165.out 2).trans rfl
       have hcz14_3 : wr.cell? ⟨gb165, 3, none⟩ = some (.slice A0_3 l0_3.length c0_3) := (blk_cell BK165.out 3).trans rfl
       have hfz14_0 := blk_frozen BK165.out 0
       have hfz14_1 := blk_frozen BK165.out 1
       have hfz14_2 := blk_frozen BK165.out 2
       have hfz14_3 := blk_frozen BK165.out 3
       go_wp2
       go_ret
       exact ⟨by first | rfl | (simp [errW_none, errW_some] <;> rfl) | (simp [*, errW_none, errW_some] <;> rfl), by repeat (first | (with_reducible first | exact HB.out | apply below_alloc | apply pw_below_drewN | apply below_drew1 | refine below_set ?_ GE165.out) | exact HB.out)⟩
     ·rw [if_neg c11] at H
      have c11b0 : (a0_0 == 4) = false := beq_eq_false_iff_ne.mpr c11
      have c11b1 : (a0_0 != 4) = true := bne_iff_ne.mpr c11
      by_cases c15 : x3_1 > 400
      ·rw [if_pos c15] at H
       have c15b0 : decide (400 < x3_1) = true := decide_eq_true c15
       clear c15
       obtain rfl := Option.some.inj H
       have hcz16_0 : wr.cell? ⟨gb165, 0, none⟩ = some (.int .i64 a0_0) := (blk_cell BK165.out 0).trans rfl
       have hcz16_1 : wr.cell? ⟨gb165, 1, none⟩ = some (.int .i64 a0_1) := (blk_cell BK165.out 1).trans rfl
       have hcz16_2 : wr.cell? ⟨gb165, 2, none⟩ = some (.int .i64 a0_2) := (blk_cell BK165.out 2).trans rfl
       have hcz16_3 : wr.cell? ⟨gb165, 3, none⟩ = some (.slice A0_3 l0_3.length c0_3) := (blk_cell BK165.out 3).trans rfl
       have hfz16_0 := blk_frozen BK165.out 0
       have hfz16_1 := blk_frozen BK165.out 1
       have hfz16_2 := blk_frozen BK165.out 2
       have hfz16_3 := blk_frozen BK165.out 3
       go_wp2
       go_ret
       exact ⟨by first | rfl | (simp [errW_none, errW_some] <;> rfl) | (simp [*, errW_none, errW_some] <;> rfl), by repeat (first | (with_reducible first | exact HB.out | apply below_alloc | apply pw_below_drewN | apply below_drew1 | refine below_set ?_ GE165.out) | exact HB.out)⟩
      ·rw [if_neg c15] at H
       have c15b0 : decide (400 < x3_1) = false := decide_eq_false c15
       clear c15
       obtain rfl := Option.some.inj H
       have hcz17_0 : wr.cell? ⟨gb165, 0, none⟩ = some (.int .i64 a0_0) := (blk_cell BK165.out 0).trans rfl
       have hcz17_1 : wr.cell? ⟨gb165, 1, none⟩ = some (.int .i64 a0_1) := (blk_cell BK165.out 1).trans rfl
       have hcz17_2 : wr.cell? ⟨gb165, 2, none⟩ = some (.int .i64 a0_2) := (blk_cell BK165.out 2).trans rfl
       have hcz17_3 : wr.cell? ⟨gb165, 3, none⟩ = some (.slice A0_3 l0_3.length c0_3) := (blk_cell BK165.out 3).trans rfl
       have hfz17_0 := blk_frozen BK165.out 0
       have hfz17_1 := blk_frozen BK165.out 1
       have hfz17_2 := blk_frozen BK165.out 2
       have hfz17_3 := blk_frozen BK165.out 3
       go_wp2
       go_ret
       exact ⟨by first | rfl | (simp [errW_none, errW_some] <;> rfl) | (simp [*, errW_none, errW_some] <;> rfl), by repeat (first | (with_reducible first | exact HB.out | apply below_alloc | apply pw_below_drewN | apply below_drew1 | refine below_set ?_ GE165.out) | exact HB.out)⟩
/-! ### ancepsref08_Valid: function 12 -/
def ancepsref08_Valid.f (k : Nat) (a0_0 : Int) (a0_1 : Int) (a0_2 : Int) (l0_3 : List (S24)) : Option (Int) := (ancepsref08_Size.f k a0_0 a0_1 a0_2 l0_3).bind fun t169 => (if t169 > 500 then (some 3) else ((ancepsref08_levels.f k a0_0 a0_1 a0_2 l0_3).bind fun t170 => (if t170 > 40 then (some 3) else ((ancepsref08_nodes.f k a0_0 a0_1 a0_2 l0_3).bind fun t171 => (if t171 = 0 then ((ancepsref08_leaves.f k a0_0 a0_1 a0_2 l0_3).bind fun t172 => (if t172 > 400 then (some 3) else (some 0))) else (some t171))))))
theorem ancepsref08_Valid.mono : ∀ a0 a1 a2 a3 k, LeO (ancepsref08_Valid.f k a0 a1 a2 a3) (ancepsref08_Valid.f (k + 1) a0 a1 a2 a3) := by
 intro a0 a1 a2 a3 k
 unfold ancepsref08_Valid.f
 repeat' first
   | (with_reducible exact ancepsref08_Size.mono _ _ _ _ _)
   | (with_reducible exact ancepsref08_leaves.mono _ _ _ _ _)
   | (with_reducible exact ancepsref08_levels.mono _ _ _ _ _)
   | (with_reducible exact ancepsref08_nodes.mono _ _ _ _ _)
   | (with_reducible exact LeO.refl _)
   | (with_reducible exact LeO.none _)
   | (with_reducible refine LeO.ite ?_ ?_)
   | (with_reducible refine LeO.bind ?_ (fun _ => ?_))
   | exact ancepsref08_Size.mono _ _ _ _ _
   | exact ancepsref08_leaves.mono _ _ _ _ _
   | exact ancepsref08_levels.mono _ _ _ _ _
   | exact ancepsref08_nodes.mono _ _ _ _ _
   | exact LeO.none _
   | refine LeO.ite ?_ ?_
   | refine LeO.bind ?_ (fun _ => ?_)
set_option maxHeartbeats 8000000 in
set_option maxRecDepth 100000 in
theorem ancepsref08_Valid.calls (k : Nat) (a0_0 : Int) (a0_1 : Int) (a0_2 : Int) (A0_3 : Option Addr) (c0_3 : Nat) (l0_3 : List (S24)) (r : Int) (w : World) (hr0_3 : Kd.C k24 w A0_3 l0_3.length l0_3) (hc0_3 : l0_3.length ≤ c0_3) (h : ancepsref08_Valid.f k a0_0 a0_1 a0_2 l0_3 = some r) :
  Calls Try.prog 12 #[.agg #[.int .i64 a0_0, .int .i64 a0_1, .int .i64 a0_2, .slice A0_3 l0_3.length c0_3]] w fun e w' => e = .returned (.int .i64 r) ∧ Below w.heap.size w w' := by
 have hu24 := Try.underlying24
 have HR0_3 := Aside0.mk hr0_3
 have HC0_3 := Aside0.mk hc0_3
 clear hr0_3 hc0_3
 have HB := Aside0.mk (Below.refl w.heap.size w)
 have H : ((ancepsref08_Size.f k a0_0 a0_1 a0_2 l0_3).bind fun t169 => (if t169 > 500 then (some 3) else ((ancepsref08_levels.f k a0_0 a0_1 a0_2 l0_3).bind fun t170 => (if t170 > 40 then (some 3) else ((ancepsref08_nodes.f k a0_0 a0_1 a0_2 l0_3).bind fun t171 => (if t171 = 0 then ((ancepsref08_leaves.f k a0_0 a0_1 a0_2 l0_3).bind fun t172 => (if t172 > 400 then (some 3) else (some 0))) else (some t171))))))) = some r := h
 clear h
 have HC2 := Aside0.mk H
 clear H
 go_enter Try.func12, Try.ntmps12
 go_upto_region 1 with (first | ((with_reducible refine gate_dst (N := 1) rfl ?_); refine box_event ?hg (N := 1) ?hd (cs := #[.int .i64 a0_0, .int .i64 a0_1, .int .i64 a0_2, .slice A0_3 l0_3.length c0_3]) (t := 24) ?hr ?_; (case hd => rfl); (case hg => rfl); (case hr => first | (go_simp; done) | (go_simp; rfl)); intro gb168 hg w3 hbox hb; have n0_ := Aside0.mk (below_step zB hb); have n1_ := Aside0.mk (hbox); have n2_ := Aside0.mk ((by rw [hg]; exact (below_size zB) : w.heap.size ≤ gb168)); have n3_ := Aside0.mk ((by rw [hg]; exact (below_size zB) : w.heap.size ≤ gb168)); clear HB; have HB := n0_; have BK168 := n1_; have GW168 := n2_; have GE168 := n3_; clear n0_ n1_ n2_ n3_; clear hb hbox hg))
 (try simp only [Act.put, List.setIfInBounds_toArray, List.set_cons_zero, List.set_cons_succ])
 have H := HC2.out
 clear HC2
 replace H := Option.bind_eq_some_iff.mp H
 obtain ⟨t169, A40, H⟩ := H
 replace H : (if t169 > 500 then (some 3) else ((ancepsref08_levels.f k a0_0 a0_1 a0_2 l0_3).bind fun t170 => (if t170 > 40 then (some 3) else ((ancepsref08_nodes.f k a0_0 a0_1 a0_2 l0_3).bind fun t171 => (if t171 = 0 then ((ancepsref08_leaves.f k a0_0 a0_1 a0_2 l0_3).bind fun t172 => (if t172 > 400 then (some 3) else (some 0))) else (some t171)))))) = some r := H
 have A4 := Aside0.mk A40
 clear A40
 by_cases c5 : t169 > 500
 ·rw [if_pos c5] at H
  have c5b0 : decide (500 < t169) = true := decide_eq_true c5
  clear c5
  (first | rw [c5b0] | (simp only [i64_w, i32_w]; rw [c5b0]) | skip)
  obtain rfl := Option.some.inj H
  have hcz6_0 : w3.cell? ⟨gb168, 0, none⟩ = some (.int .i64 a0_0) := (blk_cell BK168.out 0).trans rfl
  have hcz6_1 : w3.cell? ⟨gb168, 1, none⟩ = some (.int .i64 a0_1) := (blk_cell BK168.out 1).trans rfl
  have hcz6_2 : w3.cell? ⟨gb168, 2, none⟩ = some (.int .i64 a0_2) := (blk_cell BK168.out 2).trans rfl
  have hcz6_3 : w3.cell? ⟨gb168, 3, none⟩ = some (.slice A0_3 l0_3.length c0_3) := (blk_cell BK168.out 3).trans rfl
  have hfz6_0 := blk_frozen BK168.out 0
  have hfz6_1 := blk_frozen BK168.out 1
  have hfz6_2 := blk_frozen BK168.out 2
  have hfz6_3 := blk_frozen BK168.out 3
  go_wp2_with (first | ((with_reducible refine gate_callee (f := 29) rfl ?_); refine goesL_ (some 5) rfl rfl Try.func29 zK rfl #[.agg #[.int .i64 a0_0, .int .i64 a0_1, .int .i64 a0_2, .slice A0_3 l0_3.length c0_3]] rfl zM ?_; (with_reducible refine (ancepsref08_Size.calls k a0_0 a0_1 a0_2 _ _ l0_3 t169 _ ?side1 ?side2 A4.out).mono ?_); (case side1 => repeat (first | exact (Kd.C_below HR0_3.out HB.out) | (with_reducible refine Kd.C_alloc ?_ _) | (with_reducible refine Kd.C_drewN ?_ _) | (with_reducible refine Kd.C_drew ?_))); (case side2 => exact HC0_3.out); rintro e w7 ⟨rfl, hb⟩; refine ⟨_, rfl, ?_⟩; have n0_ := Aside0.mk (blk_below (g := gb168) (o := .cells #[.int .i64 a0_0, .int .i64 a0_1, .int .i64 a0_2, .slice A0_3 l0_3.length c0_3] 24 (0, 0)) (zk BK168) hb); have n1_ := Aside0.mk (below_step zB hb); clear BK168; clear HB; have BK168 := n0_; have HB := n1_; clear n0_ n1_; (try clear hb); (try clear hb2); (try clear hk); (try clear hi)))
  go_ret
  exact ⟨by first | rfl | (simp [errW_none, errW_some] <;> rfl) | (simp [*, errW_none, errW_some] <;> rfl), by repeat (first | (with_reducible first | exact HB.out | apply below_alloc | apply pw_below_drewN | apply below_drew1 | refine below_set ?_ GE168.out) | exact HB.out)⟩
 ·rw [if_neg c5] at H
  have c5b0 : decide (500 < t169) = false := decide_eq_false c5
  clear c5
  (first | rw [c5b0] | (simp only [i64_w, i32_w]; rw [c5b0]) | skip)
  replace H := Option.bind_eq_some_iff.mp H
  obtain ⟨t170, A80, H⟩ := H
  replace H : (if t170 > 40 then (some 3) else ((ancepsref08_nodes.f k a0_0 a0_1 a0_2 l0_3).bind fun t171 => (if t171 = 0 then ((ancepsref08_leaves.f k a0_0 a0_1 a0_2 l0_3).bind fun t172 => (if t172 > 400 then (some 3) else (some 0))) else (some t171)))) = some r := H
  have A8 := Aside0.mk A80
  clear A80
  have HC9 := Aside0.mk H
  clear H
  have hcz10_0 : w3.cell? ⟨gb168, 0, none⟩ = some (.int .i64 a0_0) := (blk_cell BK168.out 0).trans rfl
  have hcz10_1 : w3.cell? ⟨gb168, 1, none⟩ = some (.int .i64 a0_1) := (blk_cell BK168.out 1).trans rfl
  have hcz10_2 : w3.cell? ⟨gb168, 2, none⟩ = some (.int .i64 a0_2) := (blk_cell BK168.out 2).trans rfl
  have hcz10_3 : w3.cell? ⟨gb168, 3, none⟩ = some (.slice A0_3 l0_3.length c0_3) := (blk_cell BK168.out 3).trans rfl
  have hfz10_0 := blk_frozen BK168.out 0
  have hfz10_1 := blk_frozen BK168.out 1
  have hfz10_2 := blk_frozen BK168.out 2
  have hfz10_3 := blk_frozen BK168.out 3
  go_upto_if 11 with (first | ((with_reducible refine gate_callee (f := 29) rfl ?_); refine goesL_ (some 5) rfl rfl Try.func29 zK rfl #[.agg #[.int .i64 a0_0, .int .i64 a0_1, .int .i64 a0_2, .slice A0_3 l0_3.length c0_3]] rfl zM ?_; (with_reducible refine (ancepsref08_Size.calls k a0_0 a0_1 a0_2 _ _ l0_3 t169 _ ?side1 ?side2 A4.out).mono ?_); (case side1 => repeat (first | exact (Kd.C_below HR0_3.out HB.out) | (with_reducible refine Kd.C_alloc ?_ _) | (with_reducible refine Kd.C_drewN ?_ _) | (with_reducible refine Kd.C_drew ?_))); (case side2 => exact HC0_3.out); rintro e w11 ⟨rfl, hb⟩; refine ⟨_, rfl, ?_⟩; have n0_ := Aside0.mk (blk_below (g := gb168) (o := .cells #[.int .i64 a0_0, .int .i64 a0_1, .int .i64 a0_2, .slice A0_3 l0_3.length c0_3] 24 (0, 0)) (zk BK168) hb); have n1_ := Aside0.mk (below_step zB hb); clear BK168; clear HB; have BK168 := n0_; have HB := n1_; clear n0_ n1_; (try clear hb); (try clear hb2); (try clear hk); (try clear hi); have hcz12_0 : w11.cell? ⟨gb168, 0, none⟩ = some (.int .i64 a0_0) := (blk_cell BK168.out 0).trans rfl; have hcz12_1 : w11.cell? ⟨gb168, 1, none⟩ = some (.int .i64 a0_1) := (blk_cell BK168.out 1).trans rfl; have hcz12_2 : w11.cell? ⟨gb168, 2, none⟩ = some (.int .i64 a0_2) := (blk_cell BK168.out 2).trans rfl; have hcz12_3 : w11.cell? ⟨gb168, 3, none⟩ = some (.slice A0_3 l0_3.length c0_3) := (blk_cell BK168.out 3).trans rfl; have hfz12_0 := blk_frozen BK168.out 0; have hfz12_1 := blk_frozen BK168.out 1; have hfz12_2 := blk_frozen BK168.out 2; have hfz12_3 := blk_frozen BK168.out 3) | (go_at_call 35; (with_reducible refine (ancepsref08_levels.calls k a0_0 a0_1 a0_2 _ _ l0_3 t170 _ ?side1 ?side2 A8.out).mono ?_); (case side1 => repeat (first | exact (Kd.C_below HR0_3.out HB.out) | (with_reducible refine Kd.C_alloc ?_ _) | (with_reducible refine Kd.C_drewN ?_ _) | (with_reducible refine Kd.C_drew ?_))); (case side2 => exact HC0_3.out); rintro e w13 ⟨rfl, hb⟩; have n0_ := Aside0.mk (blk_below (g := gb168) (o := .cells #[.int .i64 a0_0, .int .i64 a0_1, .int .i64 a0_2, .slice A0_3 l0_3.length c0_3] 24 (0, 0)) (zk BK168) hb); have n1_ := Aside0.mk (below_step zB hb); clear BK168; clear HB; have BK168 := n0_; have HB := n1_; clear n0_ n1_; (try clear hb); (try clear hb2); (try clear hk); (try clear hi)))
  (try simp only [Act.put, List.setIfInBounds_toArray, List.set_cons_zero, List.set_cons_succ])
  have H := HC9.out
  clear HC9
  by_cases c14 : t170 > 40
  ·rw [if_pos c14] at H
   have c14b0 : decide (40 < t170) = true := decide_eq_true c14
   clear c14
   (first | rw [c14b0] | (simp only [i64_w, i32_w]; rw [c14b0]) | skip)
   obtain rfl := Option.some.inj H
   go_wp2
   go_ret
   exact ⟨by first | rfl | (simp [errW_none, errW_some] <;> rfl) | (simp [*, errW_none, errW_some] <;> rfl), by repeat (first | (with_reducible first | exact HB.out | apply below_alloc | apply pw_below_drewN | apply below_drew1 | refine below_set ?_ GE168.out) | exact HB.out)⟩
  ·rw [if_neg c14] at H
   have c14b0 : decide (40 < t170) = false := decide_eq_false c14
   clear c14
   (first | rw [c14b0] | (simp only [i64_w, i32_w]; rw [c14b0]) | skip)
   replace H := Option.bind_eq_some_iff.mp H
   obtain ⟨t171, A150, H⟩ := H
   replace H : (if t171 = 0 then ((ancepsref08_leaves.f k a0_0 a0_1 a0_2 l0_3).bind fun t172 => (if t172 > 400 then (some 3) else (some 0))) else (some t171)) = some r := H
   have A15 := Aside0.mk A150
   clear A150
   have HC16 := Aside0.mk H
   clear H
   have hcz17_0 : w13.cell? ⟨gb168, 0, none⟩ = some (.int .i64 a0_0) := (blk_cell BK168.out 0).trans rfl
   have hcz17_1 : w13.cell? ⟨gb168, 1, none⟩ = some (.int .i64 a0_1) := (blk_cell BK168.out 1).trans rfl
   have hcz17_2 : w13.cell? ⟨gb168, 2, none⟩ = some (.int .i64 a0_2) := (blk_cell BK168.out 2).trans rfl
   have hcz17_3 : w13.cell? ⟨gb168, 3, none⟩ = some (.slice A0_3 l0_3.length c0_3) := (blk_cell BK168.out 3).trans rfl
   have hfz17_0 := blk_frozen BK168.out 0
   have hfz17_1 := blk_frozen BK168.out 1
   have hfz17_2 := blk_frozen BK168.out 2
   have hfz17_3 := blk_frozen BK168.out 3
   go_upto_if 15 with (first | ((with_reducible refine gate_callee (f := 36) rfl ?_); refine goesL_ (some 13) rfl rfl Try.func36 zK rfl #[.agg #[.int .i64 a0_0, .int .i64 a0_1, .int .i64 a0_2, .slice A0_3 l0_3.length c0_3]] rfl zM ?_; (with_reducible refine (ancepsref08_nodes.calls k a0_0 a0_1 a0_2 _ _ l0_3 t171 _ ?side1 ?side2 A15.out).mono ?_); (case side1 => repeat (first | exact (Kd.C_below HR0_3.out HB.out) | (with_reducible refine Kd.C_alloc ?_ _) | (with_reducible refine Kd.C_drewN ?_ _) | (with_reducible refine Kd.C_drew ?_))); (case side2 => exact HC0_3.out); rintro e w18 ⟨rfl, hb⟩; refine ⟨_, rfl, ?_⟩; have n0_ := Aside0.mk (blk_below (g := gb168) (o := .cells #[.int .i64 a0_0, .int .i64 a0_1, .int .i64 a0_2, .slice A0_3 l0_3.length c0_3] 24 (0, 0)) (zk BK168) hb); have n1_ := Aside0.mk (below_step zB hb); clear BK168; clear HB; have BK168 := n0_; have HB := n1_; clear n0_ n1_; (try clear hb); (try clear hb2); (try clear hk); (try clear hi)))
   (try simp only [Act.put, List.setIfInBounds_toArray, List.set_cons_zero, List.set_cons_succ])
   have H := HC16.out
   clear HC16
   by_cases c19 : t171 = 0
   ·rw [if_pos c19] at H
    have c19b0 : (t171 == 0) = true := beq_iff_eq.mpr c19
    have c19b1 : (t171 != 0) = false := bne_eq_false_iff_eq.mpr c19
    clear c19
    (first | rw [c19b0] | (simp only [i64_w, i32_w]; rw [c19b0]) | skip)
    (try rw [c19b1])
    replace H := Option.bind_eq_some_iff.mp H
    obtain ⟨t172, A200, H⟩ := H
    replace H : (if t172 > 400 then (some 3) else (some 0)) = some r := H
    have A20 := Aside0.mk A200
    clear A200
    have HC21 := Aside0.mk H
    clear H
    have hcz22_0 : w18.cell? ⟨gb168, 0, none⟩ = some (.int .i64 a0_0) := (blk_cell BK168.out 0).trans rfl
    have hcz22_1 : w18.cell? ⟨gb168, 1, none⟩ = some (.int .i64 a0_1) := (blk_cell BK168.out 1).trans rfl
    have hcz22_2 : w18.cell? ⟨gb168, 2, none⟩ = some (.int .i64 a0_2) := (blk_cell BK168.out 2).trans rfl
    have hcz22_3 : w18.cell? ⟨gb168, 3, none⟩ = some (.slice A0_3 l0_3.length c0_3) := (blk_cell BK168.out 3).trans rfl
    have hfz22_0 := blk_frozen BK168.out 0
    have hfz22_1 := blk_frozen BK168.out 1
    have hfz22_2 := blk_frozen BK168.out 2
    have hfz22_3 := blk_frozen BK168.out 3
    go_upto_if 19 with (first | ((with_reducible refine gate_callee (f := 37) rfl ?_); refine goesL_ (some 18) rfl rfl Try.func37 zK rfl #[.agg #[.int .i64 a0_0, .int .i64 a0_1, .int .i64 a0_2, .slice A0_3 l0_3.length c0_3]] rfl zM ?_; (with_reducible refine (ancepsref08_leaves.calls k a0_0 a0_1 a0_2 _ _ l0_3 t172 _ ?side1 ?side2 A20.out).mono ?_); (case side1 => repeat (first | exact (Kd.C_below HR0_3.out HB.out) | (with_reducible refine Kd.C_alloc ?_ _) | (with_reducible refine Kd.C_drewN ?_ _) | (with_reducible refine Kd.C_drew ?_))); (case side2 => exact HC0_3.out); rintro e w23 ⟨rfl, hb⟩; refine ⟨_, rfl, ?_⟩; have n0_ := Aside0.mk (blk_below (g := gb168) (o := .cells #[.int .i64 a0_0, .int .i64 a0_1, .int .i64 a0_2, .slice A0_3 l0_3.length c0_3] 24 (0, 0)) (zk BK168) hb); have n1_ := Aside0.mk (below_step zB hb); clear BK168; clear HB; have BK168 := n0_; have HB := n1_; clear n0_ n1_; (try clear hb); (try clear hb2); (try clear hk); (try clear hi)))
    (try simp only [Act.put, List.setIfInBounds_toArray, List.set_cons_zero, List.set_cons_succ])
    have H := HC21.out
    clear HC21
    by_cases c24 : t172 > 400
    ·rw [if_pos c24] at H
     have c24b0 : decide (400 < t172) = true := decide_eq_true c24
     clear c24
     (first | rw [c24b0] | (simp only [i64_w, i32_w]; rw [c24b0]) | skip)
     obtain rfl := Option.some.inj H
     go_wp2
     go_ret
     exact ⟨by first | rfl | (simp [errW_none, errW_some] <;> rfl) | (simp [*, errW_none, errW_some] <;> rfl), by repeat (first | (with_reducible first | exact HB.out | apply below_alloc | apply pw_below_drewN | apply below_drew1 | refine below_set ?_ GE168.out) | exact HB.out)⟩
    ·rw [if_neg c24] at H
     have c24b0 : decide (400 < t172) = false := decide_eq_false c24
     clear c24
     (first | rw [c24b0] | (simp only [i64_w, i32_w]; rw [c24b0]) | skip)
     obtain rfl := Option.some.inj H
     go_wp2
     go_ret
     exact ⟨by first | rfl | (simp [errW_none, errW_some] <;> rfl) | (simp [*, errW_none, errW_some] <;> rfl), by repeat (first | (with_reducible first | exact HB.out | apply below_alloc | apply pw_below_drewN | apply below_drew1 | refine below_set ?_ GE168.out) | exact HB.out)⟩
   ·rw [if_neg c19] at H
    have c19b0 : (t171 == 0) = false := beq_eq_false_iff_ne.mpr c19
    have c19b1 : (t171 != 0) = true := bne_iff_ne.mpr c19
    (first | rw [c19b0] | (simp only [i64_w, i32_w]; rw [c19b0]) | skip)
    (try rw [c19b1])
    obtain rfl := Option.some.inj H
    go_wp2
    go_ret
    exact ⟨by first | rfl | (simp [errW_none, errW_some] <;> rfl) | (simp [*, errW_none, errW_some] <;> rfl), by repeat (first | (with_reducible first | exact HB.out | apply below_alloc | apply pw_below_drewN | apply below_drew1 | refine below_set ?_ GE168.out) | exact HB.out)⟩
end Go.Proofs.Ytpojokndmkhpkaa.M
