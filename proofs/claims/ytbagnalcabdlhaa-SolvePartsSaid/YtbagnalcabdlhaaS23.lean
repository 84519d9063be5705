-- Written by wip/tools/myprint.py, a program of this session's.
import Derived.Test.YtbagnalcabdlhaaS0
namespace Go.Proofs.Ytbagnalcabdlhaa.S
open Go.RowKit Go.Proofs.YtbagnalcabdlhaaW.PrintWords Go.Proofs.YtbagnalcabdlhaaW.PrintLast Go.Proofs.YtbagnalcabdlhaaW.PrintMore
attribute [local go_sem] max2_int min2_int max_two min_two max_three min_three max_four min_four   -- for this text's walks alone
set_option linter.unusedVariables false
set_option linter.unusedSimpArgs false
/-! ### ancepsref38_Made: function 62 -/
mutual
def ancepsref38_Made.l0 : Nat → Int → Int → Int → List Int → Option (List Int × List Int)
 | 0, _, _, _, _ => none
 | k + 1, x4, x615000, x615001, x617000 => if x4 < 24 then (ancepsref38_Made.j1 k x4 (decide ((x617000.length : Int) < 6)) x615000 x615001 x617000) else (ancepsref38_Made.j1 k x4 false x615000 x615001 x617000)
def ancepsref38_Made.j1 : Nat → Int → Bool → Int → Int → List Int → Option (List Int × List Int)
 | 0, _, _, _, _, _ => none
 | k + 1, x4, x13, x615000, x615001, x617000 => if x13 = true then (if 0 ≤ x4 then (if (Int.tmod (shr .u32 x615000 x4) 2) = 1 then (if x617000.length < 17592186044416 then (ancepsref38_Made.l0 k (wrap64 (x4 + 1)) x615000 x615001 (x617000 ++ [x4])) else (none)) else (ancepsref38_Made.l0 k (wrap64 (x4 + 1)) x615000 x615001 x617000)) else (none)) else (ancepsref38_Made.l1 k 0 x615000 x615001 x617000 ([] : List Int))
def ancepsref38_Made.l1 : Nat → Int → Int → Int → List Int → List Int → Option (List Int × List Int)
 | 0, _, _, _, _, _ => none
 | k + 1, x5, x615000, x615001, x617000, x617001 => if x5 < (shl .i64 1 (x617000.length : Int)) then (if 0 ≤ x5 then (if (Int.tmod (shr .u64 x615001 x5) 2) = 1 then (if x617001.length < 17592186044416 then (ancepsref38_Made.l1 k (wrap64 (x5 + 1)) x615000 x615001 x617000 (x617001 ++ [x5])) else (none)) else (ancepsref38_Made.l1 k (wrap64 (x5 + 1)) x615000 x615001 x617000 x617001)) else (none)) else (some (x617000, x617001))
end
def ancepsref38_Made.f (k : Nat) (a0_0 : Int) (a0_1 : Int) : Option (List Int × List Int) := ancepsref38_Made.l0 k 0 a0_0 a0_1 ([] : List Int)
theorem ancepsref38_Made.mono_l : ∀ k, (∀ y0 y1 y2 y3, LeO (ancepsref38_Made.l0 k y0 y1 y2 y3) (ancepsref38_Made.l0 (k + 1) y0 y1 y2 y3)) ∧ (∀ y0 y1 y2 y3 y4, LeO (ancepsref38_Made.j1 k y0 y1 y2 y3 y4) (ancepsref38_Made.j1 (k + 1) y0 y1 y2 y3 y4)) ∧ (∀ y0 y1 y2 y3 y4, LeO (ancepsref38_Made.l1 k y0 y1 y2 y3 y4) (ancepsref38_Made.l1 (k + 1) y0 y1 y2 y3 y4))
 | 0 => ⟨fun _ _ _ _ r h => by simp [ancepsref38_Made.l0] at h, fun _ _ _ _ _ r h => by simp [ancepsref38_Made.j1] at h, fun _ _ _ _ _ r h => by simp [ancepsref38_Made.l1] at h⟩
 | k + 1 => by
  obtain ⟨ih0, ih1, ih2⟩ := ancepsref38_Made.mono_l k
  refine ⟨?_, ?_, ?_⟩
  ·intro y0 y1 y2 y3
   unfold ancepsref38_Made.l0
   repeat' first
   | (with_reducible exact ih0 _ _ _ _)
   | (with_reducible exact ih1 _ _ _ _ _)
   | (with_reducible exact ih2 _ _ _ _ _)
   | (with_reducible exact LeO.refl _)
   | (with_reducible exact LeO.none _)
   | (with_reducible refine LeO.ite ?_ ?_)
   | (with_reducible refine LeO.bind ?_ (fun _ => ?_))
   | exact ih0 _ _ _ _
   | exact ih1 _ _ _ _ _
   | exact ih2 _ _ _ _ _
   | exact LeO.none _
   | refine LeO.ite ?_ ?_
   | refine LeO.bind ?_ (fun _ => ?_)
  ·intro y0 y1 y2 y3 y4
   unfold ancepsref38_Made.j1
   repeat' first
   | (with_reducible exact ih0 _ _ _ _)
   | (with_reducible exact ih1 _ _ _ _ _)
   | (with_reducible exact ih2 _ _ _ _ _)
   | (with_reducible exact LeO.refl _)
   | (with_reducible exact LeO.none _)
   | (with_reducible refine LeO.ite ?_ ?_)
   | (with_reducible refine LeO.bind ?_ (fun _ => ?_))
   | exact ih0 _ _ _ _
   | exact ih1 _ _ _ _ _
   | exact ih2 _ _ _ _ _
   | exact LeO.none _
   | refine LeO.ite ?_ ?_
   | refine LeO.bind ?_ (fun _ => ?_)
  ·intro y0 y1 y2 y3 y4
   unfold ancepsref38_Made.l1
   repeat' first
   | (with_reducible exact ih0 _ _ _ _)
   | (with_reducible exact ih1 _ _ _ _ _)
   | (with_reducible exact ih2 _ _ _ _ _)
   | (with_reducible exact LeO.refl _)
   | (with_reducible exact LeO.none _)
   | (with_reducible refine LeO.ite ?_ ?_)
   | (with_reducible refine LeO.bind ?_ (fun _ => ?_))
   | exact ih0 _ _ _ _
   | exact ih1 _ _ _ _ _
   | exact ih2 _ _ _ _ _
   | exact LeO.none _
   | refine LeO.ite ?_ ?_
   | refine LeO.bind ?_ (fun _ => ?_)
theorem ancepsref38_Made.mono : ∀ a0 a1 k, LeO (ancepsref38_Made.f k a0 a1) (ancepsref38_Made.f (k + 1) a0 a1) := by
 intro a0 a1 k
 obtain ⟨ih0, ih1, ih2⟩ := ancepsref38_Made.mono_l k
 unfold ancepsref38_Made.f
 repeat' first
   | (with_reducible exact ih0 _ _ _ _)
   | (with_reducible exact ih1 _ _ _ _ _)
   | (with_reducible exact ih2 _ _ _ _ _)
   | (with_reducible exact LeO.refl _)
   | (with_reducible exact LeO.none _)
   | (with_reducible refine LeO.ite ?_ ?_)
   | (with_reducible refine LeO.bind ?_ (fun _ => ?_))
   | exact ih0 _ _ _ _
   | exact ih1 _ _ _ _ _
   | exact ih2 _ _ _ _ _
   | exact LeO.none _
   | refine LeO.ite ?_ ?_
   | refine LeO.bind ?_ (fun _ => ?_)
set_option maxHeartbeats 8000000 in
set_option maxRecDepth 100000 in
theorem ancepsref38_Made.calls (k : Nat) (a0_0 : Int) (a0_1 : Int) (r1 : List Int) (r2 : List Int) (w : World) (h : ancepsref38_Made.f k a0_0 a0_1 = some (r1, r2)) :
  Calls Try.prog 62 #[.agg #[.int .u32 a0_0, .int .u64 a0_1]] w fun e w' => ∃ v0_ v1_ : Value, e = .returned (.agg #[v0_, v1_]) ∧ Kd.R (Kd.int .i64) 3 w' w.heap.size (fun k_ => some k_ ≠ (v1_ : Value).ownBlock) v0_ r1 ∧ Kd.R (Kd.int .i64) 3 w' w.heap.size (fun k_ => some k_ ≠ (v0_ : Value).ownBlock) v1_ r2 ∧ Below w.heap.size w w' := by
 have hu85 := Try.underlying85
 have hu61 := Try.underlying61
 have hu42 := Try.underlying42
 have hu82 := Try.underlying82
 have hu83 := Try.underlying83
 have HB := Aside0.mk (Below.refl w.heap.size w)
 have H : (ancepsref38_Made.l0 k 0 a0_0 a0_1 ([] : List Int)) = some (r1, r2) := h
 clear h
 have H' := Aside0.mk H
 clear H
 go_enter Try.func62, Try.ntmps62
 go_wp2_with (first | ((with_reducible refine gate_dst (N := 1) rfl ?_); (try (refine gate_guard (by rfl) ?_; dsimp only)); refine box_event ?hg (N := 1) ?hd (cs := #[.int .u32 a0_0, .int .u64 a0_1]) (t := 85) ?hr ?_; (case hd => rfl); (case hg => rfl); (case hr => first | (go_simp; done) | (go_simp; rfl)); intro gb614 hg w2 hbox hb; have n0_ := Aside0.mk (below_step zB hb); have n1_ := Aside0.mk (hbox); have n2_ := Aside0.mk ((by rw [hg]; exact (below_size zB) : w.heap.size ≤ gb614)); have n3_ := Aside0.mk ((by rw [hg]; exact (below_size zB) : w.heap.size ≤ gb614)); clear HB; have HB := n0_; have BK614 := n1_; have GW614 := n2_; have GE614 := n3_; clear n0_ n1_ n2_ n3_; clear hb hbox hg) | ((with_reducible refine gate_dst (N := 2) rfl ?_); (try (refine gate_guard (by rfl) ?_; dsimp only)); refine box_event ?hg (N := 2) ?hd (cs := #[.slice none 0 0, .slice none 0 0]) (t := 61) ?hr ?_; (case hd => rfl); (case hg => rfl); (case hr => first | (go_simp; done) | (go_simp; rfl)); intro gb615 hg w3 hbox hb; have n0_ := Aside0.mk (blk_below (g := gb614) (o := .cells #[.int .u32 a0_0, .int .u64 a0_1] 85 (0, 0)) (zk BK614) hb); have n1_ := Aside0.mk (below_step zB hb); have n2_ := Aside0.mk (hbox); have n3_ := Aside0.mk ((by rw [hg]; exact (below_size zB) : w.heap.size ≤ gb615)); have n4_ := Aside0.mk ((by rw [hg]; exact (below_size zB) : w.heap.size ≤ gb615)); have n5_ := Aside0.mk ((by rw [hg]; exact Nat.ne_of_lt (blk_lt (g := gb614) (o := .cells #[.int .u32 a0_0, .int .u64 a0_1] 85 (0, 0)) (zk BK614)) : gb614 ≠ gb615)); have n6_ := Aside0.mk ((by rw [hg]; exact Nat.ne_of_gt (blk_lt (g := gb614) (o := .cells #[.int .u32 a0_0, .int .u64 a0_1] 85 (0, 0)) (zk BK614)) : gb615 ≠ gb614)); clear BK614; clear HB; have BK614 := n0_; have HB := n1_; have BK615 := n2_; have GW615 := n3_; have GE615 := n4_; have NB614_615 := n5_; have NB615_614 := n6_; clear n0_ n1_ n2_ n3_ n4_ n5_ n6_; clear hb hbox hg) | ((with_reducible refine gate_dst (N := 3) rfl ?_); (try (refine gate_guard (by rfl) ?_; dsimp only)); refine box_event ?hg (N := 3) ?hd (cs := #[.slice none 0 0, .slice none 0 0]) (t := 61) ?hr ?_; (case hd => rfl); (case hg => rfl); (case hr => first | (go_simp; done) | (go_simp; rfl)); intro gb616 hg w4 hbox hb; have n0_ := Aside0.mk (blk_below (g := gb614) (o := .cells #[.int .u32 a0_0, .int .u64 a0_1] 85 (0, 0)) (zk BK614) hb); have n1_ := Aside0.mk (blk_below (g := gb615) (o := .cells #[.slice none 0 0, .slice none 0 0] 61 (0, 0)) (zk BK615) hb); have n2_ := Aside0.mk (below_step zB hb); have n3_ := Aside0.mk (hbox); have n4_ := Aside0.mk ((by rw [hg]; exact (below_size zB) : w.heap.size ≤ gb616)); have n5_ := Aside0.mk ((by rw [hg]; exact (below_size zB) : w.heap.size ≤ gb616)); have n6_ := Aside0.mk ((by rw [hg]; exact Nat.ne_of_lt (blk_lt (g := gb614) (o := .cells #[.int .u32 a0_0, .int .u64 a0_1] 85 (0, 0)) (zk BK614)) : gb614 ≠ gb616)); have n7_ := Aside0.mk ((by rw [hg]; exact Nat.ne_of_gt (blk_lt (g := gb614) (o := .cells #[.int .u32 a0_0, .int .u64 a0_1] 85 (0, 0)) (zk BK614)) : gb616 ≠ gb614)); have n8_ := Aside0.mk ((by rw [hg]; exact Nat.ne_of_lt (blk_lt (g := gb615) (o := .cells #[.slice none 0 0, .slice none 0 0] 61 (0, 0)) (zk BK615)) : gb615 ≠ gb616)); have n9_ := Aside0.mk ((by rw [hg]; exact Nat.ne_of_gt (blk_lt (g := gb615) (o := .cells #[.slice none 0 0, .slice none 0 0] 61 (0, 0)) (zk BK615)) : gb616 ≠ gb615)); clear BK614; clear BK615; clear HB; have BK614 := n0_; have BK615 := n1_; have HB := n2_; have BK616 := n3_; have GW616 := n4_; have GE616 := n5_; have NB614_616 := n6_; have NB616_614 := n7_; have NB615_616 := n8_; have NB616_615 := n9_; clear n0_ n1_ n2_ n3_ n4_ n5_ n6_ n7_ n8_ n9_; clear hb hbox hg))
 go_loopg [4] k (fun kq v4 w' => ∃ (x4_1 : Int) (x617000_1 : List Int) (u617000 : Value), v4 = .int .i64 x4_1 ∧ Aside0 (ancepsref38_Made.l0 kq x4_1 a0_0 a0_1 x617000_1 = some (r1, r2)) ∧ Aside0 (kq ≤ k) ∧ Aside0 (Kd.R (Kd.int .i64) 3 w' w.heap.size (fun _ => True) u617000 x617000_1) ∧ Aside0 (w'.heap[gb614]? = some (.cells #[.int .u32 a0_0, .int .u64 a0_1] 85 (0, 0))) ∧ Aside0 (w'.heap[gb615]? = some (.cells #[(.slice none 0 0), (.slice none 0 0)] 61 (0, 0))) ∧ Aside0 (w'.heap[gb616]? = some (.cells #[u617000, (.slice none 0 0)] 61 (0, 0))) ∧ Aside0 (Below w.heap.size w w'))
 case atStart => exact ⟨(0), (([] : List Int)), (.slice none 0 0), zT, H', ⟨Nat.le_refl _⟩, ⟨by first | exact Kd.R_nil _ _ _ _ _ | exact Kd.N_nil _ _ _ _ _ | exact Kd.V_nil _ _ _ _ _ | exact Kd.Q_nil _ _ _ _ _ | exact Kd.S_nil _ _ _ _ _⟩, ⟨by (with_reducible repeat (first | refine blk_drewN ?_ _ | refine blk_drew ?_ | refine blk_alloc ?_ _)); exact BK614.out⟩, ⟨by (with_reducible repeat (first | refine blk_drewN ?_ _ | refine blk_drew ?_ | refine blk_alloc ?_ _)); exact BK615.out⟩, ⟨by (with_reducible repeat (first | refine blk_drewN ?_ _ | refine blk_drew ?_ | refine blk_alloc ?_ _)); exact BK616.out⟩, ⟨by repeat (first | (with_reducible first | exact HB.out | apply below_alloc | apply pw_below_drewN | apply below_drew1 | refine below_set ?_ GE614.out | refine below_set ?_ GE615.out | refine below_set ?_ GE616.out) | exact HB.out)⟩⟩
 case round =>
  clear H'
  obtain ⟨x4_1, x617000_1, u617000, rfl, HA, HK1, HO_617000, BK614, BK615, BK616, HB⟩ := hrel
  cases gk with
  | zero => exact absurd HA.out (by simp [ancepsref38_Made.l0])
  | succ k1 =>
   have H := HA.out
   clear HA
   simp only [ancepsref38_Made.l0] at H
   have HC5 := Aside0.mk H
   clear H
   go_upto_region 3 with (fail)
   go_cut [13] (fun v13 wc => ∃ (kq : Nat) (x13_4 : Bool), v13 = .bool x13_4 ∧ Aside0 (ancepsref38_Made.j1 kq x4_1 x13_4 a0_0 a0_1 x617000_1 = some (r1, r2)) ∧ Aside0 (kq ≤ k1) ∧ Aside0 (Kd.R (Kd.int .i64) 3 wc w.heap.size (fun _ => True) u617000 x617000_1) ∧ Aside0 (wc.heap[gb614]? = some (.cells #[.int .u32 a0_0, .int .u64 a0_1] 85 (0, 0))) ∧ Aside0 (wc.heap[gb615]? = some (.cells #[(.slice none 0 0), (.slice none 0 0)] 61 (0, 0))) ∧ Aside0 (wc.heap[gb616]? = some (.cells #[u617000, (.slice none 0 0)] 61 (0, 0))) ∧ Aside0 (Below w.heap.size w wc))
   case first =>
    have H := HC5.out
    clear HC5
    by_cases c6 : x4_1 < 24
    ·rw [if_pos c6] at H
     have c6b0 : decide (x4_1 < 24) = true := decide_eq_true c6
     clear c6
     (first | rw [c6b0] | (simp only [i64_w, i32_w]; rw [c6b0]) | skip)
     have H' := Aside0.mk H
     clear H
     have hnb7 := NB616_614.out
     have hnc7 := NB614_616.out
     have hnb8 := NB616_615.out
     have hnc8 := NB615_616.out
     have hcz9_0 : wr.cell? ⟨gb616, 0, none⟩ = some (u617000) := (blk_cell BK616.out 0).trans rfl
     have hcz9_1 : wr.cell? ⟨gb616, 1, none⟩ = some (.slice none 0 0) := (blk_cell BK616.out 1).trans rfl
     have hfz9_0 := blk_frozen BK616.out 0
     have hfz9_1 := blk_frozen BK616.out 1
     obtain ⟨Ao10, co10, eo10⟩ := Kd.R_slice HO_617000.out
     subst eo10
     go_wp2
     go_meet
     case rel => exact ⟨_, (decide ((x617000_1.length : Int) < 6)), zT, H', ⟨by have := HK1.out; first | omega | exact Nat.le_refl _⟩, ⟨by (with_reducible repeat (first | apply Kd.R_alloc | apply Kd.R_drewN | apply Kd.R_drew)); exact HO_617000.out⟩, ⟨by (with_reducible repeat (first | refine blk_drewN ?_ _ | refine blk_drew ?_ | refine blk_alloc ?_ _)); exact BK614.out⟩, ⟨by (with_reducible repeat (first | refine blk_drewN ?_ _ | refine blk_drew ?_ | refine blk_alloc ?_ _)); exact BK615.out⟩, ⟨by (with_reducible repeat (first | refine blk_drewN ?_ _ | refine blk_drew ?_ | refine blk_alloc ?_ _)); exact BK616.out⟩, ⟨by repeat (first | (with_reducible first | exact HB.out | apply below_alloc | apply pw_below_drewN | apply below_drew1 | refine below_set ?_ GE614.out | refine below_set ?_ GE615.out | refine below_set ?_ GE616.out) | exact HB.out)⟩⟩
    ·rw [if_neg c6] at H
     have c6b0 : decide (x4_1 < 24) = false := decide_eq_false c6
     clear c6
     (first | rw [c6b0] | (simp only [i64_w, i32_w]; rw [c6b0]) | skip)
     have H' := Aside0.mk H
     clear H
     go_wp2
     go_meet
     case rel => exact ⟨_, (false), zT, H', ⟨by have := HK1.out; first | omega | exact Nat.le_refl _⟩, ⟨by (with_reducible repeat (first | apply Kd.R_alloc | apply Kd.R_drewN | apply Kd.R_drew)); exact HO_617000.out⟩, ⟨by (with_reducible repeat (first | refine blk_drewN ?_ _ | refine blk_drew ?_ | refine blk_alloc ?_ _)); exact BK614.out⟩, ⟨by (with_reducible repeat (first | refine blk_drewN ?_ _ | refine blk_drew ?_ | refine blk_alloc ?_ _)); exact BK615.out⟩, ⟨by (with_reducible repeat (first | refine blk_drewN ?_ _ | refine blk_drew ?_ | refine blk_alloc ?_ _)); exact BK616.out⟩, ⟨by repeat (first | (with_reducible first | exact HB.out | apply below_alloc | apply pw_below_drewN | apply below_drew1 | refine below_set ?_ GE614.out | refine below_set ?_ GE615.out | refine below_set ?_ GE616.out) | exact HB.out)⟩⟩
   case rest =>
    clear HC5
    obtain ⟨kq, x13_4, rfl, HA, HJ4, HO_617000, BK614, BK615, BK616, HB⟩ := hcut
    cases kq with
    | zero => exact absurd HA.out (by simp [ancepsref38_Made.j1])
    | succ kj4 =>
     have H := HA.out
     clear HA
     simp only [ancepsref38_Made.j1] at H
     by_cases c11 : x13_4 = true
     ·subst c11
      have H1 : (if 0 ≤ x4_1 then (if (Int.tmod (shr .u32 a0_0 x4_1) 2) = 1 then (if x617000_1.length < 17592186044416 then (ancepsref38_Made.l0 kj4 (wrap64 (x4_1 + 1)) a0_0 a0_1 (x617000_1 ++ [x4_1])) else (none)) else (ancepsref38_Made.l0 kj4 (wrap64 (x4_1 + 1)) a0_0 a0_1 x617000_1)) else (none)) = some (r1, r2) := by rw [if_pos rfl] at H; exact H
      clear H
      have H := H1
      clear H1
      by_cases c12 : 0 ≤ x4_1
      ·rw [if_pos c12] at H
       have c12b0 := eq_true c12
       have c12b1 : decide (0 ≤ x4_1) = true := decide_eq_true c12
       clear c12
       obtain ⟨ji13, hji13⟩ : ∃ j_ : Int, (shr .u32 a0_0 x4_1) = j_ := ⟨_, rfl⟩
       replace H : (if (Int.tmod (ji13) 2) = 1 then (if x617000_1.length < 17592186044416 then (ancepsref38_Made.l0 kj4 (wrap64 (x4_1 + 1)) a0_0 a0_1 (x617000_1 ++ [x4_1])) else (none)) else (ancepsref38_Made.l0 kj4 (wrap64 (x4_1 + 1)) a0_0 a0_1 x617000_1)) = some (r1, r2) := by first | (rw [hji13] at H; exact H) | (simp only [hji13] at H ⊢; exact H)
       have hji13_ : (a0_0 / 2 ^ min x4_1.toNat 32) = ji13 := hji13
       have hji13z : x4_1 ≤ 32 → (a0_0 / 2 ^ x4_1.toNat) = ji13 := shr_small hji13
       by_cases c14 : (Int.tmod (ji13) 2) = 1
       ·rw [if_pos c14] at H
        have c14b0 : ((Int.tmod (ji13) 2) == 1) = true := beq_iff_eq.mpr c14
        have c14b1 : ((Int.tmod (ji13) 2) != 1) = false := bne_eq_false_iff_eq.mpr c14
        clear c14
        by_cases c15 : x617000_1.length < 17592186044416
        ·rw [if_pos c15] at H
         have LMc15 := Aside0.mk c15
         clear c15
         obtain ⟨y617, hy617⟩ : ∃ y_ : List Int, y_ = (x617000_1 ++ [x4_1]) := ⟨_, rfl⟩
         replace H : (ancepsref38_Made.l0 kj4 (wrap64 (x4_1 + 1)) a0_0 a0_1 y617) = some (r1, r2) := by first | (rw [hy617]; with_reducible exact H) | (have H2_ := (Option.bind_some _ _).symm.trans H; rw [hy617]; with_reducible exact H2_) | (have H2_ := (Option.bind_some _ _).symm.trans H; with_reducible exact H2_) | with_reducible exact H | (rw [hy617]; exact H) | exact H
         have Ny617 := Aside0.mk hy617
         clear hy617
         have H' := Aside0.mk H
         clear H
         have hnb16 := NB614_615.out
         have hnc16 := NB615_614.out
         have hnb17 := NB614_616.out
         have hnc17 := NB616_614.out
         have hcz18_0 : wc.cell? ⟨gb614, 0, none⟩ = some (.int .u32 a0_0) := (blk_cell BK614.out 0).trans rfl
         have hcz18_1 : wc.cell? ⟨gb614, 1, none⟩ = some (.int .u64 a0_1) := (blk_cell BK614.out 1).trans rfl
         have hfz18_0 := blk_frozen BK614.out 0
         have hfz18_1 := blk_frozen BK614.out 1
         have hnb19 := NB616_615.out
         have hnc19 := NB615_616.out
         have hcz20_0 : wc.cell? ⟨gb616, 0, none⟩ = some (u617000) := (blk_cell BK616.out 0).trans rfl
         have hcz20_1 : wc.cell? ⟨gb616, 1, none⟩ = some (.slice none 0 0) := (blk_cell BK616.out 1).trans rfl
         have hfz20_0 := blk_frozen BK616.out 0
         have hfz20_1 := blk_frozen BK616.out 1
         go_wp2_with (first | ((with_reducible refine gate_builtin (b := .append) (xs := #[.tmp 23, .tmp 25]) rfl ?_); (try (refine gate_guard (by rfl) ?_; dsimp only)); at_builtin; refine Kd.R_append (Kd.int .i64) (w0 := w) w.heap.size rfl (.tmp 23) (.tmp 25) 42 3 (.int .i64 0) 8 rfl Try.underlying42 info3 rfl (by decide) (by omega) u617000 x617000_1 x4_1 [.int .i64 x4_1] (fun _ => True) (fun _ => False) rfl rfl ?aP (fun _ hk => hk.elim) ?aF ?aO ?aB ?aS ?aL ?_; (case aP => exact rfl); (case aB => exact zB); (case aF => exact (fun _ _ => trivial)); (case aO => exact (zR HO_617000)); (case aS => exact (below_size zB)); (case aL => have := LMc15.out; omega); intro v618 w21 ho hb hg hat; rw [← Ny617.out] at ho; have n0_ := Aside0.mk (blk_grown (g := gb614) (o := .cells #[.int .u32 a0_0, .int .u64 a0_1] 85 (0, 0)) (zk BK614) hg (Kd.R_ne HO_617000.out BK614.out (by decide))); have n1_ := Aside0.mk (blk_grown (g := gb615) (o := .cells #[.slice none 0 0, .slice none 0 0] 61 (0, 0)) (zk BK615) hg (Kd.R_ne HO_617000.out BK615.out (by decide))); have n2_ := Aside0.mk (blk_grown (g := gb616) (o := .cells #[u617000, .slice none 0 0] 61 (0, 0)) (zk BK616) hg (Kd.R_ne HO_617000.out BK616.out (by decide))); have n3_ := Aside0.mk (hb); have n4_ := Aside0.mk (ho); clear BK614; clear BK615; clear BK616; clear HB; clear HO_617000; have BK614 := n0_; have BK615 := n1_; have BK616 := n2_; have HB := n3_; have HO619 := n4_; clear n0_ n1_ n2_ n3_ n4_; clear ho hb hg hat; obtain ⟨Ao22, co22, eo22⟩ := Kd.R_slice HO619.out; subst eo22; have hcz23_0 : w21.cell? ⟨gb616, 0, none⟩ = some (u617000) := (blk_cell BK616.out 0).trans rfl; have hcz23_1 : w21.cell? ⟨gb616, 1, none⟩ = some (.slice none 0 0) := (blk_cell BK616.out 1).trans rfl; have hfz23_0 := blk_frozen BK616.out 0; have hfz23_1 := blk_frozen BK616.out 1))
         go_roundg kj4
         case measure => have := HK1.out; have := HJ4.out; omega
         case rel => exact ⟨(wrap64 (x4_1 + 1)), (y617), (.slice Ao22 y617.length co22), zT, H', ⟨by have := HK1.out; have := HJ4.out; omega⟩, ⟨by (with_reducible repeat (first | apply Kd.R_alloc | apply Kd.R_drewN | apply Kd.R_drew)); exact Kd.R_mono (Kd.R_far (p := ⟨gb616, 0, none⟩) (Kd.R_types HO619.out BK616.out (by decide)) (fun _ hk => hk.2) (.slice Ao22 y617.length co22)) (fun _ hk => trivial)⟩, ⟨by (with_reducible repeat (first | refine blk_drewN ?_ _ | refine blk_drew ?_ | refine blk_alloc ?_ _)); refine blk_far ?_ NB614_616.out _; (with_reducible repeat (first | refine blk_drewN ?_ _ | refine blk_drew ?_ | refine blk_alloc ?_ _)); exact BK614.out⟩, ⟨by (with_reducible repeat (first | refine blk_drewN ?_ _ | refine blk_drew ?_ | refine blk_alloc ?_ _)); refine blk_far ?_ NB615_616.out _; (with_reducible repeat (first | refine blk_drewN ?_ _ | refine blk_drew ?_ | refine blk_alloc ?_ _)); exact BK615.out⟩, ⟨by (with_reducible repeat (first | refine blk_drewN ?_ _ | refine blk_drew ?_ | refine blk_alloc ?_ _)); refine blk_put (cs := #[u617000, .slice none 0 0]) ?_ 0 _ rfl; (with_reducible repeat (first | refine blk_drewN ?_ _ | refine blk_drew ?_ | refine blk_alloc ?_ _)); exact BK616.out⟩, ⟨by repeat (first | (with_reducible first | exact HB.out | apply below_alloc | apply pw_below_drewN | apply below_drew1 | refine below_set ?_ GE614.out | refine below_set ?_ GE615.out | refine below_set ?_ GE616.out) | exact HB.out)⟩⟩
        ·rw [if_neg c15] at H
         exact absurd H (by simp)
       ·rw [if_neg c14] at H
        have c14b0 : ((Int.tmod (ji13) 2) == 1) = false := beq_eq_false_iff_ne.mpr c14
        have c14b1 : ((Int.tmod (ji13) 2) != 1) = true := bne_iff_ne.mpr c14
        have H' := Aside0.mk H
        clear H
        have hnb24 := NB614_615.out
        have hnc24 := NB615_614.out
        have hnb25 := NB614_616.out
        have hnc25 := NB616_614.out
        have hcz26_0 : wc.cell? ⟨gb614, 0, none⟩ = some (.int .u32 a0_0) := (blk_cell BK614.out 0).trans rfl
        have hcz26_1 : wc.cell? ⟨gb614, 1, none⟩ = some (.int .u64 a0_1) := (blk_cell BK614.out 1).trans rfl
        have hfz26_0 := blk_frozen BK614.out 0
        have hfz26_1 := blk_frozen BK614.out 1
        go_wp2
        go_roundg kj4
        case measure => have := HK1.out; have := HJ4.out; omega
        case rel => exact ⟨(wrap64 (x4_1 + 1)), (x617000_1), (u617000), zT, H', ⟨by have := HK1.out; have := HJ4.out; omega⟩, ⟨by (with_reducible repeat (first | apply Kd.R_alloc | apply Kd.R_drewN | apply Kd.R_drew)); exact HO_617000.out⟩, ⟨by (with_reducible repeat (first | refine blk_drewN ?_ _ | refine blk_drew ?_ | refine blk_alloc ?_ _)); exact BK614.out⟩, ⟨by (with_reducible repeat (first | refine blk_drewN ?_ _ | refine blk_drew ?_ | refine blk_alloc ?_ _)); exact BK615.out⟩, ⟨by (with_reducible repeat (first | refine blk_drewN ?_ _ | refine blk_drew ?_ | refine blk_alloc ?_ _)); exact BK616.out⟩, ⟨by repeat (first | (with_reducible first | exact HB.out | apply below_alloc | apply pw_below_drewN | apply below_drew1 | refine below_set ?_ GE614.out | refine below_set ?_ GE615.out | refine below_set ?_ GE616.out) | exact HB.out)⟩⟩
      ·rw [if_neg c12] at H
       exact absurd H (by simp)
     ·replace c11 := Bool.eq_false_iff.mpr c11
      subst c11
      have H1 : (ancepsref38_Made.l1 kj4 0 a0_0 a0_1 x617000_1 ([] : List Int)) = some (r1, r2) := by rw [if_neg (show ¬ (false = true) by decide)] at H; exact H
      clear H
      have H := H1
      clear H1
      have H' := Aside0.mk H
      clear H
      go_wp2
      go_loopg [5] kj4 (fun kq v5 w' => ∃ (x5_3 : Int) (x617001_3 : List Int) (u617001 : Value), v5 = .int .i64 x5_3 ∧ Aside0 (ancepsref38_Made.l1 kq x5_3 a0_0 a0_1 x617000_1 x617001_3 = some (r1, r2)) ∧ Aside0 (kq ≤ kj4) ∧ Aside0 (Kd.R (Kd.int .i64) 3 w' w.heap.size (fun k_ => some k_ ≠ (u617001 : Value).ownBlock) u617000 x617000_1) ∧ Aside0 (Kd.R (Kd.int .i64) 3 w' w.heap.size (fun k_ => some k_ ≠ (u617000 : Value).ownBlock) u617001 x617001_3) ∧ Aside0 (w'.heap[gb614]? = some (.cells #[.int .u32 a0_0, .int .u64 a0_1] 85 (0, 0))) ∧ Aside0 (w'.heap[gb615]? = some (.cells #[(.slice none 0 0), (.slice none 0 0)] 61 (0, 0))) ∧ Aside0 (w'.heap[gb616]? = some (.cells #[u617000, u617001] 61 (0, 0))) ∧ Aside0 (Below w.heap.size w w'))
      case atStart => exact ⟨(0), (([] : List Int)), (.slice none 0 0), zT, H', ⟨Nat.le_refl _⟩, ⟨by (with_reducible repeat (first | apply Kd.R_alloc | apply Kd.R_drewN | apply Kd.R_drew)); exact Kd.R_mono HO_617000.out (fun _ hk => (by simp [Value.ownBlock]))⟩, ⟨by first | exact Kd.R_nil _ _ _ _ _ | exact Kd.N_nil _ _ _ _ _ | exact Kd.V_nil _ _ _ _ _ | exact Kd.Q_nil _ _ _ _ _ | exact Kd.S_nil _ _ _ _ _⟩, ⟨by (with_reducible repeat (first | refine blk_drewN ?_ _ | refine blk_drew ?_ | refine blk_alloc ?_ _)); exact BK614.out⟩, ⟨by (with_reducible repeat (first | refine blk_drewN ?_ _ | refine blk_drew ?_ | refine blk_alloc ?_ _)); exact BK615.out⟩, ⟨by (with_reducible repeat (first | refine blk_drewN ?_ _ | refine blk_drew ?_ | refine blk_alloc ?_ _)); exact BK616.out⟩, ⟨by repeat (first | (with_reducible first | exact HB.out | apply below_alloc | apply pw_below_drewN | apply below_drew1 | refine below_set ?_ GE614.out | refine below_set ?_ GE615.out | refine below_set ?_ GE616.out) | exact HB.out)⟩⟩
      case round =>
       clear H'
       try clear c11
       obtain ⟨x5_3, x617001_3, u617001, rfl, HA, HK3, HO_617000, HO_617001, BK614, BK615, BK616, HB⟩ := hrel
       cases gk with
       | zero => exact absurd HA.out (by simp [ancepsref38_Made.l1])
       | succ k3 =>
        have H := HA.out
        clear HA
        simp only [ancepsref38_Made.l1] at H
        obtain ⟨ji27, hji27⟩ : ∃ j_ : Int, (shl .i64 1 (x617000_1.length : Int)) = j_ := ⟨_, rfl⟩
        replace H : (if x5_3 < (ji27) then (if 0 ≤ x5_3 then (if (Int.tmod (shr .u64 a0_1 x5_3) 2) = 1 then (if x617001_3.length < 17592186044416 then (ancepsref38_Made.l1 k3 (wrap64 (x5_3 + 1)) a0_0 a0_1 x617000_1 (x617001_3 ++ [x5_3])) else (none)) else (ancepsref38_Made.l1 k3 (wrap64 (x5_3 + 1)) a0_0 a0_1 x617000_1 x617001_3)) else (none)) else (some (x617000_1, x617001_3))) = some (r1, r2) := by first | (rw [hji27] at H; exact H) | (simp only [hji27] at H ⊢; exact H)
        have hji27_ : (IntKind.i64.wrap (1 * 2 ^ min (x617000_1.length : Int).toNat 64)) = ji27 := hji27
        have hji27z : (x617000_1.length : Int) ≤ 64 → (IntKind.i64.wrap (1 * 2 ^ (x617000_1.length : Int).toNat)) = ji27 := shl_small hji27
        have hji27p : (IntKind.i64.wrap (1 * 2 ^ min x617000_1.length 64)) = ji27 := hji27_
        have hji27q : (x617000_1.length : Int) ≤ 64 → (IntKind.i64.wrap (1 * 2 ^ x617000_1.length)) = ji27 := hji27z
        have hji27r : (IntKind.i64.wrap (2 ^ min x617000_1.length 64)) = ji27 := by have h_ := hji27p; rw [Int.one_mul] at h_; exact h_
        have hji27s : (x617000_1.length : Int) ≤ 64 → (IntKind.i64.wrap (2 ^ x617000_1.length)) = ji27 := fun hle_ => by have h_ := hji27q hle_; rw [Int.one_mul] at h_; exact h_
        have hji27u : (IntKind.i64.wrap (2 ^ min (x617000_1.length : Int).toNat 64)) = ji27 := by have h_ := hji27_; rw [Int.one_mul] at h_; exact h_
        have hji27v : (x617000_1.length : Int) ≤ 64 → (IntKind.i64.wrap (2 ^ (x617000_1.length : Int).toNat)) = ji27 := fun hle_ => by have h_ := hji27z hle_; rw [Int.one_mul] at h_; exact h_
        have hji27y : (wrap64 (1 * 2 ^ min (x617000_1.length : Int).toNat 64)) = ji27 := (i64_w _).symm.trans hji27_
        have hji27x : (x617000_1.length : Int) ≤ 64 → (wrap64 (1 * 2 ^ (x617000_1.length : Int).toNat)) = ji27 := fun h_ => (i64_w _).symm.trans (hji27z h_)
        by_cases c28 : x5_3 < (ji27)
        ·rw [if_pos c28] at H
         have c28b0 : decide (x5_3 < (ji27)) = true := decide_eq_true c28
         clear c28
         by_cases c29 : 0 ≤ x5_3
         ·rw [if_pos c29] at H
          have c29b0 := eq_true c29
          have c29b1 : decide (0 ≤ x5_3) = true := decide_eq_true c29
          clear c29
          obtain ⟨ji30, hji30⟩ : ∃ j_ : Int, (shr .u64 a0_1 x5_3) = j_ := ⟨_, rfl⟩
          replace H : (if (Int.tmod (ji30) 2) = 1 then (if x617001_3.length < 17592186044416 then (ancepsref38_Made.l1 k3 (wrap64 (x5_3 + 1)) a0_0 a0_1 x617000_1 (x617001_3 ++ [x5_3])) else (none)) else (ancepsref38_Made.l1 k3 (wrap64 (x5_3 + 1)) a0_0 a0_1 x617000_1 x617001_3)) = some (r1, r2) := by first | (rw [hji30] at H; exact H) | (simp only [hji30] at H ⊢; exact H)
          have hji30_ : (a0_1 / 2 ^ min x5_3.toNat 64) = ji30 := hji30
          have hji30z : x5_3 ≤ 64 → (a0_1 / 2 ^ x5_3.toNat) = ji30 := shr_small hji30
          by_cases c31 : (Int.tmod (ji30) 2) = 1
          ·rw [if_pos c31] at H
           have c31b0 : ((Int.tmod (ji30) 2) == 1) = true := beq_iff_eq.mpr c31
           have c31b1 : ((Int.tmod (ji30) 2) != 1) = false := bne_eq_false_iff_eq.mpr c31
           clear c31
           by_cases c32 : x617001_3.length < 17592186044416
           ·rw [if_pos c32] at H
            have LMc32 := Aside0.mk c32
            clear c32
            obtain ⟨y620, hy620⟩ : ∃ y_ : List Int, y_ = (x617001_3 ++ [x5_3]) := ⟨_, rfl⟩
            replace H : (ancepsref38_Made.l1 k3 (wrap64 (x5_3 + 1)) a0_0 a0_1 x617000_1 y620) = some (r1, r2) := by first | (rw [hy620]; with_reducible exact H) | (have H2_ := (Option.bind_some _ _).symm.trans H; rw [hy620]; with_reducible exact H2_) | (have H2_ := (Option.bind_some _ _).symm.trans H; with_reducible exact H2_) | with_reducible exact H | (rw [hy620]; exact H) | exact H
            have Ny620 := Aside0.mk hy620
            clear hy620
            have H' := Aside0.mk H
            clear H
            have hnb33 := NB616_614.out
            have hnc33 := NB614_616.out
            have hnb34 := NB616_615.out
            have hnc34 := NB615_616.out
            have hcz35_0 : wr.cell? ⟨gb616, 0, none⟩ = some (u617000) := (blk_cell BK616.out 0).trans rfl
            have hcz35_1 : wr.cell? ⟨gb616, 1, none⟩ = some (u617001) := (blk_cell BK616.out 1).trans rfl
            have hfz35_0 := blk_frozen BK616.out 0
            have hfz35_1 := blk_frozen BK616.out 1
            obtain ⟨Ao36, co36, eo36⟩ := Kd.R_slice HO_617000.out
            subst eo36
            have hnb37 := NB614_615.out
            have hnc37 := NB615_614.out
            have hcz38_0 : wr.cell? ⟨gb614, 0, none⟩ = some (.int .u32 a0_0) := (blk_cell BK614.out 0).trans rfl
            have hcz38_1 : wr.cell? ⟨gb614, 1, none⟩ = some (.int .u64 a0_1) := (blk_cell BK614.out 1).trans rfl
            have hfz38_0 := blk_frozen BK614.out 0
            have hfz38_1 := blk_frozen BK614.out 1
            go_wp2_with (first | ((with_reducible refine gate_builtin (b := .append) (xs := #[.tmp 43, .tmp 45]) rfl ?_); (try (refine gate_guard (by rfl) ?_; dsimp only)); at_builtin; refine Kd.R_append (Kd.int .i64) (w0 := w) w.heap.size rfl (.tmp 43) (.tmp 45) 42 3 (.int .i64 0) 8 rfl Try.underlying42 info3 rfl (by decide) (by omega) u617001 x617001_3 x5_3 [.int .i64 x5_3] (fun k_ => some k_ ≠ (.slice Ao36 x617000_1.length co36 : Value).ownBlock) (fun _ => False) rfl rfl ?aP (fun _ hk => hk.elim) ?aF ?aO ?aB ?aS ?aL ?_; (case aP => exact rfl); (case aB => exact zB); (case aF => exact (fun k_ hk => Kd.fresh' (Kd.R_lt (zR HO_617000)) k_ hk)); (case aO => exact (zR HO_617001)); (case aS => exact (below_size zB)); (case aL => have := LMc32.out; omega); intro v621 w39 ho hb hg hat; rw [← Ny620.out] at ho; have n0_ := Aside0.mk (Kd.R_after (ok := (fun _ => True)) (by (with_reducible repeat (first | apply Kd.R_alloc | apply Kd.R_drewN | apply Kd.R_drew)); exact Kd.R_mono HO_617000.out (fun _ hk => ⟨trivial, hk⟩)) hg hat); have n1_ := Aside0.mk (blk_grown (g := gb614) (o := .cells #[.int .u32 a0_0, .int .u64 a0_1] 85 (0, 0)) (zk BK614) hg (Kd.R_ne HO_617001.out BK614.out (by decide))); have n2_ := Aside0.mk (blk_grown (g := gb615) (o := .cells #[.slice none 0 0, .slice none 0 0] 61 (0, 0)) (zk BK615) hg (Kd.R_ne HO_617001.out BK615.out (by decide))); have n3_ := Aside0.mk (blk_grown (g := gb616) (o := .cells #[.slice Ao36 x617000_1.length co36, u617001] 61 (0, 0)) (zk BK616) hg (Kd.R_ne HO_617001.out BK616.out (by decide))); have n4_ := Aside0.mk (hb); have n5_ := Aside0.mk (ho); clear HO_617000; clear BK614; clear BK615; clear BK616; clear HB; clear HO_617001; have HO_617000 := n0_; have BK614 := n1_; have BK615 := n2_; have BK616 := n3_; have HB := n4_; have HO622 := n5_; clear n0_ n1_ n2_ n3_ n4_ n5_; clear ho hb hg hat; obtain ⟨Ao40, co40, eo40⟩ := Kd.R_slice HO622.out; subst eo40; have hcz41_0 : w39.cell? ⟨gb616, 0, none⟩ = some (.slice Ao36 x617000_1.length co36) := (blk_cell BK616.out 0).trans rfl; have hcz41_1 : w39.cell? ⟨gb616, 1, none⟩ = some (u617001) := (blk_cell BK616.out 1).trans rfl; have hfz41_0 := blk_frozen BK616.out 0; have hfz41_1 := blk_frozen BK616.out 1))
            go_roundg k3
            case measure => have := HK1.out; have := HJ4.out; have := HK3.out; omega
            case rel => exact ⟨(wrap64 (x5_3 + 1)), (y620), (.slice Ao40 y620.length co40), zT, H', ⟨by have := HK1.out; have := HJ4.out; have := HK3.out; omega⟩, ⟨by (with_reducible repeat (first | apply Kd.R_alloc | apply Kd.R_drewN | apply Kd.R_drew)); exact Kd.R_mono (Kd.R_far (p := ⟨gb616, 1, none⟩) (Kd.R_types HO_617000.out BK616.out (by decide)) (fun _ hk => hk.2) (.slice Ao40 y620.length co40)) (fun _ hk => hk.1.2)⟩, ⟨by (with_reducible repeat (first | apply Kd.R_alloc | apply Kd.R_drewN | apply Kd.R_drew)); exact Kd.R_mono (Kd.R_far (p := ⟨gb616, 1, none⟩) (Kd.R_types HO622.out BK616.out (by decide)) (fun _ hk => hk.2) (.slice Ao40 y620.length co40)) (fun _ hk => hk.1)⟩, ⟨by (with_reducible repeat (first | refine blk_drewN ?_ _ | refine blk_drew ?_ | refine blk_alloc ?_ _)); refine blk_far ?_ NB614_616.out _; (with_reducible repeat (first | refine blk_drewN ?_ _ | refine blk_drew ?_ | refine blk_alloc ?_ _)); exact BK614.out⟩, ⟨by (with_reducible repeat (first | refine blk_drewN ?_ _ | refine blk_drew ?_ | refine blk_alloc ?_ _)); refine blk_far ?_ NB615_616.out _; (with_reducible repeat (first | refine blk_drewN ?_ _ | refine blk_drew ?_ | refine blk_alloc ?_ _)); exact BK615.out⟩, ⟨by (with_reducible repeat (first | refine blk_drewN ?_ _ | refine blk_drew ?_ | refine blk_alloc ?_ _)); refine blk_put (cs := #[.slice Ao36 x617000_1.length co36, u617001]) ?_ 1 _ rfl; (with_reducible repeat (first | refine blk_drewN ?_ _ | refine blk_drew ?_ | refine blk_alloc ?_ _)); exact BK616.out⟩, ⟨by repeat (first | (with_reducible first | exact HB.out | apply below_alloc | apply pw_below_drewN | apply below_drew1 | refine below_set ?_ GE614.out | refine below_set ?_ GE615.out | refine below_set ?_ GE616.out) | exact HB.out)⟩⟩
           ·rw [if_neg c32] at H
            exact absurd H (by simp)
          ·rw [if_neg c31] at H
           have c31b0 : ((Int.tmod (ji30) 2) == 1) = false := beq_eq_false_iff_ne.mpr c31
           have c31b1 : ((Int.tmod (ji30) 2) != 1) = true := bne_iff_ne.mpr c31
           have H' := Aside0.mk H
           clear H
           have hnb42 := NB616_614.out
           have hnc42 := NB614_616.out
           have hnb43 := NB616_615.out
           have hnc43 := NB615_616.out
           have hcz44_0 : wr.cell? ⟨gb616, 0, none⟩ = some (u617000) := (blk_cell BK616.out 0).trans rfl
           have hcz44_1 : wr.cell? ⟨gb616, 1, none⟩ = some (u617001) := (blk_cell BK616.out 1).trans rfl
           have hfz44_0 := blk_frozen BK616.out 0
           have hfz44_1 := blk_frozen BK616.out 1
           obtain ⟨Ao45, co45, eo45⟩ := Kd.R_slice HO_617000.out
           subst eo45
           have hnb46 := NB614_615.out
           have hnc46 := NB615_614.out
           have hcz47_0 : wr.cell? ⟨gb614, 0, none⟩ = some (.int .u32 a0_0) := (blk_cell BK614.out 0).trans rfl
           have hcz47_1 : wr.cell? ⟨gb614, 1, none⟩ = some (.int .u64 a0_1) := (blk_cell BK614.out 1).trans rfl
           have hfz47_0 := blk_frozen BK614.out 0
           have hfz47_1 := blk_frozen BK614.out 1
           go_wp2
           go_roundg k3
           case measure => have := HK1.out; have := HJ4.out; have := HK3.out; omega
           case rel => exact ⟨(wrap64 (x5_3 + 1)), (x617001_3), (u617001), zT, H', ⟨by have := HK1.out; have := HJ4.out; have := HK3.out; omega⟩, ⟨by (with_reducible repeat (first | apply Kd.R_alloc | apply Kd.R_drewN | apply Kd.R_drew)); exact HO_617000.out⟩, ⟨by (with_reducible repeat (first | apply Kd.R_alloc | apply Kd.R_drewN | apply Kd.R_drew)); exact HO_617001.out⟩, ⟨by (with_reducible repeat (first | refine blk_drewN ?_ _ | refine blk_drew ?_ | refine blk_alloc ?_ _)); exact BK614.out⟩, ⟨by (with_reducible repeat (first | refine blk_drewN ?_ _ | refine blk_drew ?_ | refine blk_alloc ?_ _)); exact BK615.out⟩, ⟨by (with_reducible repeat (first | refine blk_drewN ?_ _ | refine blk_drew ?_ | refine blk_alloc ?_ _)); exact BK616.out⟩, ⟨by repeat (first | (with_reducible first | exact HB.out | apply below_alloc | apply pw_below_drewN | apply below_drew1 | refine below_set ?_ GE614.out | refine below_set ?_ GE615.out | refine below_set ?_ GE616.out) | exact HB.out)⟩⟩
         ·rw [if_neg c29] at H
          exact absurd H (by simp)
        ·rw [if_neg c28] at H
         have c28b0 : decide (x5_3 < (ji27)) = false := decide_eq_false c28
         clear c28
         simp only [Option.some.injEq, Prod.mk.injEq] at H
         obtain ⟨rfl, rfl⟩ := H
         have hnb48 := NB616_614.out
         have hnc48 := NB614_616.out
         have hnb49 := NB616_615.out
         have hnc49 := NB615_616.out
         have hcz50_0 : wr.cell? ⟨gb616, 0, none⟩ = some (u617000) := (blk_cell BK616.out 0).trans rfl
         have hcz50_1 : wr.cell? ⟨gb616, 1, none⟩ = some (u617001) := (blk_cell BK616.out 1).trans rfl
         have hfz50_0 := blk_frozen BK616.out 0
         have hfz50_1 := blk_frozen BK616.out 1
         obtain ⟨Ao51, co51, eo51⟩ := Kd.R_slice HO_617000.out
         subst eo51
         have hnb52 := NB615_614.out
         have hnc52 := NB614_615.out
         have hcz53_0 : wr.cell? ⟨gb615, 0, none⟩ = some (.slice none 0 0) := (blk_cell BK615.out 0).trans rfl
         have hcz53_1 : wr.cell? ⟨gb615, 1, none⟩ = some (.slice none 0 0) := (blk_cell BK615.out 1).trans rfl
         have hfz53_0 := blk_frozen BK615.out 0
         have hfz53_1 := blk_frozen BK615.out 1
         obtain ⟨Ao54, co54, eo54⟩ := Kd.R_slice HO_617001.out
         subst eo54
         go_wp2
         refine bodyPost_ret (results_cell_row rfl _ _ gb615 61 #[.slice Ao51 x617000_1.length co51, .slice Ao54 x617001_3.length co54] (0, 0) _ rfl (by (with_reducible repeat (first | refine blk_drewN ?_ _ | refine blk_drew ?_ | refine blk_alloc ?_ _)); refine blk_put (cs := #[.slice Ao51 x617000_1.length co51, .slice none 0 0]) ?_ 1 _ rfl; (with_reducible repeat (first | refine blk_drewN ?_ _ | refine blk_drew ?_ | refine blk_alloc ?_ _)); refine blk_put (cs := #[.slice none 0 0, .slice none 0 0]) ?_ 0 _ rfl; (with_reducible repeat (first | refine blk_drewN ?_ _ | refine blk_drew ?_ | refine blk_alloc ?_ _)); exact BK615.out) Try.underlying61 rfl zK) rfl ?_
         exact ⟨_, _, by first | rfl | (simp [errW_none, errW_some] <;> rfl) | (simp only [← hji27]; first | rfl | (simp [errW_none, errW_some] <;> rfl)) | (simp [*, errW_none, errW_some] <;> rfl), by (with_reducible repeat (first | apply Kd.R_alloc | apply Kd.R_drewN | apply Kd.R_drew)); exact Kd.R_mono (Kd.R_far (p := ⟨gb615, 1, none⟩) (Kd.R_far (p := ⟨gb615, 0, none⟩) (Kd.R_types HO_617000.out BK615.out (by decide)) (fun _ hk => hk.2) (.slice Ao51 x617000_1.length co51)) (fun _ hk => hk.2) (.slice Ao54 x617001_3.length co54)) (fun _ hk => hk.1), by (with_reducible repeat (first | apply Kd.R_alloc | apply Kd.R_drewN | apply Kd.R_drew)); exact Kd.R_mono (Kd.R_far (p := ⟨gb615, 1, none⟩) (Kd.R_far (p := ⟨gb615, 0, none⟩) (Kd.R_types HO_617001.out BK615.out (by decide)) (fun _ hk => hk.2) (.slice Ao51 x617000_1.length co51)) (fun _ hk => hk.2) (.slice Ao54 x617001_3.length co54)) (fun _ hk => hk.1), by repeat (first | (with_reducible first | exact HB.out | apply below_alloc | apply pw_below_drewN | apply below_drew1 | refine below_set ?_ GE614.out | refine below_set ?_ GE615.out | refine below_set ?_ GE616.out) | exact HB.out)⟩
/-! ### ancepsref40_Made: function 23 -/
def ancepsref40_Made.l0 : Nat → List (S85) → List (S61) → Int → Option ((List (S61)))
 | 0, _, _, _ => none
 | k + 1, x0, x3, x4 => if x4 < (x0.length : Int) then (if x4 < 6 then (if 0 ≤ x4 then ((ancepsref38_Made.f k (Int.tmod ((rd_T85 x0 x4).f0) 256) ((rd_T85 x0 x4).f1)).bind fun bt625 => (if x3.length < 2932031007402 then (ancepsref40_Made.l0 k x0 (x3 ++ [(⟨bt625.1, bt625.2⟩ : S61)]) (wrap64 (x4 + 1))) else (none))) else (none)) else (some x3)) else (some x3)
def ancepsref40_Made.f (k : Nat) (l0 : List (S85)) : Option ((List (S61))) := ancepsref40_Made.l0 k l0 ([] : List (S61)) 0
theorem ancepsref40_Made.mono_l : ∀ k, (∀ y0 y1 y2, LeO (ancepsref40_Made.l0 k y0 y1 y2) (ancepsref40_Made.l0 (k + 1) y0 y1 y2))
 | 0 => fun _ _ _ r h => by simp [ancepsref40_Made.l0] at h
 | k + 1 => by
  have ih0 := ancepsref40_Made.mono_l k
  ·intro y0 y1 y2
   unfold ancepsref40_Made.l0
   repeat' first
   | (with_reducible exact ih0 _ _ _)
   | (with_reducible exact ancepsref38_Made.mono _ _ _)
   | (with_reducible exact LeO.refl _)
   | (with_reducible exact LeO.none _)
   | (with_reducible refine LeO.ite ?_ ?_)
   | (with_reducible refine LeO.bind ?_ (fun _ => ?_))
   | exact ih0 _ _ _
   | exact ancepsref38_Made.mono _ _ _
   | exact LeO.none _
   | refine LeO.ite ?_ ?_
   | refine LeO.bind ?_ (fun _ => ?_)
theorem ancepsref40_Made.mono : ∀ a0 k, LeO (ancepsref40_Made.f k a0) (ancepsref40_Made.f (k + 1) a0) := by
 intro a0 k
 have ih0 := ancepsref40_Made.mono_l k
 unfold ancepsref40_Made.f
 repeat' first
   | (with_reducible exact ih0 _ _ _)
   | (with_reducible exact ancepsref38_Made.mono _ _ _)
   | (with_reducible exact LeO.refl _)
   | (with_reducible exact LeO.none _)
   | (with_reducible refine LeO.ite ?_ ?_)
   | (with_reducible refine LeO.bind ?_ (fun _ => ?_))
   | exact ih0 _ _ _
   | exact ancepsref38_Made.mono _ _ _
   | exact LeO.none _
   | refine LeO.ite ?_ ?_
   | refine LeO.bind ?_ (fun _ => ?_)
set_option maxHeartbeats 8000000 in
set_option maxRecDepth 100000 in
theorem ancepsref40_Made.calls (k : Nat) (A0 : Option Addr) (c0 : Nat) (l0 : List (S85)) (r : List (S61)) (w : World) (hr0 : Kd.C k85 w A0 l0.length l0) (hc0 : l0.length ≤ c0) (h : ancepsref40_Made.f k l0 = some r) :
  Calls Try.prog 23 #[.slice A0 l0.length c0] w fun e w' => ∃ v0_ : Value, e = .returned (v0_) ∧ Kd.S k61 61 w' w.heap.size (fun _ => True) v0_ r ∧ Below w.heap.size w w' := by
 have hu85 := Try.underlying85
 have hu82 := Try.underlying82
 have HR0 := Aside0.mk hr0
 have HC0 := Aside0.mk hc0
 clear hr0 hc0
 have HB := Aside0.mk (Below.refl w.heap.size w)
 have H : (ancepsref40_Made.l0 k l0 ([] : List (S61)) 0) = some r := h
 clear h
 have H' := Aside0.mk H
 clear H
 go_enter Try.func23, Try.ntmps23
 go_wp2
 go_loopg [3, 4] k (fun kq v3 v4 w' => ∃ (x3_1 : List (S61)) (x4_1 : Int), v4 = .int .i64 x4_1 ∧ Aside0 (ancepsref40_Made.l0 kq l0 x3_1 x4_1 = some r) ∧ Aside0 (kq ≤ k) ∧ Aside0 (Kd.S k61 61 w' w.heap.size (fun _ => True) v3 x3_1) ∧ Aside0 (Below w.heap.size w w'))
 case atStart => exact ⟨(([] : List (S61))), (0), zT, H', ⟨Nat.le_refl _⟩, ⟨by first | exact Kd.S_nil _ _ _ _ _ | exact Kd.N_nil _ _ _ _ _ | exact Kd.V_nil _ _ _ _ _ | exact Kd.Q_nil _ _ _ _ _ | exact Kd.R_nil _ _ _ _ _⟩, ⟨by repeat (first | (with_reducible first | exact HB.out | apply below_alloc | apply pw_below_drewN | apply below_drew1) | exact HB.out)⟩⟩
 case round =>
  clear H'
  obtain ⟨x3_1, x4_1, rfl, HA, HK1, HO_3, HB⟩ := hrel
  cases gk with
  | zero => exact absurd HA.out (by simp [ancepsref40_Made.l0])
  | succ k1 =>
   have H := HA.out
   clear HA
   simp only [ancepsref40_Made.l0] at H
   by_cases c2 : x4_1 < (l0.length : Int)
   ·rw [if_pos c2] at H
    have c2b0 : decide (x4_1 < (l0.length : Int)) = true := decide_eq_true c2
    clear c2
    by_cases c3 : x4_1 < 6
    ·rw [if_pos c3] at H
     have c3b0 : decide (x4_1 < 6) = true := decide_eq_true c3
     clear c3
     by_cases c4 : 0 ≤ x4_1
     ·rw [if_pos c4] at H
      have c4b0 : decide (0 ≤ x4_1) = true := decide_eq_true c4
      clear c4
      replace H := Option.bind_eq_some_iff.mp H
      obtain ⟨⟨t625, t628⟩, A50, H⟩ := H
      replace H : (if x3_1.length < 2932031007402 then (ancepsref40_Made.l0 k1 l0 (x3_1 ++ [(⟨t625, t628⟩ : S61)]) (wrap64 (x4_1 + 1))) else (none)) = some r := H
      have A5 := Aside0.mk A50
      clear A50
      by_cases c6 : x3_1.length < 2932031007402
      ·rw [if_pos c6] at H
       have LMc6 := Aside0.mk c6
       clear c6
       obtain ⟨y631, hy631⟩ : ∃ y_ : List (S61), y_ = (x3_1 ++ [(⟨t625, t628⟩ : S61)]) := ⟨_, rfl⟩
       replace H : (ancepsref40_Made.l0 k1 l0 y631 (wrap64 (x4_1 + 1))) = some r := by first | (rw [hy631]; with_reducible exact H) | (have H2_ := (Option.bind_some _ _).symm.trans H; rw [hy631]; with_reducible exact H2_) | (have H2_ := (Option.bind_some _ _).symm.trans H; with_reducible exact H2_) | with_reducible exact H | (rw [hy631]; exact H) | exact H
       have Ny631 := Aside0.mk hy631
       clear hy631
       have H' := Aside0.mk H
       clear H
       have p623 : 0 ≤ (x4_1 : Int) := of_decide_eq_true zh
       have q623 : x4_1 < (l0.length : Int) := of_decide_eq_true zh
       obtain ⟨ad623, e623, hx623_0, hx623_1⟩ := at_T85 HR0.out x4_1 p623 q623
       cases e623
       replace hx623_0 := (HB.out.cell (World.block_lt_of_cell? w _ hx623_0)).trans hx623_0
       replace hx623_1 := (HB.out.cell (World.block_lt_of_cell? w _ hx623_1)).trans hx623_1
       replace p623 := eq_true p623
       replace q623 := eq_true q623
       go_wp2_with (first | ((with_reducible refine gate_dst (N := 5) rfl ?_); refine box_event ?hg (N := 5) ?hd (cs := #[.int .u32 0, .int .u64 0]) (t := 85) ?hr ?_; (case hd => rfl); (case hg => rfl); (case hr => first | (go_simp; done) | (go_simp; rfl)); intro gb624 hg w7 hbox hb; have n0_ := Aside0.mk (Kd.S_below (zS HO_3) hb); have n1_ := Aside0.mk (below_step zB hb); have n2_ := Aside0.mk (hbox); have n3_ := Aside0.mk ((by rw [hg]; exact (below_size zB) : w.heap.size ≤ gb624)); have n4_ := Aside0.mk ((by rw [hg]; exact (below_size zB) : w.heap.size ≤ gb624)); clear HO_3; clear HB; have HO_3 := n0_; have HB := n1_; have BK624 := n2_; have GW624 := n3_; have GE624 := n4_; clear n0_ n1_ n2_ n3_ n4_; clear hb hbox hg; have hcz8_0 : w7.cell? ⟨gb624, 0, none⟩ = some (.int .u32 0) := (blk_cell BK624.out 0).trans rfl; have hcz8_1 : w7.cell? ⟨gb624, 1, none⟩ = some (.int .u64 0) := (blk_cell BK624.out 1).trans rfl; have hfz8_0 := blk_frozen BK624.out 0; have hfz8_1 := blk_frozen BK624.out 1) | ((with_reducible refine gate_callee (f := 62) rfl ?_); refine goesL_ (some 26) rfl rfl Try.func62 zK rfl #[.agg #[.int .u32 (Int.tmod ((rd_T85 l0 x4_1).f0) 256), .int .u64 ((rd_T85 l0 x4_1).f1)]] rfl zM ?_; (with_reducible refine (ancepsref38_Made.calls k1 (Int.tmod ((rd_T85 l0 x4_1).f0) 256) ((rd_T85 l0 x4_1).f1) t625 t628 _ A5.out).mono ?_); rintro e w9 ⟨v626, v629, rfl, ho0, ho1, hb⟩; refine ⟨_, rfl, ?_⟩; have n0_ := Aside0.mk (Kd.S_mono (Kd.S_told (Kd.S_told (Kd.S_old (by (with_reducible repeat (first | apply Kd.S_alloc | apply Kd.S_drewN | apply Kd.S_drew)); exact (Kd.S_mono (Kd.S_far (p := ⟨gb624, 0, none⟩) (Kd.S_far (p := ⟨gb624, 1, none⟩) (Kd.S_far (p := ⟨gb624, 0, none⟩) (Kd.S_types HO_3.out BK624.out (by decide)) (fun _ hk => hk.2) (.int .u32 ((rd_T85 l0 x4_1).f0))) (fun _ hk => hk.2) (.int .u64 ((rd_T85 l0 x4_1).f1))) (fun _ hk => hk.2) (.int .u32 (Int.tmod ((rd_T85 l0 x4_1).f0) 256))) (fun _ h_ => h_.1))) hb) (Kd.R_base ho0)) (Kd.R_base ho1)) (fun _ h_ => h_.1)); have n1_ := Aside0.mk (Kd.R_lower ho0 (below_size zB)); have n2_ := Aside0.mk (Kd.R_lower ho1 (below_size zB)); have n3_ := Aside0.mk (blk_below (g := gb624) (o := .cells #[.int .u32 (Int.tmod ((rd_T85 l0 x4_1).f0) 256), .int .u64 ((rd_T85 l0 x4_1).f1)] 85 (0, 0)) (by (with_reducible repeat (first | refine blk_drewN ?_ _ | refine blk_drew ?_ | refine blk_alloc ?_ _)); refine blk_put (cs := #[.int .u32 ((rd_T85 l0 x4_1).f0), .int .u64 ((rd_T85 l0 x4_1).f1)]) ?_ 0 _ rfl; (with_reducible repeat (first | refine blk_drewN ?_ _ | refine blk_drew ?_ | refine blk_alloc ?_ _)); refine blk_put (cs := #[.int .u32 ((rd_T85 l0 x4_1).f0), .int .u64 0]) ?_ 1 _ rfl; (with_reducible repeat (first | refine blk_drewN ?_ _ | refine blk_drew ?_ | refine blk_alloc ?_ _)); refine blk_put (cs := #[.int .u32 0, .int .u64 0]) ?_ 0 _ rfl; (with_reducible repeat (first | refine blk_drewN ?_ _ | refine blk_drew ?_ | refine blk_alloc ?_ _)); exact BK624.out) hb); have n4_ := Aside0.mk (below_step zB hb); clear HO_3; clear BK624; clear HB; have HO_3 := n0_; have HO627 := n1_; have HO630 := n2_; have BK624 := n3_; have HB := n4_; clear n0_ n1_ n2_ n3_ n4_; (try clear hb); (try clear hb2); (try clear hk); (try clear hi); (try clear ho0); (try clear ho1); obtain ⟨Ao11, co11, eo11⟩ := Kd.R_slice HO627.out; subst eo11; obtain ⟨Ao12, co12, eo12⟩ := Kd.R_slice HO630.out; subst eo12) | ((with_reducible refine gate_builtin (b := .append) (xs := #[.tmp 24, .tmp 27]) rfl ?_); at_builtin; refine Kd.S_append k61 (w0 := w) w.heap.size rfl (.tmp 24) (.tmp 27) 22 61 (.agg #[(.slice none 0 0), (.slice none 0 0)]) 48 rfl Try.underlying22 info61 rfl (by decide) (by omega) u3 x3_1 (⟨t625, t628⟩ : S61) [.slice Ao11 t625.length co11, .slice Ao12 t628.length co12] (fun _ => True) (fun k_ => some k_ = (.slice Ao11 t625.length co11 : Value).ownBlock ∨ some k_ = (.slice Ao12 t628.length co12 : Value).ownBlock) rfl rfl ?aP (fun k_ hk_ => hk_.elim (fun h_ => ((Kd.R_mono (ok' := fun k_ => ((fun _ => True)) k_ ∧ some k_ ≠ (u3 : Value).ownBlock) (Kd.R_apart' (HO627.out) (Kd.S_typed HO_3.out) (by decide)) (fun k_ hk => ⟨trivial, hk.2⟩))).1 k_ h_.symm) (fun h_ => ((Kd.R_mono (ok' := fun k_ => ((fun _ => True)) k_ ∧ some k_ ≠ (u3 : Value).ownBlock) (Kd.R_apart' (HO630.out) (Kd.S_typed HO_3.out) (by decide)) (fun k_ hk => ⟨trivial, hk.2⟩))).1 k_ h_.symm)) ?aF ?aO ?aB ?aS ?aL ?_; (case aP => exact k61_mkM _ _ _ (⟨t625, t628⟩ : S61) (Kd.R_mono (Kd.R_tight rfl (Kd.R_mono (ok' := fun k_ => ((fun _ => True)) k_ ∧ some k_ ≠ (u3 : Value).ownBlock) (Kd.R_apart' (HO627.out) (Kd.S_typed HO_3.out) (by decide)) (fun k_ hk => ⟨trivial, hk.2⟩))) (fun _ h_ => Or.inl h_)) (Kd.R_mono (Kd.R_tight rfl (Kd.R_mono (ok' := fun k_ => ((fun _ => True)) k_ ∧ some k_ ≠ (u3 : Value).ownBlock) (Kd.R_apart' (HO630.out) (Kd.S_typed HO_3.out) (by decide)) (fun k_ hk => ⟨trivial, hk.2⟩))) (fun _ h_ => Or.inr (h_)))); (case aB => exact zB); (case aF => exact (fun _ _ => trivial)); (case aO => exact (by (with_reducible repeat (first | apply Kd.S_alloc | apply Kd.S_drewN | apply Kd.S_drew)); exact Kd.S_mono HO_3.out (fun k_ hk => ⟨trivial, fun e_ => e_.elim (fun h_ => hk.1.2 h_) (fun h_ => hk.2 h_)⟩))); (case aS => exact (below_size zB)); (case aL => have := LMc6.out; omega); intro v632 w10 ho hb hg hat; rw [← Ny631.out] at ho; have n0_ := Aside0.mk (blk_grown (g := gb624) (o := .cells #[.int .u32 (Int.tmod ((rd_T85 l0 x4_1).f0) 256), .int .u64 ((rd_T85 l0 x4_1).f1)] 85 (0, 0)) (zk BK624) hg (Kd.S_ne HO_3.out BK624.out (by decide))); have n1_ := Aside0.mk (hb); have n2_ := Aside0.mk (ho); clear BK624; clear HB; clear HO_3; clear HO627; clear HO630; have BK624 := n0_; have HB := n1_; have HO633 := n2_; clear n0_ n1_ n2_; clear ho hb hg hat))
       go_roundg k1
       case measure => have := HK1.out; omega
       case rel => exact ⟨(y631), (wrap64 (x4_1 + 1)), zT, H', ⟨by have := HK1.out; omega⟩, ⟨by (with_reducible repeat (first | apply Kd.S_alloc | apply Kd.S_drewN | apply Kd.S_drew)); exact HO633.out⟩, ⟨by repeat (first | (with_reducible first | exact HB.out | apply below_alloc | apply pw_below_drewN | apply below_drew1 | refine below_set ?_ GE624.out) | exact HB.out)⟩⟩
      ·rw [if_neg c6] at H
       exact absurd H (by simp)
     ·rw [if_neg c4] at H
      exact absurd H (by simp)
    ·rw [if_neg c3] at H
     have c3b0 : decide (x4_1 < 6) = false := decide_eq_false c3
     clear c3
     obtain rfl := Option.some.inj H
     go_wp2
     go_ret
     exact ⟨_, by first | rfl | (simp [errW_none, errW_some] <;> rfl) | (simp [*, errW_none, errW_some] <;> rfl), by (with_reducible repeat (first | apply Kd.S_alloc | apply Kd.S_drewN | apply Kd.S_drew)); exact HO_3.out, by repeat (first | (with_reducible first | exact HB.out | apply below_alloc | apply pw_below_drewN | apply below_drew1) | exact HB.out)⟩
   ·rw [if_neg c2] at H
    have c2b0 : decide (x4_1 < (l0.length : Int)) = false := decide_eq_false c2
    clear c2
    obtain rfl := Option.some.inj H
    go_wp2
    go_ret
    exact ⟨_, by first | rfl | (simp [errW_none, errW_some] <;> rfl) | (simp [*, errW_none, errW_some] <;> rfl), by (with_reducible repeat (first | apply Kd.S_alloc | apply Kd.S_drewN | apply Kd.S_drew)); exact HO_3.out, by repeat (first | (with_reducible first | exact HB.out | apply below_alloc | apply pw_below_drewN | apply below_drew1) | exact HB.out)⟩
end Go.Proofs.Ytbagnalcabdlhaa.S
