-- Written by wip/tools/myprint.py, a program of this session's.
import Derived.Test.YthcfmdkhkikbcaaD0
import Derived.Test.YthcfmdkhkikbcaaD1
namespace Go.Proofs.Ythcfmdkhkikbcaa.D
open Go.RowKit Go.Proofs.YthcfmdkhkikbcaaW.PrintWords Go.Proofs.YthcfmdkhkikbcaaW.PrintLast Go.Proofs.YthcfmdkhkikbcaaW.PrintMore
attribute [local go_sem] max2_int min2_int max_two min_two max_three min_three max_four min_four   -- for this text's walks alone
set_option linter.unusedVariables false
set_option linter.unusedSimpArgs false
/-! ### ancepsref38_Made: function 13 -/
mutual
def ancepsref38_Made.l0 : Nat → Int → Int → Int → List Int → Option (List Int × List Int)
 | 0, _, _, _, _ => none
 | k + 1, x4, x428000, x428001, x430000 => if x4 < 24 then (ancepsref38_Made.j1 k x4 (decide ((x430000.length : Int) < 6)) x428000 x428001 x430000) else (ancepsref38_Made.j1 k x4 false x428000 x428001 x430000)
def ancepsref38_Made.j1 : Nat → Int → Bool → Int → Int → List Int → Option (List Int × List Int)
 | 0, _, _, _, _, _ => none
 | k + 1, x4, x13, x428000, x428001, x430000 => if x13 = true then (if 0 ≤ x4 then (if (Int.tmod (shr .u32 x428000 x4) 2) = 1 then (if x430000.length < 17592186044416 then (ancepsref38_Made.l0 k (wrap64 (x4 + 1)) x428000 x428001 (x430000 ++ [x4])) else (none)) else (ancepsref38_Made.l0 k (wrap64 (x4 + 1)) x428000 x428001 x430000)) else (none)) else (ancepsref38_Made.l1 k 0 x428000 x428001 x430000 ([] : List Int))
def ancepsref38_Made.l1 : Nat → Int → Int → Int → List Int → List Int → Option (List Int × List Int)
 | 0, _, _, _, _, _ => none
 | k + 1, x5, x428000, x428001, x430000, x430001 => if x5 < (shl .i64 1 (x430000.length : Int)) then (if 0 ≤ x5 then (if (Int.tmod (shr .u64 x428001 x5) 2) = 1 then (if x430001.length < 17592186044416 then (ancepsref38_Made.l1 k (wrap64 (x5 + 1)) x428000 x428001 x430000 (x430001 ++ [x5])) else (none)) else (ancepsref38_Made.l1 k (wrap64 (x5 + 1)) x428000 x428001 x430000 x430001)) else (none)) else (some (x430000, x430001))
end
def ancepsref38_Made.f (k : Nat) (a0_0 : Int) (a0_1 : Int) : Option (List Int × List Int) := ancepsref38_Made.l0 k 0 a0_0 a0_1 ([] : List Int)
theorem ancepsref38_Made.mono_l : ∀ k, (∀ y0 y1 y2 y3, LeO (ancepsref38_Made.l0 k y0 y1 y2 y3) (ancepsref38_Made.l0 (k + 1) y0 y1 y2 y3)) ∧ (∀ y0 y1 y2 y3 y4, LeO (ancepsref38_Made.j1 k y0 y1 y2 y3 y4) (ancepsref38_Made.j1 (k + 1) y0 y1 y2 y3 y4)) ∧ (∀ y0 y1 y2 y3 y4, LeO (ancepsref38_Made.l1 k y0 y1 y2 y3 y4) (ancepsref38_Made.l1 (k + 1) y0 y1 y2 y3 y4))
 | 0 => ⟨fun _ _ _ _ r h => by simp [ancepsref38_Made.l0] at h, fun _ _ _ _ _ r h => by simp [ancepsref38_Made.j1] at h, fun _ _ _ _ _ r h => by simp [ancepsref38_Made.l1] at h⟩
 | k + 1 => by
  obtain ⟨ih0, ih1, ih2⟩ := ancepsref38_Made.mono_l k
  refine ⟨?_, ?_, ?_⟩
  ·intro y0 y1 y2 y3
   unfold ancepsref38_Made.l0
   repeat' first
   | (with_reducible exact ih0 _ _ _ _)
   | (with_reducible exact ih1 _ _ _ _ _)
   | (with_reducible exact ih2 _ _ _ _ _)
   | (with_reducible exact LeO.refl _)
   | (with_reducible exact LeO.none _)
   | (with_reducible refine LeO.ite ?_ ?_)
   | (with_reducible refine LeO.bind ?_ (fun _ => ?_))
   | exact ih0 _ _ _ _
   | exact ih1 _ _ _ _ _
   | exact ih2 _ _ _ _ _
   | exact LeO.none _
   | refine LeO.ite ?_ ?_
   | refine LeO.bind ?_ (fun _ => ?_)
  ·intro y0 y1 y2 y3 y4
   unfold ancepsref38_Made.j1
   repeat' first
   | (with_reducible exact ih0 _ _ _ _)
   | (with_reducible exact ih1 _ _ _ _ _)
   | (with_reducible exact ih2 _ _ _ _ _)
   | (with_reducible exact LeO.refl _)
   | (with_reducible exact LeO.none _)
   | (with_reducible refine LeO.ite ?_ ?_)
   | (with_reducible refine LeO.bind ?_ (fun _ => ?_))
   | exact ih0 _ _ _ _
   | exact ih1 _ _ _ _ _
   | exact ih2 _ _ _ _ _
   | exact LeO.none _
   | refine LeO.ite ?_ ?_
   | refine LeO.bind ?_ (fun _ => ?_)
  ·intro y0 y1 y2 y3 y4
   unfold ancepsref38_Made.l1
   repeat' first
   | (with_reducible exact ih0 _ _ _ _)
   | (with_reducible exact ih1 _ _ _ _ _)
   | (with_reducible exact ih2 _ _ _ _ _)
   | (with_reducible exact LeO.refl _)
   | (with_reducible exact LeO.none _)
   | (with_reducible refine LeO.ite ?_ ?_)
   | (with_reducible refine LeO.bind ?_ (fun _ => ?_))
   | exact ih0 _ _ _ _
   | exact ih1 _ _ _ _ _
   | exact ih2 _ _ _ _ _
   | exact LeO.none _
   | refine LeO.ite ?_ ?_
   | refine LeO.bind ?_ (fun _ => ?_)
theorem ancepsref38_Made.mono : ∀ a0 a1 k, LeO (ancepsref38_Made.f k a0 a1) (ancepsref38_Made.f (k + 1) a0 a1) := by
 intro a0 a1 k
 obtain ⟨ih0, ih1, ih2⟩ := ancepsref38_Made.mono_l k
 unfold ancepsref38_Made.f
 repeat' first
   | (with_reducible exact ih0 _ _ _ _)
   | (with_reducible exact ih1 _ _ _ _ _)
   | (with_reducible exact ih2 _ _ _ _ _)
   | (with_reducible exact LeO.refl _)
   | (with_reducible exact LeO.none _)
   | (with_reducible refine LeO.ite ?_ ?_)
   | (with_reducible refine LeO.bind ?_ (fun _ => ?_))
   | exact ih0 _ _ _ _
   | exact ih1 _ _ _ _ _
   | exact ih2 _ _ _ _ _
   | exact LeO.none _
   | refine LeO.ite ?_ ?_
   | refine LeO.bind ?_ (fun _ => ?_)
set_option maxHeartbeats 8000000 in
set_option maxRecDepth 100000 in
theorem ancepsref38_Made.calls (k : Nat) (a0_0 : Int) (a0_1 : Int) (r1 : List Int) (r2 : List Int) (w : World) (h : ancepsref38_Made.f k a0_0 a0_1 = some (r1, r2)) :
  Calls Try.prog 13 #[.agg #[.int .u32 a0_0, .int .u64 a0_1]] w fun e w' => ∃ v0_ v1_ : Value, e = .returned (.agg #[v0_, v1_]) ∧ Kd.R (Kd.int .i64) 3 w' w.heap.size (fun k_ => some k_ ≠ (v1_ : Value).ownBlock) v0_ r1 ∧ Kd.R (Kd.int .i64) 3 w' w.heap.size (fun k_ => some k_ ≠ (v0_ : Value).ownBlock) v1_ r2 ∧ Below w.heap.size w w' := by
 have hu25 := Try.underlying25
 have hu29 := Try.underlying29
 have hu27 := Try.underlying27
 have hu22 := Try.underlying22
 have hu23 := Try.underlying23
 have HB := Aside0.mk (Below.refl w.heap.size w)
 have H : (ancepsref38_Made.l0 k 0 a0_0 a0_1 ([] : List Int)) = some (r1, r2) := h
 clear h
 have H' := Aside0.mk H
 clear H
 go_enter Try.func13, Try.ntmps13
 go_wp2_with (first | ((with_reducible refine gate_dst (N := 1) rfl ?_); (try (refine gate_guard (by rfl) ?_; dsimp only)); refine box_event ?hg (N := 1) ?hd (cs := #[.int .u32 a0_0, .int .u64 a0_1]) (t := 25) ?hr ?_; (case hd => rfl); (case hg => rfl); (case hr => first | (go_simp; done) | (go_simp; rfl)); intro gb427 hg w2 hbox hb; have n0_ := Aside0.mk (below_step zB hb); have n1_ := Aside0.mk (hbox); have n2_ := Aside0.mk ((by rw [hg]; exact (below_size zB) : w.heap.size ≤ gb427)); have n3_ := Aside0.mk ((by rw [hg]; exact (below_size zB) : w.heap.size ≤ gb427)); clear HB; have HB := n0_; have BK427 := n1_; have GW427 := n2_; have GE427 := n3_; clear n0_ n1_ n2_ n3_; clear hb hbox hg) | ((with_reducible refine gate_dst (N := 2) rfl ?_); (try (refine gate_guard (by rfl) ?_; dsimp only)); refine box_event ?hg (N := 2) ?hd (cs := #[.slice none 0 0, .slice none 0 0]) (t := 29) ?hr ?_; (case hd => rfl); (case hg => rfl); (case hr => first | (go_simp; done) | (go_simp; rfl)); intro gb428 hg w3 hbox hb; have n0_ := Aside0.mk (blk_below (g := gb427) (o := .cells #[.int .u32 a0_0, .int .u64 a0_1] 25 (0, 0)) (zk BK427) hb); have n1_ := Aside0.mk (below_step zB hb); have n2_ := Aside0.mk (hbox); have n3_ := Aside0.mk ((by rw [hg]; exact (below_size zB) : w.heap.size ≤ gb428)); have n4_ := Aside0.mk ((by rw [hg]; exact (below_size zB) : w.heap.size ≤ gb428)); have n5_ := Aside0.mk ((by rw [hg]; exact Nat.ne_of_lt (blk_lt (g := gb427) (o := .cells #[.int .u32 a0_0, .int .u64 a0_1] 25 (0, 0)) (zk BK427)) : gb427 ≠ gb428)); have n6_ := Aside0.mk ((by rw [hg]; exact Nat.ne_of_gt (blk_lt (g := gb427) (o := .cells #[.int .u32 a0_0, .int .u64 a0_1] 25 (0, 0)) (zk BK427)) : gb428 ≠ gb427)); clear BK427; clear HB; have BK427 := n0_; have HB := n1_; have BK428 := n2_; have GW428 := n3_; have GE428 := n4_; have NB427_428 := n5_; have NB428_427 := n6_; clear n0_ n1_ n2_ n3_ n4_ n5_ n6_; clear hb hbox hg) | ((with_reducible refine gate_dst (N := 3) rfl ?_); (try (refine gate_guard (by rfl) ?_; dsimp only)); refine box_event ?hg (N := 3) ?hd (cs := #[.slice none 0 0, .slice none 0 0]) (t := 29) ?hr ?_; (case hd => rfl); (case hg => rfl); (case hr => first | (go_simp; done) | (go_simp; rfl)); intro gb429 hg w4 hbox hb; have n0_ := Aside0.mk (blk_below (g := gb427) (o := .cells #[.int .u32 a0_0, .int .u64 a0_1] 25 (0, 0)) (zk BK427) hb); have n1_ := Aside0.mk (blk_below (g := gb428) (o := .cells #[.slice none 0 0, .slice none 0 0] 29 (0, 0)) (zk BK428) hb); have n2_ := Aside0.mk (below_step zB hb); have n3_ := Aside0.mk (hbox); have n4_ := Aside0.mk ((by rw [hg]; exact (below_size zB) : w.heap.size ≤ gb429)); have n5_ := Aside0.mk ((by rw [hg]; exact (below_size zB) : w.heap.size ≤ gb429)); have n6_ := Aside0.mk ((by rw [hg]; exact Nat.ne_of_lt (blk_lt (g := gb427) (o := .cells #[.int .u32 a0_0, .int .u64 a0_1] 25 (0, 0)) (zk BK427)) : gb427 ≠ gb429)); have n7_ := Aside0.mk ((by rw [hg]; exact Nat.ne_of_gt (blk_lt (g := gb427) (o := .cells #[.int .u32 a0_0, .int .u64 a0_1] 25 (0, 0)) (zk BK427)) : gb429 ≠ gb427)); have n8_ := Aside0.mk ((by rw [hg]; exact Nat.ne_of_lt (blk_lt (g := gb428) (o := .cells #[.slice none 0 0, .slice none 0 0] 29 (0, 0)) (zk BK428)) : gb428 ≠ gb429)); have n9_ := Aside0.mk ((by rw [hg]; exact Nat.ne_of_gt (blk_lt (g := gb428) (o := .cells #[.slice none 0 0, .slice none 0 0] 29 (0, 0)) (zk BK428)) : gb429 ≠ gb428)); clear BK427; clear BK428; clear HB; have BK427 := n0_; have BK428 := n1_; have HB := n2_; have BK429 := n3_; have GW429 := n4_; have GE429 := n5_; have NB427_429 := n6_; have NB429_427 := n7_; have NB428_429 := n8_; have NB429_428 := n9_; clear n0_ n1_ n2_ n3_ n4_ n5_ n6_ n7_ n8_ n9_; clear hb hbox hg))
 go_loopg [4] k (fun kq v4 w' => ∃ (x4_1 : Int) (x430000_1 : List Int) (u430000 : Value), v4 = .int .i64 x4_1 ∧ Aside0 (ancepsref38_Made.l0 kq x4_1 a0_0 a0_1 x430000_1 = some (r1, r2)) ∧ Aside0 (kq ≤ k) ∧ Aside0 (Kd.R (Kd.int .i64) 3 w' w.heap.size (fun _ => True) u430000 x430000_1) ∧ Aside0 (w'.heap[gb427]? = some (.cells #[.int .u32 a0_0, .int .u64 a0_1] 25 (0, 0))) ∧ Aside0 (w'.heap[gb428]? = some (.cells #[(.slice none 0 0), (.slice none 0 0)] 29 (0, 0))) ∧ Aside0 (w'.heap[gb429]? = some (.cells #[u430000, (.slice none 0 0)] 29 (0, 0))) ∧ Aside0 (Below w.heap.size w w'))
 case atStart => exact ⟨(0), (([] : List Int)), (.slice none 0 0), zT, H', ⟨Nat.le_refl _⟩, ⟨by first | exact Kd.R_nil _ _ _ _ _ | exact Kd.N_nil _ _ _ _ _ | exact Kd.V_nil _ _ _ _ _ | exact Kd.Q_nil _ _ _ _ _ | exact Kd.S_nil _ _ _ _ _⟩, ⟨by (with_reducible repeat (first | refine blk_drewN ?_ _ | refine blk_drew ?_ | refine blk_alloc ?_ _)); exact BK427.out⟩, ⟨by (with_reducible repeat (first | refine blk_drewN ?_ _ | refine blk_drew ?_ | refine blk_alloc ?_ _)); exact BK428.out⟩, ⟨by (with_reducible repeat (first | refine blk_drewN ?_ _ | refine blk_drew ?_ | refine blk_alloc ?_ _)); exact BK429.out⟩, ⟨by repeat (first | (with_reducible first | exact HB.out | apply below_alloc | apply pw_below_drewN | apply below_drew1 | refine below_set ?_ GE427.out | refine below_set ?_ GE428.out | refine below_set ?_ GE429.out) | exact HB.out)⟩⟩
 case round =>
  clear H'
  obtain ⟨x4_1, x430000_1, u430000, rfl, HA, HK1, HO_430000, BK427, BK428, BK429, HB⟩ := hrel
  cases gk with
  | zero => exact absurd HA.out (by simp [ancepsref38_Made.l0])
  | succ k1 =>
   have H := HA.out
   clear HA
   simp only [ancepsref38_Made.l0] at H
   have HC5 := Aside0.mk H
   clear H
   go_upto_region 3 with (fail)
   go_cut [13] (fun v13 wc => ∃ (kq : Nat) (x13_4 : Bool), v13 = .bool x13_4 ∧ Aside0 (ancepsref38_Made.j1 kq x4_1 x13_4 a0_0 a0_1 x430000_1 = some (r1, r2)) ∧ Aside0 (kq ≤ k1) ∧ Aside0 (Kd.R (Kd.int .i64) 3 wc w.heap.size (fun _ => True) u430000 x430000_1) ∧ Aside0 (wc.heap[gb427]? = some (.cells #[.int .u32 a0_0, .int .u64 a0_1] 25 (0, 0))) ∧ Aside0 (wc.heap[gb428]? = some (.cells #[(.slice none 0 0), (.slice none 0 0)] 29 (0, 0))) ∧ Aside0 (wc.heap[gb429]? = some (.cells #[u430000, (.slice none 0 0)] 29 (0, 0))) ∧ Aside0 (Below w.heap.size w wc))
   case first =>
    have H := HC5.out
    clear HC5
    by_cases c6 : x4_1 < 24
    ·rw [if_pos c6] at H
     have c6b0 : decide (x4_1 < 24) = true := decide_eq_true c6
     clear c6
     (first | rw [c6b0] | (simp only [i64_w, i32_w]; rw [c6b0]) | skip)
     have H' := Aside0.mk H
     clear H
     have hnb7 := NB429_427.out
     have hnc7 := NB427_429.out
     have hnb8 := NB429_428.out
     have hnc8 := NB428_429.out
     have hcz9_0 : wr.cell? ⟨gb429, 0, none⟩ = some (u430000) := (blk_cell BK429.out 0).trans rfl
     have hcz9_1 : wr.cell? ⟨gb429, 1, none⟩ = some (.slice none 0 0) := (blk_cell BK429.out 1).trans rfl
     have hfz9_0 := blk_frozen BK429.out 0
     have hfz9_1 := blk_frozen BK429.out 1
     obtain ⟨Ao10, co10, eo10⟩ := Kd.R_slice HO_430000.out
     subst eo10
     go_wp2
     go_meet
     case rel => exact ⟨_, (decide ((x430000_1.length : Int) < 6)), zT, H', ⟨by have := HK1.out; first | omega | exact Nat.le_refl _⟩, ⟨by (with_reducible repeat (first | apply Kd.R_alloc | apply Kd.R_drewN | apply Kd.R_drew)); exact HO_430000.out⟩, ⟨by (with_reducible repeat (first | refine blk_drewN ?_ _ | refine blk_drew ?_ | refine blk_alloc ?_ _)); exact BK427.out⟩, ⟨by (with_reducible repeat (first | refine blk_drewN ?_ _ | refine blk_drew ?_ | refine blk_alloc ?_ _)); exact BK428.out⟩, ⟨by (with_reducible repeat (first | refine blk_drewN ?_ _ | refine blk_drew ?_ | refine blk_alloc ?_ _)); exact BK429.out⟩, ⟨by repeat (first | (with_reducible first | exact HB.out | apply below_alloc | apply pw_below_drewN | apply below_drew1 | refine below_set ?_ GE427.out | refine below_set ?_ GE428.out | refine below_set ?_ GE429.out) | exact HB.out)⟩⟩
    ·rw [if_neg c6] at H
     have c6b0 : decide (x4_1 < 24) = false := decide_eq_false c6
     clear c6
     (first | rw [c6b0] | (simp only [i64_w, i32_w]; rw [c6b0]) | skip)
     have H' := Aside0.mk H
     clear H
     go_wp2
     go_meet
     case rel => exact ⟨_, (false), zT, H', ⟨by have := HK1.out; first | omega | exact Nat.le_refl _⟩, ⟨by (with_reducible repeat (first | apply Kd.R_alloc | apply Kd.R_drewN | apply Kd.R_drew)); exact HO_430000.out⟩, ⟨by (with_reducible repeat (first | refine blk_drewN ?_ _ | refine blk_drew ?_ | refine blk_alloc ?_ _)); exact BK427.out⟩, ⟨by (with_reducible repeat (first | refine blk_drewN ?_ _ | refine blk_drew ?_ | refine blk_alloc ?_ _)); exact BK428.out⟩, ⟨by (with_reducible repeat (first | refine blk_drewN ?_ _ | refine blk_drew ?_ | refine blk_alloc ?_ _)); exact BK429.out⟩, ⟨by repeat (first | (with_reducible first | exact HB.out | apply below_alloc | apply pw_below_drewN | apply below_drew1 | refine below_set ?_ GE427.out | refine below_set ?_ GE428.out | refine below_set ?_ GE429.out) | exact HB.out)⟩⟩
   case rest =>
    clear HC5
    obtain ⟨kq, x13_4, rfl, HA, HJ4, HO_430000, BK427, BK428, BK429, HB⟩ := hcut
    cases kq with
    | zero => exact absurd HA.out (by simp [ancepsref38_Made.j1])
    | succ kj4 =>
     have H := HA.out
     clear HA
     simp only [ancepsref38_Made.j1] at H
     by_cases c11 : x13_4 = true
     ·subst c11
      have H1 : (if 0 ≤ x4_1 then (if (Int.tmod (shr .u32 a0_0 x4_1) 2) = 1 then (if x430000_1.length < 17592186044416 then (ancepsref38_Made.l0 kj4 (wrap64 (x4_1 + 1)) a0_0 a0_1 (x430000_1 ++ [x4_1])) else (none)) else (ancepsref38_Made.l0 kj4 (wrap64 (x4_1 + 1)) a0_0 a0_1 x430000_1)) else (none)) = some (r1, r2) := by rw [if_pos rfl] at H; exact H
      clear H
      have H := H1
      clear H1
      by_cases c12 : 0 ≤ x4_1
      ·rw [if_pos c12] at H
       have c12b0 := eq_true c12
       have c12b1 : decide (0 ≤ x4_1) = true := decide_eq_true c12
       clear c12
       obtain ⟨ji13, hji13⟩ : ∃ j_ : Int, (shr .u32 a0_0 x4_1) = j_ := ⟨_, rfl⟩
       replace H : (if (Int.tmod (ji13) 2) = 1 then (if x430000_1.length < 17592186044416 then (ancepsref38_Made.l0 kj4 (wrap64 (x4_1 + 1)) a0_0 a0_1 (x430000_1 ++ [x4_1])) else (none)) else (ancepsref38_Made.l0 kj4 (wrap64 (x4_1 + 1)) a0_0 a0_1 x430000_1)) = some (r1, r2) := by first | (rw [hji13] at H; exact H) | (simp only [hji13] at H ⊢; exact H)
       have hji13_ : (a0_0 / 2 ^ min x4_1.toNat 32) = ji13 := hji13
       have hji13z : x4_1 ≤ 32 → (a0_0 / 2 ^ x4_1.toNat) = ji13 := shr_small hji13
       by_cases c14 : (Int.tmod (ji13) 2) = 1
       ·rw [if_pos c14] at H
        have c14b0 : ((Int.tmod (ji13) 2) == 1) = true := beq_iff_eq.mpr c14
        have c14b1 : ((Int.tmod (ji13) 2) != 1) = false := bne_eq_false_iff_eq.mpr c14
        clear c14
        by_cases c15 : x430000_1.length < 17592186044416
        ·rw [if_pos c15] at H
         have LMc15 := Aside0.mk c15
         clear c15
         obtain ⟨y430, hy430⟩ : ∃ y_ : List Int, y_ = (x430000_1 ++ [x4_1]) := ⟨_, rfl⟩
         replace H : (ancepsref38_Made.l0 kj4 (wrap64 (x4_1 + 1)) a0_0 a0_1 y430) = some (r1, r2) := by first | (rw [hy430]; with_reducible exact H) | (have H2_ := (Option.bind_some _ _).symm.trans H; rw [hy430]; with_reducible exact H2_) | (have H2_ := (Option.bind_some _ _).symm.trans H; with_reducible exact H2_) | with_reducible exact H | (rw [hy430]; exact H) | exact H
         have Ny430 := Aside0.mk hy430
         clear hy430
         have H' := Aside0.mk H
         clear H
         have hnb16 := NB427_428.out
         have hnc16 := NB428_427.out
         have hnb17 := NB427_429.out
         have hnc17 := NB429_427.out
         have hcz18_0 : wc.cell? ⟨gb427, 0, none⟩ = some (.int .u32 a0_0) := (blk_cell BK427.out 0).trans rfl
         have hcz18_1 : wc.cell? ⟨gb427, 1, none⟩ = some (.int .u64 a0_1) := (blk_cell BK427.out 1).trans rfl
         have hfz18_0 := blk_frozen BK427.out 0
         have hfz18_1 := blk_frozen BK427.out 1
         have hnb19 := NB429_428.out
         have hnc19 := NB428_429.out
         have hcz20_0 : wc.cell? ⟨gb429, 0, none⟩ = some (u430000) := (blk_cell BK429.out 0).trans rfl
         have hcz20_1 : wc.cell? ⟨gb429, 1, none⟩ = some (.slice none 0 0) := (blk_cell BK429.out 1).trans rfl
         have hfz20_0 := blk_frozen BK429.out 0
         have hfz20_1 := blk_frozen BK429.out 1
         go_wp2_with (first | ((with_reducible refine gate_builtin (b := .append) (xs := #[.tmp 23, .tmp 25]) rfl ?_); (try (refine gate_guard (by rfl) ?_; dsimp only)); at_builtin; refine Kd.R_append (Kd.int .i64) (w0 := w) w.heap.size rfl (.tmp 23) (.tmp 25) 27 3 (.int .i64 0) 8 rfl Try.underlying27 info3 rfl (by decide) (by omega) u430000 x430000_1 x4_1 [.int .i64 x4_1] (fun _ => True) (fun _ => False) rfl rfl ?aP (fun _ hk => hk.elim) ?aF ?aO ?aB ?aS ?aL ?_; (case aP => exact rfl); (case aB => exact zB); (case aF => exact (fun _ _ => trivial)); (case aO => exact (zR HO_430000)); (case aS => exact (below_size zB)); (case aL => have := LMc15.out; omega); intro v431 w21 ho hb hg hat; rw [← Ny430.out] at ho; have n0_ := Aside0.mk (blk_grown (g := gb427) (o := .cells #[.int .u32 a0_0, .int .u64 a0_1] 25 (0, 0)) (zk BK427) hg (Kd.R_ne HO_430000.out BK427.out (by decide))); have n1_ := Aside0.mk (blk_grown (g := gb428) (o := .cells #[.slice none 0 0, .slice none 0 0] 29 (0, 0)) (zk BK428) hg (Kd.R_ne HO_430000.out BK428.out (by decide))); have n2_ := Aside0.mk (blk_grown (g := gb429) (o := .cells #[u430000, .slice none 0 0] 29 (0, 0)) (zk BK429) hg (Kd.R_ne HO_430000.out BK429.out (by decide))); have n3_ := Aside0.mk (hb); have n4_ := Aside0.mk (ho); clear BK427; clear BK428; clear BK429; clear HB; clear HO_430000; have BK427 := n0_; have BK428 := n1_; have BK429 := n2_; have HB := n3_; have HO432 := n4_; clear n0_ n1_ n2_ n3_ n4_; clear ho hb hg hat; obtain ⟨Ao22, co22, eo22⟩ := Kd.R_slice HO432.out; subst eo22; have hcz23_0 : w21.cell? ⟨gb429, 0, none⟩ = some (u430000) := (blk_cell BK429.out 0).trans rfl; have hcz23_1 : w21.cell? ⟨gb429, 1, none⟩ = some (.slice none 0 0) := (blk_cell BK429.out 1).trans rfl; have hfz23_0 := blk_frozen BK429.out 0; have hfz23_1 := blk_frozen BK429.out 1))
         go_roundg kj4
         case measure => have := HK1.out; have := HJ4.out; omega
         case rel => exact ⟨(wrap64 (x4_1 + 1)), (y430), (.slice Ao22 y430.length co22), zT, H', ⟨by have := HK1.out; have := HJ4.out; omega⟩, ⟨by (with_reducible repeat (first | apply Kd.R_alloc | apply Kd.R_drewN | apply Kd.R_drew)); exact Kd.R_mono (Kd.R_far (p := ⟨gb429, 0, none⟩) (Kd.R_types HO432.out BK429.out (by decide)) (fun _ hk => hk.2) (.slice Ao22 y430.length co22)) (fun _ hk => trivial)⟩, ⟨by (with_reducible repeat (first | refine blk_drewN ?_ _ | refine blk_drew ?_ | refine blk_alloc ?_ _)); refine blk_far ?_ NB427_429.out _; (with_reducible repeat (first | refine blk_drewN ?_ _ | refine blk_drew ?_ | refine blk_alloc ?_ _)); exact BK427.out⟩, ⟨by (with_reducible repeat (first | refine blk_drewN ?_ _ | refine blk_drew ?_ | refine blk_alloc ?_ _)); refine blk_far ?_ NB428_429.out _; (with_reducible repeat (first | refine blk_drewN ?_ _ | refine blk_drew ?_ | refine blk_alloc ?_ _)); exact BK428.out⟩, ⟨by (with_reducible repeat (first | refine blk_drewN ?_ _ | refine blk_drew ?_ | refine blk_alloc ?_ _)); refine blk_put (cs := #[u430000, .slice none 0 0]) ?_ 0 _ rfl; (with_reducible repeat (first | refine blk_drewN ?_ _ | refine blk_drew ?_ | refine blk_alloc ?_ _)); exact BK429.out⟩, ⟨by repeat (first | (with_reducible first | exact HB.out | apply below_alloc | apply pw_below_drewN | apply below_drew1 | refine below_set ?_ GE427.out | refine below_set ?_ GE428.out | refine below_set ?_ GE429.out) | exact HB.out)⟩⟩
        ·rw [if_neg c15] at H
         exact absurd H (by simp)
       ·rw [if_neg c14] at H
        have c14b0 : ((Int.tmod (ji13) 2) == 1) = false := beq_eq_false_iff_ne.mpr c14
        have c14b1 : ((Int.tmod (ji13) 2) != 1) = true := bne_iff_ne.mpr c14
        have H' := Aside0.mk H
        clear H
        have hnb24 := NB427_428.out
        have hnc24 := NB428_427.out
        have hnb25 := NB427_429.out
        have hnc25 := NB429_427.out
        have hcz26_0 : wc.cell? ⟨gb427, 0, none⟩ = some (.int .u32 a0_0) := (blk_cell BK427.out 0).trans rfl
        have hcz26_1 : wc.cell? ⟨gb427, 1, none⟩ = some (.int .u64 a0_1) := (blk_cell BK427.out 1).trans rfl
        have hfz26_0 := blk_frozen BK427.out 0
        have hfz26_1 := blk_frozen BK427.out 1
        go_wp2
        go_roundg kj4
        case measure => have := HK1.out; have := HJ4.out; omega
        case rel => exact ⟨(wrap64 (x4_1 + 1)), (x430000_1), (u430000), zT, H', ⟨by have := HK1.out; have := HJ4.out; omega⟩, ⟨by (with_reducible repeat (first | apply Kd.R_alloc | apply Kd.R_drewN | apply Kd.R_drew)); exact HO_430000.out⟩, ⟨by (with_reducible repeat (first | refine blk_drewN ?_ _ | refine blk_drew ?_ | refine blk_alloc ?_ _)); exact BK427.out⟩, ⟨by (with_reducible repeat (first | refine blk_drewN ?_ _ | refine blk_drew ?_ | refine blk_alloc ?_ _)); exact BK428.out⟩, ⟨by (with_reducible repeat (first | refine blk_drewN ?_ _ | refine blk_drew ?_ | refine blk_alloc ?_ _)); exact BK429.out⟩, ⟨by repeat (first | (with_reducible first | exact HB.out | apply below_alloc | apply pw_below_drewN | apply below_drew1 | refine below_set ?_ GE427.out | refine below_set ?_ GE428.out | refine below_set ?_ GE429.out) | exact HB.out)⟩⟩
      ·rw [if_neg c12] at H
       exact absurd H (by simp)
     ·replace c11 := Bool.eq_false_iff.mpr c11
      subst c11
      have H1 : (ancepsref38_Made.l1 kj4 0 a0_0 a0_1 x430000_1 ([] : List Int)) = some (r1, r2) := by rw [if_neg (show ¬ (false = true) by decide)] at H; exact H
      clear H
      have H := H1
      clear H1
      have H' := Aside0.mk H
      clear H
      go_wp2
      go_loopg [5] kj4 (fun kq v5 w' => ∃ (x5_3 : Int) (x430001_3 : List Int) (u430001 : Value), v5 = .int .i64 x5_3 ∧ Aside0 (ancepsref38_Made.l1 kq x5_3 a0_0 a0_1 x430000_1 x430001_3 = some (r1, r2)) ∧ Aside0 (kq ≤ kj4) ∧ Aside0 (Kd.R (Kd.int .i64) 3 w' w.heap.size (fun k_ => some k_ ≠ (u430001 : Value).ownBlock) u430000 x430000_1) ∧ Aside0 (Kd.R (Kd.int .i64) 3 w' w.heap.size (fun k_ => some k_ ≠ (u430000 : Value).ownBlock) u430001 x430001_3) ∧ Aside0 (w'.heap[gb427]? = some (.cells #[.int .u32 a0_0, .int .u64 a0_1] 25 (0, 0))) ∧ Aside0 (w'.heap[gb428]? = some (.cells #[(.slice none 0 0), (.slice none 0 0)] 29 (0, 0))) ∧ Aside0 (w'.heap[gb429]? = some (.cells #[u430000, u430001] 29 (0, 0))) ∧ Aside0 (Below w.heap.size w w'))
      case atStart => exact ⟨(0), (([] : List Int)), (.slice none 0 0), zT, H', ⟨Nat.le_refl _⟩, ⟨by (with_reducible repeat (first | apply Kd.R_alloc | apply Kd.R_drewN | apply Kd.R_drew)); exact Kd.R_mono HO_430000.out (fun _ hk => (by simp [Value.ownBlock]))⟩, ⟨by first | exact Kd.R_nil _ _ _ _ _ | exact Kd.N_nil _ _ _ _ _ | exact Kd.V_nil _ _ _ _ _ | exact Kd.Q_nil _ _ _ _ _ | exact Kd.S_nil _ _ _ _ _⟩, ⟨by (with_reducible repeat (first | refine blk_drewN ?_ _ | refine blk_drew ?_ | refine blk_alloc ?_ _)); exact BK427.out⟩, ⟨by (with_reducible repeat (first | refine blk_drewN ?_ _ | refine blk_drew ?_ | refine blk_alloc ?_ _)); exact BK428.out⟩, ⟨by (with_reducible repeat (first | refine blk_drewN ?_ _ | refine blk_drew ?_ | refine blk_alloc ?_ _)); exact BK429.out⟩, ⟨by repeat (first | (with_reducible first | exact HB.out | apply below_alloc | apply pw_below_drewN | apply below_drew1 | refine below_set ?_ GE427.out | refine below_set ?_ GE428.out | refine below_set ?_ GE429.out) | exact HB.out)⟩⟩
      case round =>
       clear H'
       try clear c11
       obtain ⟨x5_3, x430001_3, u430001, rfl, HA, HK3, HO_430000, HO_430001, BK427, BK428, BK429, HB⟩ := hrel
       cases gk with
       | zero => exact absurd HA.out (by simp [ancepsref38_Made.l1])
       | succ k3 =>
        have H := HA.out
        clear HA
        simp only [ancepsref38_Made.l1] at H
        obtain ⟨ji27, hji27⟩ : ∃ j_ : Int, (shl .i64 1 (x430000_1.length : Int)) = j_ := ⟨_, rfl⟩
        replace H : (if x5_3 < (ji27) then (if 0 ≤ x5_3 then (if (Int.tmod (shr .u64 a0_1 x5_3) 2) = 1 then (if x430001_3.length < 17592186044416 then (ancepsref38_Made.l1 k3 (wrap64 (x5_3 + 1)) a0_0 a0_1 x430000_1 (x430001_3 ++ [x5_3])) else (none)) else (ancepsref38_Made.l1 k3 (wrap64 (x5_3 + 1)) a0_0 a0_1 x430000_1 x430001_3)) else (none)) else (some (x430000_1, x430001_3))) = some (r1, r2) := by first | (rw [hji27] at H; exact H) | (simp only [hji27] at H ⊢; exact H)
        have hji27_ : (IntKind.i64.wrap (1 * 2 ^ min (x430000_1.length : Int).toNat 64)) = ji27 := hji27
        have hji27z : (x430000_1.length : Int) ≤ 64 → (IntKind.i64.wrap (1 * 2 ^ (x430000_1.length : Int).toNat)) = ji27 := shl_small hji27
        have hji27p : (IntKind.i64.wrap (1 * 2 ^ min x430000_1.length 64)) = ji27 := hji27_
        have hji27q : (x430000_1.length : Int) ≤ 64 → (IntKind.i64.wrap (1 * 2 ^ x430000_1.length)) = ji27 := hji27z
        have hji27r : (IntKind.i64.wrap (2 ^ min x430000_1.length 64)) = ji27 := by have h_ := hji27p; rw [Int.one_mul] at h_; exact h_
        have hji27s : (x430000_1.length : Int) ≤ 64 → (IntKind.i64.wrap (2 ^ x430000_1.length)) = ji27 := fun hle_ => by have h_ := hji27q hle_; rw [Int.one_mul] at h_; exact h_
        have hji27u : (IntKind.i64.wrap (2 ^ min (x430000_1.length : Int).toNat 64)) = ji27 := by have h_ := hji27_; rw [Int.one_mul] at h_; exact h_
        have hji27v : (x430000_1.length : Int) ≤ 64 → (IntKind.i64.wrap (2 ^ (x430000_1.length : Int).toNat)) = ji27 := fun hle_ => by have h_ := hji27z hle_; rw [Int.one_mul] at h_; exact h_
        have hji27y : (wrap64 (1 * 2 ^ min (x430000_1.length : Int).toNat 64)) = ji27 := (i64_w _).symm.trans hji27_
        have hji27x : (x430000_1.length : Int) ≤ 64 → (wrap64 (1 * 2 ^ (x430000_1.length : Int).toNat)) = ji27 := fun h_ => (i64_w _).symm.trans (hji27z h_)
        by_cases c28 : x5_3 < (ji27)
        ·rw [if_pos c28] at H
         have c28b0 : decide (x5_3 < (ji27)) = true := decide_eq_true c28
         clear c28
         by_cases c29 : 0 ≤ x5_3
         ·rw [if_pos c29] at H
          have c29b0 := eq_true c29
          have c29b1 : decide (0 ≤ x5_3) = true := decide_eq_true c29
          clear c29
          obtain ⟨ji30, hji30⟩ : ∃ j_ : Int, (shr .u64 a0_1 x5_3) = j_ := ⟨_, rfl⟩
          replace H : (if (Int.tmod (ji30) 2) = 1 then (if x430001_3.length < 17592186044416 then (ancepsref38_Made.l1 k3 (wrap64 (x5_3 + 1)) a0_0 a0_1 x430000_1 (x430001_3 ++ [x5_3])) else (none)) else (ancepsref38_Made.l1 k3 (wrap64 (x5_3 + 1)) a0_0 a0_1 x430000_1 x430001_3)) = some (r1, r2) := by first | (rw [hji30] at H; exact H) | (simp only [hji30] at H ⊢; exact H)
          have hji30_ : (a0_1 / 2 ^ min x5_3.toNat 64) = ji30 := hji30
          have hji30z : x5_3 ≤ 64 → (a0_1 / 2 ^ x5_3.toNat) = ji30 := shr_small hji30
          by_cases c31 : (Int.tmod (ji30) 2) = 1
          ·rw [if_pos c31] at H
           have c31b0 : ((Int.tmod (ji30) 2) == 1) = true := beq_iff_eq.mpr c31
           have c31b1 : ((Int.tmod (ji30) 2) != 1) = false := bne_eq_false_iff_eq.mpr c31
           clear c31
           by_cases c32 : x430001_3.length < 17592186044416
           ·rw [if_pos c32] at H
            have LMc32 := Aside0.mk c32
            clear c32
            obtain ⟨y433, hy433⟩ : ∃ y_ : List Int, y_ = (x430001_3 ++ [x5_3]) := ⟨_, rfl⟩
            replace H : (ancepsref38_Made.l1 k3 (wrap64 (x5_3 + 1)) a0_0 a0_1 x430000_1 y433) = some (r1, r2) := by first | (rw [hy433]; with_reducible exact H) | (have H2_ := (Option.bind_some _ _).symm.trans H; rw [hy433]; with_reducible exact H2_) | (have H2_ := (Option.bind_some _ _).symm.trans H; with_reducible exact H2_) | with_reducible exact H | (rw [hy433]; exact H) | exact H
            have Ny433 := Aside0.mk hy433
            clear hy433
            have H' := Aside0.mk H
            clear H
            have hnb33 := NB429_427.out
            have hnc33 := NB427_429.out
            have hnb34 := NB429_428.out
            have hnc34 := NB428_429.out
            have hcz35_0 : wr.cell? ⟨gb429, 0, none⟩ = some (u430000) := (blk_cell BK429.out 0).trans rfl
            have hcz35_1 : wr.cell? ⟨gb429, 1, none⟩ = some (u430001) := (blk_cell BK429.out 1).trans rfl
            have hfz35_0 := blk_frozen BK429.out 0
            have hfz35_1 := blk_frozen BK429.out 1
            obtain ⟨Ao36, co36, eo36⟩ := Kd.R_slice HO_430000.out
            subst eo36
            have hnb37 := NB427_428.out
            have hnc37 := NB428_427.out
            have hcz38_0 : wr.cell? ⟨gb427, 0, none⟩ = some (.int .u32 a0_0) := (blk_cell BK427.out 0).trans rfl
            have hcz38_1 : wr.cell? ⟨gb427, 1, none⟩ = some (.int .u64 a0_1) := (blk_cell BK427.out 1).trans rfl
            have hfz38_0 := blk_frozen BK427.out 0
            have hfz38_1 := blk_frozen BK427.out 1
            go_wp2_with (first | ((with_reducible refine gate_builtin (b := .append) (xs := #[.tmp 43, .tmp 45]) rfl ?_); (try (refine gate_guard (by rfl) ?_; dsimp only)); at_builtin; refine Kd.R_append (Kd.int .i64) (w0 := w) w.heap.size rfl (.tmp 43) (.tmp 45) 27 3 (.int .i64 0) 8 rfl Try.underlying27 info3 rfl (by decide) (by omega) u430001 x430001_3 x5_3 [.int .i64 x5_3] (fun k_ => some k_ ≠ (.slice Ao36 x430000_1.length co36 : Value).ownBlock) (fun _ => False) rfl rfl ?aP (fun _ hk => hk.elim) ?aF ?aO ?aB ?aS ?aL ?_; (case aP => exact rfl); (case aB => exact zB); (case aF => exact (fun k_ hk => Kd.fresh' (Kd.R_lt (zR HO_430000)) k_ hk)); (case aO => exact (zR HO_430001)); (case aS => exact (below_size zB)); (case aL => have := LMc32.out; omega); intro v434 w39 ho hb hg hat; rw [← Ny433.out] at ho; have n0_ := Aside0.mk (Kd.R_after (ok := (fun _ => True)) (by (with_reducible repeat (first | apply Kd.R_alloc | apply Kd.R_drewN | apply Kd.R_drew)); exact Kd.R_mono HO_430000.out (fun _ hk => ⟨trivial, hk⟩)) hg hat); have n1_ := Aside0.mk (blk_grown (g := gb427) (o := .cells #[.int .u32 a0_0, .int .u64 a0_1] 25 (0, 0)) (zk BK427) hg (Kd.R_ne HO_430001.out BK427.out (by decide))); have n2_ := Aside0.mk (blk_grown (g := gb428) (o := .cells #[.slice none 0 0, .slice none 0 0] 29 (0, 0)) (zk BK428) hg (Kd.R_ne HO_430001.out BK428.out (by decide))); have n3_ := Aside0.mk (blk_grown (g := gb429) (o := .cells #[.slice Ao36 x430000_1.length co36, u430001] 29 (0, 0)) (zk BK429) hg (Kd.R_ne HO_430001.out BK429.out (by decide))); have n4_ := Aside0.mk (hb); have n5_ := Aside0.mk (ho); clear HO_430000; clear BK427; clear BK428; clear BK429; clear HB; clear HO_430001; have HO_430000 := n0_; have BK427 := n1_; have BK428 := n2_; have BK429 := n3_; have HB := n4_; have HO435 := n5_; clear n0_ n1_ n2_ n3_ n4_ n5_; clear ho hb hg hat; obtain ⟨Ao40, co40, eo40⟩ := Kd.R_slice HO435.out; subst eo40; have hcz41_0 : w39.cell? ⟨gb429, 0, none⟩ = some (.slice Ao36 x430000_1.length co36) := (blk_cell BK429.out 0).trans rfl; have hcz41_1 : w39.cell? ⟨gb429, 1, none⟩ = some (u430001) := (blk_cell BK429.out 1).trans rfl; have hfz41_0 := blk_frozen BK429.out 0; have hfz41_1 := blk_frozen BK429.out 1))
            go_roundg k3
            case measure => have := HK1.out; have := HJ4.out; have := HK3.out; omega
            case rel => exact ⟨(wrap64 (x5_3 + 1)), (y433), (.slice Ao40 y433.length co40), zT, H', ⟨by have := HK1.out; have := HJ4.out; have := HK3.out; omega⟩, ⟨by (with_reducible repeat (first | apply Kd.R_alloc | apply Kd.R_drewN | apply Kd.R_drew)); exact Kd.R_mono (Kd.R_far (p := ⟨gb429, 1, none⟩) (Kd.R_types HO_430000.out BK429.out (by decide)) (fun _ hk => hk.2) (.slice Ao40 y433.length co40)) (fun _ hk => hk.1.2)⟩, ⟨by (with_reducible repeat (first | apply Kd.R_alloc | apply Kd.R_drewN | apply Kd.R_drew)); exact Kd.R_mono (Kd.R_far (p := ⟨gb429, 1, none⟩) (Kd.R_types HO435.out BK429.out (by decide)) (fun _ hk => hk.2) (.slice Ao40 y433.length co40)) (fun _ hk => hk.1)⟩, ⟨by (with_reducible repeat (first | refine blk_drewN ?_ _ | refine blk_drew ?_ | refine blk_alloc ?_ _)); refine blk_far ?_ NB427_429.out _; (with_reducible repeat (first | refine blk_drewN ?_ _ | refine blk_drew ?_ | refine blk_alloc ?_ _)); exact BK427.out⟩, ⟨by (with_reducible repeat (first | refine blk_drewN ?_ _ | refine blk_drew ?_ | refine blk_alloc ?_ _)); refine blk_far ?_ NB428_429.out _; (with_reducible repeat (first | refine blk_drewN ?_ _ | refine blk_drew ?_ | refine blk_alloc ?_ _)); exact BK428.out⟩, ⟨by (with_reducible repeat (first | refine blk_drewN ?_ _ | refine blk_drew ?_ | refine blk_alloc ?_ _)); refine blk_put (cs := #[.slice Ao36 x430000_1.length co36, u430001]) ?_ 1 _ rfl; (with_reducible repeat (first | refine blk_drewN ?_ _ | refine blk_drew ?_ | refine blk_alloc ?_ _)); exact BK429.out⟩, ⟨by repeat (first | (with_reducible first | exact HB.out | apply below_alloc | apply pw_below_drewN | apply below_drew1 | refine below_set ?_ GE427.out | refine below_set ?_ GE428.out | refine below_set ?_ GE429.out) | exact HB.out)⟩⟩
           ·rw [if_neg c32] at H
            exact absurd H (by simp)
          ·rw [if_neg c31] at H
           have c31b0 : ((Int.tmod (ji30) 2) == 1) = false := beq_eq_false_iff_ne.mpr c31
           have c31b1 : ((Int.tmod (ji30) 2) != 1) = true := bne_iff_ne.mpr c31
           have H' := Aside0.mk H
           clear H
           have hnb42 := NB429_427.out
           have hnc42 := NB427_429.out
           have hnb43 := NB429_428.out
           have hnc43 := NB428_429.out
           have hcz44_0 : wr.cell? ⟨gb429, 0, none⟩ = some (u430000) := (blk_cell BK429.out 0).trans rfl
           have hcz44_1 : wr.cell? ⟨gb429, 1, none⟩ = some (u430001) := (blk_cell BK429.out 1).trans rfl
           have hfz44_0 := blk_frozen BK429.out 0
           have hfz44_1 := blk_frozen BK429.out 1
           obtain ⟨Ao45, co45, eo45⟩ := Kd.R_slice HO_430000.out
           subst eo45
           have hnb46 := NB427_428.out
           have hnc46 := NB428_427.out
           have hcz47_0 : wr.cell? ⟨gb427, 0, none⟩ = some (.int .u32 a0_0) := (blk_cell BK427.out 0).trans rfl
           have hcz47_1 : wr.cell? ⟨gb427, 1, none⟩ = some (.int .u64 a0_1) := (blk_cell BK427.out 1).trans rfl
           have hfz47_0 := blk_frozen BK427.out 0
           have hfz47_1 := blk_frozen BK427.out 1
           go_wp2
           go_roundg k3
           case measure => have := HK1.out; have := HJ4.out; have := HK3.out; omega
           case rel => exact ⟨(wrap64 (x5_3 + 1)), (x430001_3), (u430001), zT, H', ⟨by have := HK1.out; have := HJ4.out; have := HK3.out; omega⟩, ⟨by (with_reducible repeat (first | apply Kd.R_alloc | apply Kd.R_drewN | apply Kd.R_drew)); exact HO_430000.out⟩, ⟨by (with_reducible repeat (first | apply Kd.R_alloc | apply Kd.R_drewN | apply Kd.R_drew)); exact HO_430001.out⟩, ⟨by (with_reducible repeat (first | refine blk_drewN ?_ _ | refine blk_drew ?_ | refine blk_alloc ?_ _)); exact BK427.out⟩, ⟨by (with_reducible repeat (first | refine blk_drewN ?_ _ | refine blk_drew ?_ | refine blk_alloc ?_ _)); exact BK428.out⟩, ⟨by (with_reducible repeat (first | refine blk_drewN ?_ _ | refine blk_drew ?_ | refine blk_alloc ?_ _)); exact BK429.out⟩, ⟨by repeat (first | (with_reducible first | exact HB.out | apply below_alloc | apply pw_below_drewN | apply below_drew1 | refine below_set ?_ GE427.out | refine below_set ?_ GE428.out | refine below_set ?_ GE429.out) | exact HB.out)⟩⟩
         ·rw [if_neg c29] at H
          exact absurd H (by simp)
        ·rw [if_neg c28] at H
         have c28b0 : decide (x5_3 < (ji27)) = false := decide_eq_false c28
         clear c28
         simp only [Option.some.injEq, Prod.mk.injEq] at H
         obtain ⟨rfl, rfl⟩ := H
         have hnb48 := NB429_427.out
         have hnc48 := NB427_429.out
         have hnb49 := NB429_428.out
         have hnc49 := NB428_429.out
         have hcz50_0 : wr.cell? ⟨gb429, 0, none⟩ = some (u430000) := (blk_cell BK429.out 0).trans rfl
         have hcz50_1 : wr.cell? ⟨gb429, 1, none⟩ = some (u430001) := (blk_cell BK429.out 1).trans rfl
         have hfz50_0 := blk_frozen BK429.out 0
         have hfz50_1 := blk_frozen BK429.out 1
         obtain ⟨Ao51, co51, eo51⟩ := Kd.R_slice HO_430000.out
         subst eo51
         have hnb52 := NB428_427.out
         have hnc52 := NB427_428.out
         have hcz53_0 : wr.cell? ⟨gb428, 0, none⟩ = some (.slice none 0 0) := (blk_cell BK428.out 0).trans rfl
         have hcz53_1 : wr.cell? ⟨gb428, 1, none⟩ = some (.slice none 0 0) := (blk_cell BK428.out 1).trans rfl
         have hfz53_0 := blk_frozen BK428.out 0
         have hfz53_1 := blk_frozen BK428.out 1
         obtain ⟨Ao54, co54, eo54⟩ := Kd.R_slice HO_430001.out
         subst eo54
         go_wp2
         refine bodyPost_ret (results_cell_row rfl _ _ gb428 29 #[.slice Ao51 x430000_1.length co51, .slice Ao54 x430001_3.length co54] (0, 0) _ rfl (by (with_reducible repeat (first | refine blk_drewN ?_ _ | refine blk_drew ?_ | refine blk_alloc ?_ _)); refine blk_put (cs := #[.slice Ao51 x430000_1.length co51, .slice none 0 0]) ?_ 1 _ rfl; (with_reducible repeat (first | refine blk_drewN ?_ _ | refine blk_drew ?_ | refine blk_alloc ?_ _)); refine blk_put (cs := #[.slice none 0 0, .slice none 0 0]) ?_ 0 _ rfl; (with_reducible repeat (first | refine blk_drewN ?_ _ | refine blk_drew ?_ | refine blk_alloc ?_ _)); exact BK428.out) Try.underlying29 rfl zK) rfl ?_
         exact ⟨_, _, by first | rfl | (simp [errW_none, errW_some] <;> rfl) | (simp only [← hji27]; first | rfl | (simp [errW_none, errW_some] <;> rfl)) | (simp [*, errW_none, errW_some] <;> rfl), by (with_reducible repeat (first | apply Kd.R_alloc | apply Kd.R_drewN | apply Kd.R_drew)); exact Kd.R_mono (Kd.R_far (p := ⟨gb428, 1, none⟩) (Kd.R_far (p := ⟨gb428, 0, none⟩) (Kd.R_types HO_430000.out BK428.out (by decide)) (fun _ hk => hk.2) (.slice Ao51 x430000_1.length co51)) (fun _ hk => hk.2) (.slice Ao54 x430001_3.length co54)) (fun _ hk => hk.1), by (with_reducible repeat (first | apply Kd.R_alloc | apply Kd.R_drewN | apply Kd.R_drew)); exact Kd.R_mono (Kd.R_far (p := ⟨gb428, 1, none⟩) (Kd.R_far (p := ⟨gb428, 0, none⟩) (Kd.R_types HO_430001.out BK428.out (by decide)) (fun _ hk => hk.2) (.slice Ao51 x430000_1.length co51)) (fun _ hk => hk.2) (.slice Ao54 x430001_3.length co54)) (fun _ hk => hk.1), by repeat (first | (with_reducible first | exact HB.out | apply below_alloc | apply pw_below_drewN | apply below_drew1 | refine below_set ?_ GE427.out | refine below_set ?_ GE428.out | refine below_set ?_ GE429.out) | exact HB.out)⟩
/-! ### table_Union_1: function 48 -/
def table_Union_1.f (a0 : Bool) (a1 : Bool) : Option (Bool) := if a0 = true then (some true) else (some a1)
set_option maxHeartbeats 8000000 in
set_option maxRecDepth 100000 in
theorem table_Union_1.calls (a0 : Bool) (a1 : Bool) (r : Bool) (w : World) (h : table_Union_1.f a0 a1 = some r) :
  Calls Try.prog 48 #[.bool a0, .bool a1] w fun e w' => e = .returned (.bool r) ∧ Drawn0 w w' := by
 have H : (if a0 = true then (some true) else (some a1)) = some r := h
 clear h
 by_cases c3 : a0 = true
 ·subst c3
  have H1 : (some true) = some r := by rw [if_pos rfl] at H; exact H
  clear H
  have H := H1
  clear H1
  obtain rfl := Option.some.inj H
  go_enter Try.func48, Try.ntmps48
  go_wp2
  go_ret
  exact ⟨by first | rfl | (simp; done) | (simp [*]; done), by repeat (first | exact Drawn0.refl _ | apply Drawn0.step)⟩
 ·replace c3 := Bool.eq_false_iff.mpr c3
  subst c3
  have H1 : (some a1) = some r := by rw [if_neg (show ¬ (false = true) by decide)] at H; exact H
  clear H
  have H := H1
  clear H1
  obtain rfl := Option.some.inj H
  go_enter Try.func48, Try.ntmps48
  go_wp2
  go_ret
  exact ⟨by first | rfl | (simp; done) | (simp [*]; done), by repeat (first | exact Drawn0.refl _ | apply Drawn0.step)⟩
/-! ### table_combine_1_table_Union_1: function 2000073 -/
def table_combine_1_table_Union_1.f (k : Nat) (a0 : Int)  (l2_0 : List Int) (l2_1 : List Int) (l3_0 : List Int) (l3_1 : List Int) : Option (Bool) := (table_has.f k l2_0 l2_1 a0).bind fun t439 => ((table_has.f k l3_0 l3_1 a0).bind fun t440 => ((table_Union_1.f t439 t440).bind fun t441 => (some t441)))
theorem table_combine_1_table_Union_1.mono : ∀ a0 a1 a2 a3 a4 k, LeO (table_combine_1_table_Union_1.f k a0 a1 a2 a3 a4) (table_combine_1_table_Union_1.f (k + 1) a0 a1 a2 a3 a4) := by
 intro a0 a1 a2 a3 a4 k
 unfold table_combine_1_table_Union_1.f
 repeat' first
   | (with_reducible exact table_has.mono _ _ _ _)
   | (with_reducible exact LeO.refl _)
   | (with_reducible exact LeO.none _)
   | (with_reducible refine LeO.ite ?_ ?_)
   | (with_reducible refine LeO.bind ?_ (fun _ => ?_))
   | exact table_has.mono _ _ _ _
   | exact LeO.none _
   | refine LeO.ite ?_ ?_
   | refine LeO.bind ?_ (fun _ => ?_)
def table_combine_1_table_Union_1.T1 : Bool × List (List Nat × List Nat) := (true, [([], []), ([], []), ([], []), ([1, 2], [1, 2]), ([], []), ([], []), ([4, 5, 3], [4, 5]), ([0, 3, 6, 6], [0, 3, 6]), ([7, 7, 0, 1, 2, 3, 4, 5, 6, 7], [7])])
def table_combine_1_table_Union_1.B1 : List Nat := [0, 0, 0, 6, 0, 0, 62, 127, 255]
theorem table_combine_1_table_Union_1.tab1 : rtab .any (opsOf Try.f73 1) = table_combine_1_table_Union_1.T1 := by kernel_rfl
theorem table_combine_1_table_Union_1.bits1 : waitsOk table_combine_1_table_Union_1.T1.2 table_combine_1_table_Union_1.B1 = true := by kernel_rfl
set_option maxHeartbeats 8000000 in
set_option maxRecDepth 100000 in
theorem table_combine_1_table_Union_1.calls (k : Nat) (a0 : Int) (gp1_0 : Nat)  (gp2_0 : Nat) (A2_0 : Option Addr) (c2_0 : Nat) (l2_0 : List Int) (A2_1 : Option Addr) (c2_1 : Nat) (l2_1 : List Int) (gp3_0 : Nat) (A3_0 : Option Addr) (c3_0 : Nat) (l3_0 : List Int) (A3_1 : Option Addr) (c3_1 : Nat) (l3_1 : List Int) (r : Bool) (w : World) (hb_gp1_0 : w.heap[gp1_0]? = some (.cells #[.func (.func 48) #[] #[]] 60 (0, 0))) (hr2_0 : Kd.C (Kd.int .i64) w A2_0 l2_0.length l2_0) (hc2_0 : l2_0.length ≤ c2_0) (hr2_1 : Kd.C (Kd.int .i64) w A2_1 l2_1.length l2_1) (hc2_1 : l2_1.length ≤ c2_1) (hb_gp2_0 : w.heap[gp2_0]? = some (.cells #[.slice A2_0 l2_0.length c2_0, .slice A2_1 l2_1.length c2_1] 29 (0, 0))) (hr3_0 : Kd.C (Kd.int .i64) w A3_0 l3_0.length l3_0) (hc3_0 : l3_0.length ≤ c3_0) (hr3_1 : Kd.C (Kd.int .i64) w A3_1 l3_1.length l3_1) (hc3_1 : l3_1.length ≤ c3_1) (hb_gp3_0 : w.heap[gp3_0]? = some (.cells #[.slice A3_0 l3_0.length c3_0, .slice A3_1 l3_1.length c3_1] 29 (0, 0))) (h : table_combine_1_table_Union_1.f k a0 l2_0 l2_1 l3_0 l3_1 = some r) :
  Calls Try.prog 73 #[.int .i64 a0, .pointer (some ⟨gp1_0, 0, none⟩), .pointer (some ⟨gp2_0, 0, none⟩), .pointer (some ⟨gp3_0, 0, none⟩)] w fun e w' => e = .returned (.bool r) ∧ Below w.heap.size w w' := by
 have hu60 := Try.underlying60
 have hu29 := Try.underlying29
 have HR2_0 := Aside0.mk hr2_0
 have HC2_0 := Aside0.mk hc2_0
 clear hr2_0 hc2_0
 have HR2_1 := Aside0.mk hr2_1
 have HC2_1 := Aside0.mk hc2_1
 clear hr2_1 hc2_1
 have HR3_0 := Aside0.mk hr3_0
 have HC3_0 := Aside0.mk hc3_0
 clear hr3_0 hc3_0
 have HR3_1 := Aside0.mk hr3_1
 have HC3_1 := Aside0.mk hc3_1
 clear hr3_1 hc3_1
 have BK436 := Aside0.mk hb_gp1_0
 clear hb_gp1_0
 have BK437 := Aside0.mk hb_gp2_0
 clear hb_gp2_0
 have BK438 := Aside0.mk hb_gp3_0
 clear hb_gp3_0
 have HB := Aside0.mk (Below.refl w.heap.size w)
 have H : ((table_has.f k l2_0 l2_1 a0).bind fun t439 => ((table_has.f k l3_0 l3_1 a0).bind fun t440 => ((table_Union_1.f t439 t440).bind fun t441 => (some t441)))) = some r := h
 clear h
 replace H := Option.bind_eq_some_iff.mp H
 obtain ⟨t439, A50, H⟩ := H
 replace H : ((table_has.f k l3_0 l3_1 a0).bind fun t440 => ((table_Union_1.f t439 t440).bind fun t441 => (some t441))) = some r := H
 have A5 := Aside0.mk A50
 clear A50
 replace H := Option.bind_eq_some_iff.mp H
 obtain ⟨t440, A60, H⟩ := H
 replace H : ((table_Union_1.f t439 t440).bind fun t441 => (some t441)) = some r := H
 have A6 := Aside0.mk A60
 clear A60
 replace H := Option.bind_eq_some_iff.mp H
 obtain ⟨t441, A70, H⟩ := H
 replace H : (some t441) = some r := H
 have A7 := Aside0.mk A70
 clear A70
 obtain rfl := Option.some.inj H
 go_enter Try.func73, Try.ntmps73
 try go_wp2
 have n0_ := Aside0.mk (blk_drew BK436.out)
 have n1_ := Aside0.mk (blk_drew BK437.out)
 have n2_ := Aside0.mk (blk_drew BK438.out)
 have n3_ := Aside0.mk (below_drew1 HB.out)
 clear BK436
 clear BK437
 clear BK438
 clear HB
 have BK436 := n0_
 have BK437 := n1_
 have BK438 := n2_
 have HB := n3_
 clear n0_ n1_ n2_ n3_
 refine start_ (n := 9) (S := fun w' => w'.cell? ⟨gp1_0, 0, none⟩ = some (.func (.func 48) #[] #[]) ∧ w'.cell? ⟨gp2_0, 0, none⟩ = some (.slice A2_0 l2_0.length c2_0) ∧ w'.cell? ⟨gp2_0, 1, none⟩ = some (.slice A2_1 l2_1.length c2_1) ∧ w'.cell? ⟨gp3_0, 0, none⟩ = some (.slice A3_0 l3_0.length c3_0) ∧ w'.cell? ⟨gp3_0, 1, none⟩ = some (.slice A3_1 l3_1.length c3_1)) (ds := []) #[false, false, false, false, false, false, false, false, false] zK rfl rfl ⟨(blk_cell BK436.out 0).trans rfl, (blk_cell BK437.out 0).trans rfl, (blk_cell BK437.out 1).trans rfl, (blk_cell BK438.out 0).trans rfl, (blk_cell BK438.out 1).trans rfl⟩ (fun hHeld => ?_); refine with_tabW table_combine_1_table_Union_1.tab1 table_combine_1_table_Union_1.bits1 (fun HT_ HW_ => ?_)
 generalize w.drew = w8 at BK436 BK437 BK438 HB hHeld ⊢
 refine pure_ (i := 2) (N := some 8) (v := ?_) (a' := ?_) #[false, false, true, false, false, false, false, false, false] rfl rfl (any_of HT_.out zK) (fun _ _ _ h => h) (Or.inl ⟨by rfl, ?_⟩) ?_ ?_
 rotate_left
 ·intro w'
  go_simp
  with_reducible rfl
 rotate_left
 ·simp only [Act.put, List.setIfInBounds_toArray, List.set_cons_zero, List.set_cons_succ, i64_w, i32_w]
  rfl
 refine pure_ (i := 5) (N := some 11) (v := ?_) (a' := ?_) #[false, false, true, false, false, true, false, false, false] rfl rfl (any_of HT_.out zK) (fun _ _ _ h => h) (Or.inl ⟨by rfl, ?_⟩) ?_ ?_
 rotate_left
 ·intro w'
  go_simp
  with_reducible rfl
 rotate_left
 ·simp only [Act.put, List.setIfInBounds_toArray, List.set_cons_zero, List.set_cons_succ, i64_w, i32_w]
  rfl
 refine take_ (i := 0) (N := some 6) (v := ?_) (a' := ?_) #[true, false, true, false, false, true, false, false, false] rfl rfl (take_ofW HT_.out HW_.out zK) (fun _ _ _ h => h) (Or.inl ⟨by rfl, ?_⟩) hHeld ?_ ?_
 rotate_left
 ·rintro w' ⟨s0, s1, s2, s3, s4⟩
  go_simp
  with_reducible rfl
 rotate_left
 ·simp only [Act.put, List.setIfInBounds_toArray, List.set_cons_zero, List.set_cons_succ, i64_w, i32_w]
  rfl
 refine take_ (i := 1) (N := some 7) (v := ?_) (a' := ?_) #[true, true, true, false, false, true, false, false, false] rfl rfl (take_ofW HT_.out HW_.out zK) (fun _ _ _ h => h) (Or.inl ⟨by rfl, ?_⟩) hHeld ?_ ?_
 rotate_left
 ·rintro w' ⟨s0, s1, s2, s3, s4⟩
  go_simp
  with_reducible rfl
 rotate_left
 ·simp only [Act.put, List.setIfInBounds_toArray, List.set_cons_zero, List.set_cons_succ, i64_w, i32_w]
  rfl
 refine take_ (i := 4) (N := some 10) (v := ?_) (a' := ?_) #[true, true, true, false, true, true, false, false, false] rfl rfl (take_ofW HT_.out HW_.out zK) (fun _ _ _ h => h) (Or.inl ⟨by rfl, ?_⟩) hHeld ?_ ?_
 rotate_left
 ·rintro w' ⟨s0, s1, s2, s3, s4⟩
  go_simp
  with_reducible rfl
 rotate_left
 ·simp only [Act.put, List.setIfInBounds_toArray, List.set_cons_zero, List.set_cons_succ, i64_w, i32_w]
  rfl
 refine one_ (i := 3) (N := some 9) #[true, true, true, true, true, true, false, false, false] rfl rfl (one_of HT_.out zK) (by decide) (fun K hK => ?_)
 refine goes_ Try.func50 zK rfl #[.agg #[.slice A2_0 l2_0.length c2_0, .slice A2_1 l2_1.length c2_1], .int .i64 a0] (by rfl) rfl rfl zM ?_
 with_reducible refine (table_has.calls k _ _ l2_0 _ _ l2_1 a0 t439 _ ?side1 ?side2 ?side3 ?side4 A5.out).mono ?_
 (case side1 => repeat (first | exact (Kd.C_below HR2_0.out HB.out) | (with_reducible refine Kd.C_alloc ?_ _) | (with_reducible refine Kd.C_drewN ?_ _) | (with_reducible refine Kd.C_drew ?_)))
 (case side2 => exact HC2_0.out)
 (case side3 => repeat (first | exact (Kd.C_below HR2_1.out HB.out) | (with_reducible refine Kd.C_alloc ?_ _) | (with_reducible refine Kd.C_drewN ?_ _) | (with_reducible refine Kd.C_drew ?_)))
 (case side4 => exact HC2_1.out)
 rintro e w9 ⟨rfl, hb⟩
 refine ⟨_, rfl, ?_⟩
 have n0_ := Aside0.mk (blk_below (g := gp1_0) (o := .cells #[.func (.func 48) #[] #[]] 60 (0, 0)) (zk BK436) hb)
 have n1_ := Aside0.mk (blk_below (g := gp2_0) (o := .cells #[.slice A2_0 l2_0.length c2_0, .slice A2_1 l2_1.length c2_1] 29 (0, 0)) (zk BK437) hb)
 have n2_ := Aside0.mk (blk_below (g := gp3_0) (o := .cells #[.slice A3_0 l3_0.length c3_0, .slice A3_1 l3_1.length c3_1] 29 (0, 0)) (zk BK438) hb)
 have n3_ := Aside0.mk (below_step zB hb)
 clear BK436
 clear BK437
 clear BK438
 clear HB
 have BK436 := n0_
 have BK437 := n1_
 have BK438 := n2_
 have HB := n3_
 clear n0_ n1_ n2_ n3_
 (try clear hb)
 (try clear hb2)
 (try clear hk)
 (try clear hi)
 refine hK.out _ _ ⟨(blk_cell BK436.out 0).trans rfl, (blk_cell BK437.out 0).trans rfl, (blk_cell BK437.out 1).trans rfl, (blk_cell BK438.out 0).trans rfl, (blk_cell BK438.out 1).trans rfl⟩ (fun hHeld => ?_)
 clear hK K
 refine norm_ (a' := ?_) ?_ ?_
 rotate_left
 ·show Act.put _ (some 9) _ = _
  simp only [Act.put, List.setIfInBounds_toArray, List.set_cons_zero, List.set_cons_succ, i64_w, i32_w]
  rfl
 refine one_ (i := 6) (N := some 12) #[true, true, true, true, true, true, true, false, false] rfl rfl (one_of HT_.out zK) (by decide) (fun K hK => ?_)
 refine goes_ Try.func50 zK rfl #[.agg #[.slice A3_0 l3_0.length c3_0, .slice A3_1 l3_1.length c3_1], .int .i64 a0] (by rfl) rfl rfl zM ?_
 with_reducible refine (table_has.calls k _ _ l3_0 _ _ l3_1 a0 t440 _ ?side1 ?side2 ?side3 ?side4 A6.out).mono ?_
 (case side1 => repeat (first | exact (Kd.C_below HR3_0.out HB.out) | (with_reducible refine Kd.C_alloc ?_ _) | (with_reducible refine Kd.C_drewN ?_ _) | (with_reducible refine Kd.C_drew ?_)))
 (case side2 => exact HC3_0.out)
 (case side3 => repeat (first | exact (Kd.C_below HR3_1.out HB.out) | (with_reducible refine Kd.C_alloc ?_ _) | (with_reducible refine Kd.C_drewN ?_ _) | (with_reducible refine Kd.C_drew ?_)))
 (case side4 => exact HC3_1.out)
 rintro e w10 ⟨rfl, hb⟩
 refine ⟨_, rfl, ?_⟩
 have n0_ := Aside0.mk (blk_below (g := gp1_0) (o := .cells #[.func (.func 48) #[] #[]] 60 (0, 0)) (zk BK436) hb)
 have n1_ := Aside0.mk (blk_below (g := gp2_0) (o := .cells #[.slice A2_0 l2_0.length c2_0, .slice A2_1 l2_1.length c2_1] 29 (0, 0)) (zk BK437) hb)
 have n2_ := Aside0.mk (blk_below (g := gp3_0) (o := .cells #[.slice A3_0 l3_0.length c3_0, .slice A3_1 l3_1.length c3_1] 29 (0, 0)) (zk BK438) hb)
 have n3_ := Aside0.mk (below_step zB hb)
 clear BK436
 clear BK437
 clear BK438
 clear HB
 have BK436 := n0_
 have BK437 := n1_
 have BK438 := n2_
 have HB := n3_
 clear n0_ n1_ n2_ n3_
 (try clear hb)
 (try clear hb2)
 (try clear hk)
 (try clear hi)
 refine hK.out _ _ ⟨(blk_cell BK436.out 0).trans rfl, (blk_cell BK437.out 0).trans rfl, (blk_cell BK437.out 1).trans rfl, (blk_cell BK438.out 0).trans rfl, (blk_cell BK438.out 1).trans rfl⟩ (fun hHeld => ?_)
 clear hK K
 refine norm_ (a' := ?_) ?_ ?_
 rotate_left
 ·show Act.put _ (some 12) _ = _
  simp only [Act.put, List.setIfInBounds_toArray, List.set_cons_zero, List.set_cons_succ, i64_w, i32_w]
  rfl
 refine one_ (i := 7) (N := some 13) #[true, true, true, true, true, true, true, true, false] rfl rfl (one_of HT_.out zK) (by decide) (fun K hK => ?_)
 refine goesV_ Try.func48 zK rfl #[.bool t439, .bool t440] #[] (by rfl) rfl rfl (by rfl) zM ?_
 with_reducible refine (table_Union_1.calls t439 t440 t441 _ A7.out).mono ?_
 rintro e w' ⟨rfl, ⟨nd, rfl⟩⟩
 refine ⟨_, rfl, ?_⟩
 refine hK.out _ _ ⟨(blk_cell BK436.out 0).trans rfl, (blk_cell BK437.out 0).trans rfl, (blk_cell BK437.out 1).trans rfl, (blk_cell BK438.out 0).trans rfl, (blk_cell BK438.out 1).trans rfl⟩ (fun hHeld => ?_)
 clear hK K
 refine norm_ (a' := ?_) ?_ ?_
 rotate_left
 ·show Act.put _ (some 13) _ = _
  simp only [Act.put, List.setIfInBounds_toArray, List.set_cons_zero, List.set_cons_succ, i64_w, i32_w]
  rfl
 refine pure_ (i := 8) (N := some 5) (v := ?_) (a' := ?_) #[true, true, true, true, true, true, true, true, true] rfl rfl (any_of HT_.out zK) (fun _ _ _ h => h) (Or.inl ⟨by rfl, ?_⟩) ?_ ?_
 rotate_left
 ·intro w'
  go_simp
  with_reducible rfl
 rotate_left
 ·simp only [Act.put, List.setIfInBounds_toArray, List.set_cons_zero, List.set_cons_succ, i64_w, i32_w]
  rfl
 refine done_ (done_of HT_.out zK) ?_
 try go_wp2
 go_ret
 exact ⟨by first | rfl | (simp [errW_none, errW_some] <;> rfl) | (simp [*, errW_none, errW_some] <;> rfl), by repeat (first | (with_reducible first | exact HB.out | apply below_alloc | apply pw_below_drewN | apply below_drew1 | refine below_set ?_ GE436.out | refine below_set ?_ GE437.out | refine below_set ?_ GE438.out) | exact HB.out)⟩
/-! ### table_over_table_combine_1_table_Union_1: function 4000059 -/
def table_over_table_combine_1_table_Union_1.l0 : Nat → List Int → Int → Int → List Int → List Int → List Int → List Int → List Int → List Int → Option (List Int × List Int)
 | 0, _, _, _, _, _, _, _, _, _ => none
 | k + 1, x0, x12, x13, x438000, x438001, x439000, x439001, x444000, x444001 => if x13 < x12 then ((table_assignment.f k x0 x13).bind fun t444 => ((table_combine_1_table_Union_1.f k t444 x438000 x438001 x439000 x439001).bind fun t445 => (if t445 = true then (if x444001.length < 17592186044416 then (table_over_table_combine_1_table_Union_1.l0 k x0 x12 (wrap64 (x13 + 1)) x438000 x438001 x439000 x439001 x444000 (x444001 ++ [x13])) else (none)) else (table_over_table_combine_1_table_Union_1.l0 k x0 x12 (wrap64 (x13 + 1)) x438000 x438001 x439000 x439001 x444000 x444001)))) else (some (x444000, x444001))
def table_over_table_combine_1_table_Union_1.f (k : Nat) (l0 : List Int) (l1_0 : List Int) (l1_1 : List Int) (l1_2 : List Int) (l1_3 : List Int) : Option (List Int × List Int) := (slices_Clone_int_int.f l0).bind fun t440 => (table_over_table_combine_1_table_Union_1.l0 k l0 (shl .i64 1 (l0.length : Int)) 0 l1_0 l1_1 l1_2 l1_3 t440 ([] : List Int))
theorem table_over_table_combine_1_table_Union_1.mono_l : ∀ k, (∀ y0 y1 y2 y3 y4 y5 y6 y7 y8, LeO (table_over_table_combine_1_table_Union_1.l0 k y0 y1 y2 y3 y4 y5 y6 y7 y8) (table_over_table_combine_1_table_Union_1.l0 (k + 1) y0 y1 y2 y3 y4 y5 y6 y7 y8))
 | 0 => fun _ _ _ _ _ _ _ _ _ r h => by simp [table_over_table_combine_1_table_Union_1.l0] at h
 | k + 1 => by
  have ih0 := table_over_table_combine_1_table_Union_1.mono_l k
  ·intro y0 y1 y2 y3 y4 y5 y6 y7 y8
   unfold table_over_table_combine_1_table_Union_1.l0
   repeat' first
   | (with_reducible exact ih0 _ _ _ _ _ _ _ _ _)
   | (with_reducible exact table_assignment.mono _ _ _)
   | (with_reducible exact table_combine_1_table_Union_1.mono _ _ _ _ _ _)
   | (with_reducible exact LeO.refl _)
   | (with_reducible exact LeO.none _)
   | (with_reducible refine LeO.ite ?_ ?_)
   | (with_reducible refine LeO.bind ?_ (fun _ => ?_))
   | exact ih0 _ _ _ _ _ _ _ _ _
   | exact table_assignment.mono _ _ _
   | exact table_combine_1_table_Union_1.mono _ _ _ _ _ _
   | exact LeO.none _
   | refine LeO.ite ?_ ?_
   | refine LeO.bind ?_ (fun _ => ?_)
theorem table_over_table_combine_1_table_Union_1.mono : ∀ a0 a1 a2 a3 a4 k, LeO (table_over_table_combine_1_table_Union_1.f k a0 a1 a2 a3 a4) (table_over_table_combine_1_table_Union_1.f (k + 1) a0 a1 a2 a3 a4) := by
 intro a0 a1 a2 a3 a4 k
 have ih0 := table_over_table_combine_1_table_Union_1.mono_l k
 unfold table_over_table_combine_1_table_Union_1.f
 repeat' first
   | (with_reducible exact ih0 _ _ _ _ _ _ _ _ _)
   | (with_reducible exact table_assignment.mono _ _ _)
   | (with_reducible exact table_combine_1_table_Union_1.mono _ _ _ _ _ _)
   | (with_reducible exact LeO.refl _)
   | (with_reducible exact LeO.none _)
   | (with_reducible refine LeO.ite ?_ ?_)
   | (with_reducible refine LeO.bind ?_ (fun _ => ?_))
   | exact ih0 _ _ _ _ _ _ _ _ _
   | exact table_assignment.mono _ _ _
   | exact table_combine_1_table_Union_1.mono _ _ _ _ _ _
   | exact LeO.none _
   | refine LeO.ite ?_ ?_
   | refine LeO.bind ?_ (fun _ => ?_)
set_option maxHeartbeats 8000000 in
set_option maxRecDepth 100000 in
theorem table_over_table_combine_1_table_Union_1.calls (k : Nat) (A0 : Option Addr) (c0 : Nat) (l0 : List Int) (gp1_0 : Nat) (gp1_1 : Nat) (gp1_2 : Nat) (A1_0 : Option Addr) (c1_0 : Nat) (l1_0 : List Int) (A1_1 : Option Addr) (c1_1 : Nat) (l1_1 : List Int) (A1_2 : Option Addr) (c1_2 : Nat) (l1_2 : List Int) (A1_3 : Option Addr) (c1_3 : Nat) (l1_3 : List Int) (r1 : List Int) (r2 : List Int) (w : World) (hr0 : Kd.C (Kd.int .i64) w A0 l0.length l0) (hc0 : l0.length ≤ c0) (hr1_0 : Kd.C (Kd.int .i64) w A1_0 l1_0.length l1_0) (hc1_0 : l1_0.length ≤ c1_0) (hr1_1 : Kd.C (Kd.int .i64) w A1_1 l1_1.length l1_1) (hc1_1 : l1_1.length ≤ c1_1) (hr1_2 : Kd.C (Kd.int .i64) w A1_2 l1_2.length l1_2) (hc1_2 : l1_2.length ≤ c1_2) (hr1_3 : Kd.C (Kd.int .i64) w A1_3 l1_3.length l1_3) (hc1_3 : l1_3.length ≤ c1_3) (hb_gp1_0 : w.heap[gp1_0]? = some (.cells #[.func (.func 48) #[] #[]] 60 (0, 0))) (hb_gp1_1 : w.heap[gp1_1]? = some (.cells #[.slice A1_0 l1_0.length c1_0, .slice A1_1 l1_1.length c1_1] 29 (0, 0))) (hb_gp1_2 : w.heap[gp1_2]? = some (.cells #[.slice A1_2 l1_2.length c1_2, .slice A1_3 l1_3.length c1_3] 29 (0, 0))) (h : table_over_table_combine_1_table_Union_1.f k l0 l1_0 l1_1 l1_2 l1_3 = some (r1, r2)) :
  Calls Try.prog 59 #[.slice A0 l0.length c0, .func (.func 73) #[] #[.pointer (some ⟨gp1_0, 0, none⟩), .pointer (some ⟨gp1_1, 0, none⟩), .pointer (some ⟨gp1_2, 0, none⟩)]] w fun e w' => ∃ v0_ v1_ : Value, e = .returned (.agg #[v0_, v1_]) ∧ Kd.R (Kd.int .i64) 3 w' w.heap.size (fun k_ => some k_ ≠ (v1_ : Value).ownBlock) v0_ r1 ∧ Kd.R (Kd.int .i64) 3 w' w.heap.size (fun k_ => some k_ ≠ (v0_ : Value).ownBlock) v1_ r2 ∧ Below w.heap.size w w' := by
 have hu29 := Try.underlying29
 have hu27 := Try.underlying27
 have HR0 := Aside0.mk hr0
 have HC0 := Aside0.mk hc0
 clear hr0 hc0
 have HR1_0 := Aside0.mk hr1_0
 have HC1_0 := Aside0.mk hc1_0
 clear hr1_0 hc1_0
 have HR1_1 := Aside0.mk hr1_1
 have HC1_1 := Aside0.mk hc1_1
 clear hr1_1 hc1_1
 have HR1_2 := Aside0.mk hr1_2
 have HC1_2 := Aside0.mk hc1_2
 clear hr1_2 hc1_2
 have HR1_3 := Aside0.mk hr1_3
 have HC1_3 := Aside0.mk hc1_3
 clear hr1_3 hc1_3
 have BK436 := Aside0.mk hb_gp1_0
 clear hb_gp1_0
 have BK437 := Aside0.mk hb_gp1_1
 clear hb_gp1_1
 have BK438 := Aside0.mk hb_gp1_2
 clear hb_gp1_2
 have HB := Aside0.mk (Below.refl w.heap.size w)
 have H : ((slices_Clone_int_int.f l0).bind fun t440 => (table_over_table_combine_1_table_Union_1.l0 k l0 (shl .i64 1 (l0.length : Int)) 0 l1_0 l1_1 l1_2 l1_3 t440 ([] : List Int))) = some (r1, r2) := h
 clear h
 replace H := Option.bind_eq_some_iff.mp H
 obtain ⟨t440, A30, H⟩ := H
 replace H : (table_over_table_combine_1_table_Union_1.l0 k l0 (shl .i64 1 (l0.length : Int)) 0 l1_0 l1_1 l1_2 l1_3 t440 ([] : List Int)) = some (r1, r2) := H
 have A3 := Aside0.mk A30
 clear A30
 obtain ⟨ji4, hji4⟩ : ∃ j_ : Int, (shl .i64 1 (l0.length : Int)) = j_ := ⟨_, rfl⟩
 replace H : (table_over_table_combine_1_table_Union_1.l0 k l0 ji4 0 l1_0 l1_1 l1_2 l1_3 t440 ([] : List Int)) = some (r1, r2) := by first | (rw [hji4] at H; exact H) | (simp only [hji4] at H ⊢; exact H)
 (try rw [hji4] at A3)
 have hji4_ : (IntKind.i64.wrap (1 * 2 ^ min (l0.length : Int).toNat 64)) = ji4 := hji4
 have hji4z : (l0.length : Int) ≤ 64 → (IntKind.i64.wrap (1 * 2 ^ (l0.length : Int).toNat)) = ji4 := shl_small hji4
 have hji4p : (IntKind.i64.wrap (1 * 2 ^ min l0.length 64)) = ji4 := hji4_
 have hji4q : (l0.length : Int) ≤ 64 → (IntKind.i64.wrap (1 * 2 ^ l0.length)) = ji4 := hji4z
 have hji4r : (IntKind.i64.wrap (2 ^ min l0.length 64)) = ji4 := by have h_ := hji4p; rw [Int.one_mul] at h_; exact h_
 have hji4s : (l0.length : Int) ≤ 64 → (IntKind.i64.wrap (2 ^ l0.length)) = ji4 := fun hle_ => by have h_ := hji4q hle_; rw [Int.one_mul] at h_; exact h_
 have hji4u : (IntKind.i64.wrap (2 ^ min (l0.length : Int).toNat 64)) = ji4 := by have h_ := hji4_; rw [Int.one_mul] at h_; exact h_
 have hji4v : (l0.length : Int) ≤ 64 → (IntKind.i64.wrap (2 ^ (l0.length : Int).toNat)) = ji4 := fun hle_ => by have h_ := hji4z hle_; rw [Int.one_mul] at h_; exact h_
 have hji4y : (wrap64 (1 * 2 ^ min (l0.length : Int).toNat 64)) = ji4 := (i64_w _).symm.trans hji4_
 have hji4x : (l0.length : Int) ≤ 64 → (wrap64 (1 * 2 ^ (l0.length : Int).toNat)) = ji4 := fun h_ => (i64_w _).symm.trans (hji4z h_)
 have H' := Aside0.mk H
 clear H
 go_enter Try.func59, Try.ntmps59
 go_wp2_with (first | ((with_reducible refine gate_dst (N := 4) rfl ?_); refine box_event ?hg (N := 4) ?hd (cs := #[.slice none 0 0, .slice none 0 0]) (t := 29) ?hr ?_; (case hd => rfl); (case hg => rfl); (case hr => first | (go_simp; done) | (go_simp; rfl)); intro gb439 hg w5 hbox hb; have n0_ := Aside0.mk (blk_below (g := gp1_0) (o := .cells #[.func (.func 48) #[] #[]] 60 (0, 0)) (zk BK436) hb); have n1_ := Aside0.mk (blk_below (g := gp1_1) (o := .cells #[.slice A1_0 l1_0.length c1_0, .slice A1_1 l1_1.length c1_1] 29 (0, 0)) (zk BK437) hb); have n2_ := Aside0.mk (blk_below (g := gp1_2) (o := .cells #[.slice A1_2 l1_2.length c1_2, .slice A1_3 l1_3.length c1_3] 29 (0, 0)) (zk BK438) hb); have n3_ := Aside0.mk (below_step zB hb); have n4_ := Aside0.mk (hbox); have n5_ := Aside0.mk ((by rw [hg]; exact (below_size zB) : w.heap.size ≤ gb439)); have n6_ := Aside0.mk ((by rw [hg]; exact (below_size zB) : w.heap.size ≤ gb439)); have n7_ := Aside0.mk ((by rw [hg]; exact Nat.ne_of_lt (blk_lt (g := gp1_0) (o := .cells #[.func (.func 48) #[] #[]] 60 (0, 0)) (zk BK436)) : gp1_0 ≠ gb439)); have n8_ := Aside0.mk ((by rw [hg]; exact Nat.ne_of_gt (blk_lt (g := gp1_0) (o := .cells #[.func (.func 48) #[] #[]] 60 (0, 0)) (zk BK436)) : gb439 ≠ gp1_0)); have n9_ := Aside0.mk ((by rw [hg]; exact Nat.ne_of_lt (blk_lt (g := gp1_1) (o := .cells #[.slice A1_0 l1_0.length c1_0, .slice A1_1 l1_1.length c1_1] 29 (0, 0)) (zk BK437)) : gp1_1 ≠ gb439)); have n10_ := Aside0.mk ((by rw [hg]; exact Nat.ne_of_gt (blk_lt (g := gp1_1) (o := .cells #[.slice A1_0 l1_0.length c1_0, .slice A1_1 l1_1.length c1_1] 29 (0, 0)) (zk BK437)) : gb439 ≠ gp1_1)); have n11_ := Aside0.mk ((by rw [hg]; exact Nat.ne_of_lt (blk_lt (g := gp1_2) (o := .cells #[.slice A1_2 l1_2.length c1_2, .slice A1_3 l1_3.length c1_3] 29 (0, 0)) (zk BK438)) : gp1_2 ≠ gb439)); have n12_ := Aside0.mk ((by rw [hg]; exact Nat.ne_of_gt (blk_lt (g := gp1_2) (o := .cells #[.slice A1_2 l1_2.length c1_2, .slice A1_3 l1_3.length c1_3] 29 (0, 0)) (zk BK438)) : gb439 ≠ gp1_2)); clear BK436; clear BK437; clear BK438; clear HB; have BK436 := n0_; have BK437 := n1_; have BK438 := n2_; have HB := n3_; have BK439 := n4_; have GW439 := n5_; have GE439 := n6_; have NB436_439 := n7_; have NB439_436 := n8_; have NB437_439 := n9_; have NB439_437 := n10_; have NB438_439 := n11_; have NB439_438 := n12_; clear n0_ n1_ n2_ n3_ n4_ n5_ n6_ n7_ n8_ n9_ n10_ n11_ n12_; clear hb hbox hg) | ((with_reducible refine gate_callee (f := 42) rfl ?_); refine goesL_ (some 8) rfl rfl Try.func42 zK rfl #[.slice A0 l0.length c0] rfl zM ?_; (with_reducible refine (slices_Clone_int_int.calls _ _ l0 t440 _ ?side1 ?side2 A3.out).mono ?_); (case side1 => repeat (first | exact (Kd.C_below HR0.out HB.out) | (with_reducible refine Kd.C_alloc ?_ _) | (with_reducible refine Kd.C_drewN ?_ _) | (with_reducible refine Kd.C_drew ?_))); (case side2 => exact HC0.out); rintro e w6 ⟨v441, rfl, ho0, hb⟩; refine ⟨_, rfl, ?_⟩; have n0_ := Aside0.mk (Kd.R_lower ho0 (below_size zB)); have n1_ := Aside0.mk (blk_below (g := gp1_0) (o := .cells #[.func (.func 48) #[] #[]] 60 (0, 0)) (zk BK436) hb); have n2_ := Aside0.mk (blk_below (g := gp1_1) (o := .cells #[.slice A1_0 l1_0.length c1_0, .slice A1_1 l1_1.length c1_1] 29 (0, 0)) (zk BK437) hb); have n3_ := Aside0.mk (blk_below (g := gp1_2) (o := .cells #[.slice A1_2 l1_2.length c1_2, .slice A1_3 l1_3.length c1_3] 29 (0, 0)) (zk BK438) hb); have n4_ := Aside0.mk (blk_below (g := gb439) (o := .cells #[.slice none 0 0, .slice none 0 0] 29 (0, 0)) (zk BK439) hb); have n5_ := Aside0.mk (below_step zB hb); clear BK436; clear BK437; clear BK438; clear BK439; clear HB; have HO442 := n0_; have BK436 := n1_; have BK437 := n2_; have BK438 := n3_; have BK439 := n4_; have HB := n5_; clear n0_ n1_ n2_ n3_ n4_ n5_; (try clear hb); (try clear hb2); (try clear hk); (try clear hi); (try clear ho0); obtain ⟨Ao7, co7, eo7⟩ := Kd.R_slice HO442.out; subst eo7) | ((with_reducible refine gate_dst (N := 5) rfl ?_); refine box_event ?hg (N := 5) ?hd (cs := #[.slice none 0 0, .slice none 0 0]) (t := 29) ?hr ?_; (case hd => rfl); (case hg => rfl); (case hr => first | (go_simp; done) | (go_simp; rfl)); intro gb443 hg w8 hbox hb; have n0_ := Aside0.mk (Kd.R_below (zR HO442) hb); have n1_ := Aside0.mk (blk_below (g := gp1_0) (o := .cells #[.func (.func 48) #[] #[]] 60 (0, 0)) (zk BK436) hb); have n2_ := Aside0.mk (blk_below (g := gp1_1) (o := .cells #[.slice A1_0 l1_0.length c1_0, .slice A1_1 l1_1.length c1_1] 29 (0, 0)) (zk BK437) hb); have n3_ := Aside0.mk (blk_below (g := gp1_2) (o := .cells #[.slice A1_2 l1_2.length c1_2, .slice A1_3 l1_3.length c1_3] 29 (0, 0)) (zk BK438) hb); have n4_ := Aside0.mk (blk_below (g := gb439) (o := .cells #[.slice none 0 0, .slice none 0 0] 29 (0, 0)) (zk BK439) hb); have n5_ := Aside0.mk (below_step zB hb); have n6_ := Aside0.mk (hbox); have n7_ := Aside0.mk ((by rw [hg]; exact (below_size zB) : w.heap.size ≤ gb443)); have n8_ := Aside0.mk ((by rw [hg]; exact (below_size zB) : w.heap.size ≤ gb443)); have n9_ := Aside0.mk ((by rw [hg]; exact Nat.ne_of_lt (blk_lt (g := gp1_0) (o := .cells #[.func (.func 48) #[] #[]] 60 (0, 0)) (zk BK436)) : gp1_0 ≠ gb443)); have n10_ := Aside0.mk ((by rw [hg]; exact Nat.ne_of_gt (blk_lt (g := gp1_0) (o := .cells #[.func (.func 48) #[] #[]] 60 (0, 0)) (zk BK436)) : gb443 ≠ gp1_0)); have n11_ := Aside0.mk ((by rw [hg]; exact Nat.ne_of_lt (blk_lt (g := gp1_1) (o := .cells #[.slice A1_0 l1_0.length c1_0, .slice A1_1 l1_1.length c1_1] 29 (0, 0)) (zk BK437)) : gp1_1 ≠ gb443)); have n12_ := Aside0.mk ((by rw [hg]; exact Nat.ne_of_gt (blk_lt (g := gp1_1) (o := .cells #[.slice A1_0 l1_0.length c1_0, .slice A1_1 l1_1.length c1_1] 29 (0, 0)) (zk BK437)) : gb443 ≠ gp1_1)); have n13_ := Aside0.mk ((by rw [hg]; exact Nat.ne_of_lt (blk_lt (g := gp1_2) (o := .cells #[.slice A1_2 l1_2.length c1_2, .slice A1_3 l1_3.length c1_3] 29 (0, 0)) (zk BK438)) : gp1_2 ≠ gb443)); have n14_ := Aside0.mk ((by rw [hg]; exact Nat.ne_of_gt (blk_lt (g := gp1_2) (o := .cells #[.slice A1_2 l1_2.length c1_2, .slice A1_3 l1_3.length c1_3] 29 (0, 0)) (zk BK438)) : gb443 ≠ gp1_2)); have n15_ := Aside0.mk ((by rw [hg]; exact Nat.ne_of_lt (blk_lt (g := gb439) (o := .cells #[.slice none 0 0, .slice none 0 0] 29 (0, 0)) (zk BK439)) : gb439 ≠ gb443)); have n16_ := Aside0.mk ((by rw [hg]; exact Nat.ne_of_gt (blk_lt (g := gb439) (o := .cells #[.slice none 0 0, .slice none 0 0] 29 (0, 0)) (zk BK439)) : gb443 ≠ gb439)); clear HO442; clear BK436; clear BK437; clear BK438; clear BK439; clear HB; have HO442 := n0_; have BK436 := n1_; have BK437 := n2_; have BK438 := n3_; have BK439 := n4_; have HB := n5_; have BK443 := n6_; have GW443 := n7_; have GE443 := n8_; have NB436_443 := n9_; have NB443_436 := n10_; have NB437_443 := n11_; have NB443_437 := n12_; have NB438_443 := n13_; have NB443_438 := n14_; have NB439_443 := n15_; have NB443_439 := n16_; clear n0_ n1_ n2_ n3_ n4_ n5_ n6_ n7_ n8_ n9_ n10_ n11_ n12_ n13_ n14_ n15_ n16_; clear hb hbox hg; have hnb9 := NB443_436.out; have hnc9 := NB436_443.out; have hnb10 := NB443_437.out; have hnc10 := NB437_443.out; have hnb11 := NB443_438.out; have hnc11 := NB438_443.out; have hnb12 := NB443_439.out; have hnc12 := NB439_443.out; have hcz13_0 : w8.cell? ⟨gb443, 0, none⟩ = some (.slice none 0 0) := (blk_cell BK443.out 0).trans rfl; have hcz13_1 : w8.cell? ⟨gb443, 1, none⟩ = some (.slice none 0 0) := (blk_cell BK443.out 1).trans rfl; have hfz13_0 := blk_frozen BK443.out 0; have hfz13_1 := blk_frozen BK443.out 1))
 go_loopg [13] k (fun kq v13 w' => ∃ (x13_1 : Int) (x444001_1 : List Int) (u444001 : Value), v13 = .int .i64 x13_1 ∧ Aside0 (table_over_table_combine_1_table_Union_1.l0 kq l0 ji4 x13_1 l1_0 l1_1 l1_2 l1_3 t440 x444001_1 = some (r1, r2)) ∧ Aside0 (kq ≤ k) ∧ Aside0 (Kd.R (Kd.int .i64) 3 w' w.heap.size (fun k_ => some k_ ≠ (u444001 : Value).ownBlock) (.slice Ao7 t440.length co7) t440) ∧ Aside0 (Kd.R (Kd.int .i64) 3 w' w.heap.size (fun k_ => some k_ ≠ ((.slice Ao7 t440.length co7) : Value).ownBlock) u444001 x444001_1) ∧ Aside0 (w'.heap[gp1_0]? = some (.cells #[.func (.func 48) #[] #[]] 60 (0, 0))) ∧ Aside0 (w'.heap[gp1_1]? = some (.cells #[(.slice A1_0 l1_0.length c1_0), (.slice A1_1 l1_1.length c1_1)] 29 (0, 0))) ∧ Aside0 (w'.heap[gp1_2]? = some (.cells #[(.slice A1_2 l1_2.length c1_2), (.slice A1_3 l1_3.length c1_3)] 29 (0, 0))) ∧ Aside0 (w'.heap[gb439]? = some (.cells #[(.slice none 0 0), (.slice none 0 0)] 29 (0, 0))) ∧ Aside0 (w'.heap[gb443]? = some (.cells #[(.slice Ao7 t440.length co7), u444001] 29 (0, 0))) ∧ Aside0 (Below w.heap.size w w'))
 case atStart => exact ⟨(0), (([] : List Int)), (.slice none 0 0), zT, H', ⟨Nat.le_refl _⟩, ⟨by (with_reducible repeat (first | apply Kd.R_alloc | apply Kd.R_drewN | apply Kd.R_drew)); exact Kd.R_mono (Kd.R_far (p := ⟨gb443, 1, none⟩) (Kd.R_far (p := ⟨gb443, 0, none⟩) (Kd.R_types HO442.out BK443.out (by decide)) (fun _ hk => hk.2) (.slice Ao7 t440.length co7)) (fun _ hk => hk.2) (.slice none 0 0)) (fun _ hk => (by simp [Value.ownBlock]))⟩, ⟨by first | exact Kd.R_nil _ _ _ _ _ | exact Kd.N_nil _ _ _ _ _ | exact Kd.V_nil _ _ _ _ _ | exact Kd.Q_nil _ _ _ _ _ | exact Kd.S_nil _ _ _ _ _⟩, ⟨by (with_reducible repeat (first | refine blk_drewN ?_ _ | refine blk_drew ?_ | refine blk_alloc ?_ _)); refine blk_far ?_ NB436_443.out _; (with_reducible repeat (first | refine blk_drewN ?_ _ | refine blk_drew ?_ | refine blk_alloc ?_ _)); refine blk_far ?_ NB436_443.out _; (with_reducible repeat (first | refine blk_drewN ?_ _ | refine blk_drew ?_ | refine blk_alloc ?_ _)); exact BK436.out⟩, ⟨by (with_reducible repeat (first | refine blk_drewN ?_ _ | refine blk_drew ?_ | refine blk_alloc ?_ _)); refine blk_far ?_ NB437_443.out _; (with_reducible repeat (first | refine blk_drewN ?_ _ | refine blk_drew ?_ | refine blk_alloc ?_ _)); refine blk_far ?_ NB437_443.out _; (with_reducible repeat (first | refine blk_drewN ?_ _ | refine blk_drew ?_ | refine blk_alloc ?_ _)); exact BK437.out⟩, ⟨by (with_reducible repeat (first | refine blk_drewN ?_ _ | refine blk_drew ?_ | refine blk_alloc ?_ _)); refine blk_far ?_ NB438_443.out _; (with_reducible repeat (first | refine blk_drewN ?_ _ | refine blk_drew ?_ | refine blk_alloc ?_ _)); refine blk_far ?_ NB438_443.out _; (with_reducible repeat (first | refine blk_drewN ?_ _ | refine blk_drew ?_ | refine blk_alloc ?_ _)); exact BK438.out⟩, ⟨by (with_reducible repeat (first | refine blk_drewN ?_ _ | refine blk_drew ?_ | refine blk_alloc ?_ _)); refine blk_far ?_ NB439_443.out _; (with_reducible repeat (first | refine blk_drewN ?_ _ | refine blk_drew ?_ | refine blk_alloc ?_ _)); refine blk_far ?_ NB439_443.out _; (with_reducible repeat (first | refine blk_drewN ?_ _ | refine blk_drew ?_ | refine blk_alloc ?_ _)); exact BK439.out⟩, ⟨by (with_reducible repeat (first | refine blk_drewN ?_ _ | refine blk_drew ?_ | refine blk_alloc ?_ _)); refine blk_put (cs := #[.slice Ao7 t440.length co7, .slice none 0 0]) ?_ 1 _ rfl; (with_reducible repeat (first | refine blk_drewN ?_ _ | refine blk_drew ?_ | refine blk_alloc ?_ _)); refine blk_put (cs := #[.slice none 0 0, .slice none 0 0]) ?_ 0 _ rfl; (with_reducible repeat (first | refine blk_drewN ?_ _ | refine blk_drew ?_ | refine blk_alloc ?_ _)); exact BK443.out⟩, ⟨by repeat (first | (with_reducible first | exact HB.out | apply below_alloc | apply pw_below_drewN | apply below_drew1 | refine below_set ?_ GE436.out | refine below_set ?_ GE437.out | refine below_set ?_ GE438.out | refine below_set ?_ GE439.out | refine below_set ?_ GE443.out) | exact HB.out)⟩⟩
 case round =>
  clear H'
  try clear hcz13_0
  try clear hcz13_1
  try clear hfz13_0
  try clear hfz13_1
  obtain ⟨x13_1, x444001_1, u444001, rfl, HA, HK1, HO_444000, HO_444001, BK436, BK437, BK438, BK439, BK443, HB⟩ := hrel
  cases gk with
  | zero => exact absurd HA.out (by simp [table_over_table_combine_1_table_Union_1.l0])
  | succ k1 =>
   have H := HA.out
   clear HA
   simp only [table_over_table_combine_1_table_Union_1.l0] at H
   by_cases c14 : x13_1 < ji4
   ·rw [if_pos c14] at H
    have c14b0 : decide (x13_1 < ji4) = true := decide_eq_true c14
    clear c14
    replace H := Option.bind_eq_some_iff.mp H
    obtain ⟨t444, A150, H⟩ := H
    replace H : ((table_combine_1_table_Union_1.f k1 t444 l1_0 l1_1 l1_2 l1_3).bind fun t445 => (if t445 = true then (if x444001_1.length < 17592186044416 then (table_over_table_combine_1_table_Union_1.l0 k1 l0 ji4 (wrap64 (x13_1 + 1)) l1_0 l1_1 l1_2 l1_3 t440 (x444001_1 ++ [x13_1])) else (none)) else (table_over_table_combine_1_table_Union_1.l0 k1 l0 ji4 (wrap64 (x13_1 + 1)) l1_0 l1_1 l1_2 l1_3 t440 x444001_1))) = some (r1, r2) := H
    have A15 := Aside0.mk A150
    clear A150
    replace H := Option.bind_eq_some_iff.mp H
    obtain ⟨t445, A160, H⟩ := H
    replace H : (if t445 = true then (if x444001_1.length < 17592186044416 then (table_over_table_combine_1_table_Union_1.l0 k1 l0 ji4 (wrap64 (x13_1 + 1)) l1_0 l1_1 l1_2 l1_3 t440 (x444001_1 ++ [x13_1])) else (none)) else (table_over_table_combine_1_table_Union_1.l0 k1 l0 ji4 (wrap64 (x13_1 + 1)) l1_0 l1_1 l1_2 l1_3 t440 x444001_1)) = some (r1, r2) := H
    have A16 := Aside0.mk A160
    clear A160
    have HC17 := Aside0.mk H
    clear H
    go_upto_if 20 with (first | ((with_reducible refine gate_callee (f := 69) rfl ?_); refine goesL_ (some 19) rfl rfl Try.func69 zK rfl #[.slice A0 l0.length c0, .int .i64 x13_1] rfl zM ?_; (with_reducible refine (table_assignment.calls k1 _ _ l0 x13_1 t444 _ ?side1 ?side2 A15.out).mono ?_); (case side1 => repeat (first | exact (Kd.C_below HR0.out HB.out) | (with_reducible refine Kd.C_alloc ?_ _) | (with_reducible refine Kd.C_drewN ?_ _) | (with_reducible refine Kd.C_drew ?_))); (case side2 => exact HC0.out); rintro e w' ⟨rfl, ⟨nd, rfl⟩⟩; refine ⟨_, rfl, ?_⟩) | (go_at_call 73; (with_reducible refine (table_combine_1_table_Union_1.calls k1 t444 gp1_0 gp1_1 A1_0 c1_0 l1_0 A1_1 c1_1 l1_1 gp1_2 A1_2 c1_2 l1_2 A1_3 c1_3 l1_3 t445 _ ?side1 ?side2 ?side3 ?side4 ?side5 ?side6 ?side7 ?side8 ?side9 ?side10 ?side11 A16.out).mono ?_); (case side1 => (with_reducible repeat (first | refine blk_drewN ?_ _ | refine blk_drew ?_ | refine blk_alloc ?_ _)); exact BK436.out); (case side2 => repeat (first | exact (Kd.C_below HR1_0.out zB) | (with_reducible refine Kd.C_alloc ?_ _) | (with_reducible refine Kd.C_drewN ?_ _) | (with_reducible refine Kd.C_drew ?_))); (case side3 => exact HC1_0.out); (case side4 => repeat (first | exact (Kd.C_below HR1_1.out zB) | (with_reducible refine Kd.C_alloc ?_ _) | (with_reducible refine Kd.C_drewN ?_ _) | (with_reducible refine Kd.C_drew ?_))); (case side5 => exact HC1_1.out); (case side6 => (with_reducible repeat (first | refine blk_drewN ?_ _ | refine blk_drew ?_ | refine blk_alloc ?_ _)); exact BK437.out); (case side7 => repeat (first | exact (Kd.C_below HR1_2.out zB) | (with_reducible refine Kd.C_alloc ?_ _) | (with_reducible refine Kd.C_drewN ?_ _) | (with_reducible refine Kd.C_drew ?_))); (case side8 => exact HC1_2.out); (case side9 => repeat (first | exact (Kd.C_below HR1_3.out zB) | (with_reducible refine Kd.C_alloc ?_ _) | (with_reducible refine Kd.C_drewN ?_ _) | (with_reducible refine Kd.C_drew ?_))); (case side10 => exact HC1_3.out); (case side11 => (with_reducible repeat (first | refine blk_drewN ?_ _ | refine blk_drew ?_ | refine blk_alloc ?_ _)); exact BK438.out); rintro e w18 ⟨rfl, hb⟩; have n0_ := Aside0.mk (Kd.R_below (zR HO_444000) hb); have n1_ := Aside0.mk (Kd.R_below (zR HO_444001) hb); have n2_ := Aside0.mk (blk_below (g := gp1_0) (o := .cells #[.func (.func 48) #[] #[]] 60 (0, 0)) (zk BK436) hb); have n3_ := Aside0.mk (blk_below (g := gp1_1) (o := .cells #[.slice A1_0 l1_0.length c1_0, .slice A1_1 l1_1.length c1_1] 29 (0, 0)) (zk BK437) hb); have n4_ := Aside0.mk (blk_below (g := gp1_2) (o := .cells #[.slice A1_2 l1_2.length c1_2, .slice A1_3 l1_3.length c1_3] 29 (0, 0)) (zk BK438) hb); have n5_ := Aside0.mk (blk_below (g := gb439) (o := .cells #[.slice none 0 0, .slice none 0 0] 29 (0, 0)) (zk BK439) hb); have n6_ := Aside0.mk (blk_below (g := gb443) (o := .cells #[.slice Ao7 t440.length co7, u444001] 29 (0, 0)) (zk BK443) hb); have n7_ := Aside0.mk (below_step zB hb); clear HO_444000; clear HO_444001; clear BK436; clear BK437; clear BK438; clear BK439; clear BK443; clear HB; have HO_444000 := n0_; have HO_444001 := n1_; have BK436 := n2_; have BK437 := n3_; have BK438 := n4_; have BK439 := n5_; have BK443 := n6_; have HB := n7_; clear n0_ n1_ n2_ n3_ n4_ n5_ n6_ n7_; (try clear hb); (try clear hb2); (try clear hk); (try clear hi)))
    (try simp only [Act.put, List.setIfInBounds_toArray, List.set_cons_zero, List.set_cons_succ])
    have H := HC17.out
    clear HC17
    by_cases c19 : t445 = true
    ·subst c19
     have H1 : (if x444001_1.length < 17592186044416 then (table_over_table_combine_1_table_Union_1.l0 k1 l0 ji4 (wrap64 (x13_1 + 1)) l1_0 l1_1 l1_2 l1_3 t440 (x444001_1 ++ [x13_1])) else (none)) = some (r1, r2) := by rw [if_pos rfl] at H; exact H
     clear H
     have H := H1
     clear H1
     by_cases c20 : x444001_1.length < 17592186044416
     ·rw [if_pos c20] at H
      have LMc20 := Aside0.mk c20
      clear c20
      obtain ⟨y446, hy446⟩ : ∃ y_ : List Int, y_ = (x444001_1 ++ [x13_1]) := ⟨_, rfl⟩
      replace H : (table_over_table_combine_1_table_Union_1.l0 k1 l0 ji4 (wrap64 (x13_1 + 1)) l1_0 l1_1 l1_2 l1_3 t440 y446) = some (r1, r2) := by first | (rw [hy446]; with_reducible exact H) | (have H2_ := (Option.bind_some _ _).symm.trans H; rw [hy446]; with_reducible exact H2_) | (have H2_ := (Option.bind_some _ _).symm.trans H; with_reducible exact H2_) | with_reducible exact H | (rw [hy446]; exact H) | exact H
      have Ny446 := Aside0.mk hy446
      clear hy446
      have H' := Aside0.mk H
      clear H
      have hnb21 := NB443_436.out
      have hnc21 := NB436_443.out
      have hnb22 := NB443_437.out
      have hnc22 := NB437_443.out
      have hnb23 := NB443_438.out
      have hnc23 := NB438_443.out
      have hnb24 := NB443_439.out
      have hnc24 := NB439_443.out
      have hcz25_0 : w18.cell? ⟨gb443, 0, none⟩ = some (.slice Ao7 t440.length co7) := (blk_cell BK443.out 0).trans rfl
      have hcz25_1 : w18.cell? ⟨gb443, 1, none⟩ = some (u444001) := (blk_cell BK443.out 1).trans rfl
      have hfz25_0 := blk_frozen BK443.out 0
      have hfz25_1 := blk_frozen BK443.out 1
      go_wp2_with (first | ((with_reducible refine gate_builtin (b := .append) (xs := #[.tmp 22, .tmp 24]) rfl ?_); at_builtin; refine Kd.R_append (Kd.int .i64) (w0 := w) w.heap.size rfl (.tmp 22) (.tmp 24) 27 3 (.int .i64 0) 8 rfl Try.underlying27 info3 rfl (by decide) (by omega) u444001 x444001_1 x13_1 [.int .i64 x13_1] (fun k_ => some k_ ≠ (.slice Ao7 t440.length co7 : Value).ownBlock) (fun _ => False) rfl rfl ?aP (fun _ hk => hk.elim) ?aF ?aO ?aB ?aS ?aL ?_; (case aP => exact rfl); (case aB => exact zB); (case aF => exact (fun k_ hk => Kd.fresh' (Kd.R_lt (zR HO_444000)) k_ hk)); (case aO => exact (zR HO_444001)); (case aS => exact (below_size zB)); (case aL => have := LMc20.out; omega); intro v447 w26 ho hb hg hat; rw [← Ny446.out] at ho; have n0_ := Aside0.mk (Kd.R_after (ok := (fun _ => True)) (by (with_reducible repeat (first | apply Kd.R_alloc | apply Kd.R_drewN | apply Kd.R_drew)); exact Kd.R_mono HO_444000.out (fun _ hk => ⟨trivial, hk⟩)) hg hat); have n1_ := Aside0.mk (blk_grown (g := gp1_0) (o := .cells #[.func (.func 48) #[] #[]] 60 (0, 0)) (zk BK436) hg (Kd.R_ne HO_444001.out BK436.out (by decide))); have n2_ := Aside0.mk (blk_grown (g := gp1_1) (o := .cells #[.slice A1_0 l1_0.length c1_0, .slice A1_1 l1_1.length c1_1] 29 (0, 0)) (zk BK437) hg (Kd.R_ne HO_444001.out BK437.out (by decide))); have n3_ := Aside0.mk (blk_grown (g := gp1_2) (o := .cells #[.slice A1_2 l1_2.length c1_2, .slice A1_3 l1_3.length c1_3] 29 (0, 0)) (zk BK438) hg (Kd.R_ne HO_444001.out BK438.out (by decide))); have n4_ := Aside0.mk (blk_grown (g := gb439) (o := .cells #[.slice none 0 0, .slice none 0 0] 29 (0, 0)) (zk BK439) hg (Kd.R_ne HO_444001.out BK439.out (by decide))); have n5_ := Aside0.mk (blk_grown (g := gb443) (o := .cells #[.slice Ao7 t440.length co7, u444001] 29 (0, 0)) (zk BK443) hg (Kd.R_ne HO_444001.out BK443.out (by decide))); have n6_ := Aside0.mk (hb); have n7_ := Aside0.mk (ho); clear HO_444000; clear BK436; clear BK437; clear BK438; clear BK439; clear BK443; clear HB; clear HO_444001; have HO_444000 := n0_; have BK436 := n1_; have BK437 := n2_; have BK438 := n3_; have BK439 := n4_; have BK443 := n5_; have HB := n6_; have HO448 := n7_; clear n0_ n1_ n2_ n3_ n4_ n5_ n6_ n7_; clear ho hb hg hat; obtain ⟨Ao27, co27, eo27⟩ := Kd.R_slice HO448.out; subst eo27; have hcz28_0 : w26.cell? ⟨gb443, 0, none⟩ = some (.slice Ao7 t440.length co7) := (blk_cell BK443.out 0).trans rfl; have hcz28_1 : w26.cell? ⟨gb443, 1, none⟩ = some (u444001) := (blk_cell BK443.out 1).trans rfl; have hfz28_0 := blk_frozen BK443.out 0; have hfz28_1 := blk_frozen BK443.out 1))
      go_roundg k1
      case measure => have := HK1.out; omega
      case rel => exact ⟨(wrap64 (x13_1 + 1)), (y446), (.slice Ao27 y446.length co27), zT, H', ⟨by have := HK1.out; omega⟩, ⟨by (with_reducible repeat (first | apply Kd.R_alloc | apply Kd.R_drewN | apply Kd.R_drew)); exact Kd.R_mono (Kd.R_far (p := ⟨gb443, 1, none⟩) (Kd.R_types HO_444000.out BK443.out (by decide)) (fun _ hk => hk.2) (.slice Ao27 y446.length co27)) (fun _ hk => hk.1.2)⟩, ⟨by (with_reducible repeat (first | apply Kd.R_alloc | apply Kd.R_drewN | apply Kd.R_drew)); exact Kd.R_mono (Kd.R_far (p := ⟨gb443, 1, none⟩) (Kd.R_types HO448.out BK443.out (by decide)) (fun _ hk => hk.2) (.slice Ao27 y446.length co27)) (fun _ hk => hk.1)⟩, ⟨by (with_reducible repeat (first | refine blk_drewN ?_ _ | refine blk_drew ?_ | refine blk_alloc ?_ _)); refine blk_far ?_ NB436_443.out _; (with_reducible repeat (first | refine blk_drewN ?_ _ | refine blk_drew ?_ | refine blk_alloc ?_ _)); exact BK436.out⟩, ⟨by (with_reducible repeat (first | refine blk_drewN ?_ _ | refine blk_drew ?_ | refine blk_alloc ?_ _)); refine blk_far ?_ NB437_443.out _; (with_reducible repeat (first | refine blk_drewN ?_ _ | refine blk_drew ?_ | refine blk_alloc ?_ _)); exact BK437.out⟩, ⟨by (with_reducible repeat (first | refine blk_drewN ?_ _ | refine blk_drew ?_ | refine blk_alloc ?_ _)); refine blk_far ?_ NB438_443.out _; (with_reducible repeat (first | refine blk_drewN ?_ _ | refine blk_drew ?_ | refine blk_alloc ?_ _)); exact BK438.out⟩, ⟨by (with_reducible repeat (first | refine blk_drewN ?_ _ | refine blk_drew ?_ | refine blk_alloc ?_ _)); refine blk_far ?_ NB439_443.out _; (with_reducible repeat (first | refine blk_drewN ?_ _ | refine blk_drew ?_ | refine blk_alloc ?_ _)); exact BK439.out⟩, ⟨by (with_reducible repeat (first | refine blk_drewN ?_ _ | refine blk_drew ?_ | refine blk_alloc ?_ _)); refine blk_put (cs := #[.slice Ao7 t440.length co7, u444001]) ?_ 1 _ rfl; (with_reducible repeat (first | refine blk_drewN ?_ _ | refine blk_drew ?_ | refine blk_alloc ?_ _)); exact BK443.out⟩, ⟨by repeat (first | (with_reducible first | exact HB.out | apply below_alloc | apply pw_below_drewN | apply below_drew1 | refine below_set ?_ GE436.out | refine below_set ?_ GE437.out | refine below_set ?_ GE438.out | refine below_set ?_ GE439.out | refine below_set ?_ GE443.out) | exact HB.out)⟩⟩
     ·rw [if_neg c20] at H
      exact absurd H (by simp)
    ·replace c19 := Bool.eq_false_iff.mpr c19
     subst c19
     have H1 : (table_over_table_combine_1_table_Union_1.l0 k1 l0 ji4 (wrap64 (x13_1 + 1)) l1_0 l1_1 l1_2 l1_3 t440 x444001_1) = some (r1, r2) := by rw [if_neg (show ¬ (false = true) by decide)] at H; exact H
     clear H
     have H := H1
     clear H1
     have H' := Aside0.mk H
     clear H
     go_wp2
     go_roundg k1
     case measure => have := HK1.out; omega
     case rel => exact ⟨(wrap64 (x13_1 + 1)), (x444001_1), (u444001), zT, H', ⟨by have := HK1.out; omega⟩, ⟨by (with_reducible repeat (first | apply Kd.R_alloc | apply Kd.R_drewN | apply Kd.R_drew)); exact HO_444000.out⟩, ⟨by (with_reducible repeat (first | apply Kd.R_alloc | apply Kd.R_drewN | apply Kd.R_drew)); exact HO_444001.out⟩, ⟨by (with_reducible repeat (first | refine blk_drewN ?_ _ | refine blk_drew ?_ | refine blk_alloc ?_ _)); exact BK436.out⟩, ⟨by (with_reducible repeat (first | refine blk_drewN ?_ _ | refine blk_drew ?_ | refine blk_alloc ?_ _)); exact BK437.out⟩, ⟨by (with_reducible repeat (first | refine blk_drewN ?_ _ | refine blk_drew ?_ | refine blk_alloc ?_ _)); exact BK438.out⟩, ⟨by (with_reducible repeat (first | refine blk_drewN ?_ _ | refine blk_drew ?_ | refine blk_alloc ?_ _)); exact BK439.out⟩, ⟨by (with_reducible repeat (first | refine blk_drewN ?_ _ | refine blk_drew ?_ | refine blk_alloc ?_ _)); exact BK443.out⟩, ⟨by repeat (first | (with_reducible first | exact HB.out | apply below_alloc | apply pw_below_drewN | apply below_drew1 | refine below_set ?_ GE436.out | refine below_set ?_ GE437.out | refine below_set ?_ GE438.out | refine below_set ?_ GE439.out | refine below_set ?_ GE443.out) | exact HB.out)⟩⟩
   ·rw [if_neg c14] at H
    have c14b0 : decide (x13_1 < ji4) = false := decide_eq_false c14
    clear c14
    simp only [Option.some.injEq, Prod.mk.injEq] at H
    obtain ⟨rfl, rfl⟩ := H
    have hnb29 := NB443_436.out
    have hnc29 := NB436_443.out
    have hnb30 := NB443_437.out
    have hnc30 := NB437_443.out
    have hnb31 := NB443_438.out
    have hnc31 := NB438_443.out
    have hnb32 := NB443_439.out
    have hnc32 := NB439_443.out
    have hcz33_0 : wr.cell? ⟨gb443, 0, none⟩ = some (.slice Ao7 t440.length co7) := (blk_cell BK443.out 0).trans rfl
    have hcz33_1 : wr.cell? ⟨gb443, 1, none⟩ = some (u444001) := (blk_cell BK443.out 1).trans rfl
    have hfz33_0 := blk_frozen BK443.out 0
    have hfz33_1 := blk_frozen BK443.out 1
    have hnb34 := NB439_436.out
    have hnc34 := NB436_439.out
    have hnb35 := NB439_437.out
    have hnc35 := NB437_439.out
    have hnb36 := NB439_438.out
    have hnc36 := NB438_439.out
    have hcz37_0 : wr.cell? ⟨gb439, 0, none⟩ = some (.slice none 0 0) := (blk_cell BK439.out 0).trans rfl
    have hcz37_1 : wr.cell? ⟨gb439, 1, none⟩ = some (.slice none 0 0) := (blk_cell BK439.out 1).trans rfl
    have hfz37_0 := blk_frozen BK439.out 0
    have hfz37_1 := blk_frozen BK439.out 1
    obtain ⟨Ao38, co38, eo38⟩ := Kd.R_slice HO_444001.out
    subst eo38
    go_wp2
    refine bodyPost_ret (results_cell_row rfl _ _ gb439 29 #[.slice Ao7 t440.length co7, .slice Ao38 x444001_1.length co38] (0, 0) _ rfl (by (with_reducible repeat (first | refine blk_drewN ?_ _ | refine blk_drew ?_ | refine blk_alloc ?_ _)); refine blk_put (cs := #[.slice Ao7 t440.length co7, .slice none 0 0]) ?_ 1 _ rfl; (with_reducible repeat (first | refine blk_drewN ?_ _ | refine blk_drew ?_ | refine blk_alloc ?_ _)); refine blk_put (cs := #[.slice none 0 0, .slice none 0 0]) ?_ 0 _ rfl; (with_reducible repeat (first | refine blk_drewN ?_ _ | refine blk_drew ?_ | refine blk_alloc ?_ _)); exact BK439.out) Try.underlying29 rfl zK) rfl ?_
    exact ⟨_, _, by first | rfl | (simp [errW_none, errW_some] <;> rfl) | (simp only [← hji4]; first | rfl | (simp [errW_none, errW_some] <;> rfl)) | (simp [*, errW_none, errW_some] <;> rfl), by (with_reducible repeat (first | apply Kd.R_alloc | apply Kd.R_drewN | apply Kd.R_drew)); exact Kd.R_mono (Kd.R_far (p := ⟨gb439, 1, none⟩) (Kd.R_far (p := ⟨gb439, 0, none⟩) (Kd.R_types HO_444000.out BK439.out (by decide)) (fun _ hk => hk.2) (.slice Ao7 t440.length co7)) (fun _ hk => hk.2) (.slice Ao38 x444001_1.length co38)) (fun _ hk => hk.1), by (with_reducible repeat (first | apply Kd.R_alloc | apply Kd.R_drewN | apply Kd.R_drew)); exact Kd.R_mono (Kd.R_far (p := ⟨gb439, 1, none⟩) (Kd.R_far (p := ⟨gb439, 0, none⟩) (Kd.R_types HO_444001.out BK439.out (by decide)) (fun _ hk => hk.2) (.slice Ao7 t440.length co7)) (fun _ hk => hk.2) (.slice Ao38 x444001_1.length co38)) (fun _ hk => hk.1), by repeat (first | (with_reducible first | exact HB.out | apply below_alloc | apply pw_below_drewN | apply below_drew1 | refine below_set ?_ GE436.out | refine below_set ?_ GE437.out | refine below_set ?_ GE438.out | refine below_set ?_ GE439.out | refine below_set ?_ GE443.out) | exact HB.out)⟩
/-! ### table_combine_table_Union_1: function 2000046 -/
def table_combine_table_Union_1.f (k : Nat) (l0_0 : List Int) (l0_1 : List Int) (l1_0 : List Int) (l1_1 : List Int)  : Option (List Int × List Int × Int) := (table_Valid.f k l0_0 l0_1).bind fun t453 => (if t453 = 0 then ((table_Valid.f k l1_0 l1_1).bind fun t454 => (if t454 = 0 then ((table_all.f k l0_0 l1_0).bind fun t455 => (if (t455.length : Int) > 10 then (some (([] : List Int), ([] : List Int), 3)) else ((table_over_table_combine_1_table_Union_1.f k t455 l0_0 l0_1 l1_0 l1_1).bind fun bt458 => (some (bt458.1, bt458.2, 0))))) else (some (([] : List Int), ([] : List Int), t454)))) else (some (([] : List Int), ([] : List Int), t453)))
theorem table_combine_table_Union_1.mono : ∀ a0 a1 a2 a3 k, LeO (table_combine_table_Union_1.f k a0 a1 a2 a3) (table_combine_table_Union_1.f (k + 1) a0 a1 a2 a3) := by
 intro a0 a1 a2 a3 k
 unfold table_combine_table_Union_1.f
 repeat' first
   | (with_reducible exact table_Valid.mono _ _ _)
   | (with_reducible exact table_all.mono _ _ _)
   | (with_reducible exact table_over_table_combine_1_table_Union_1.mono _ _ _ _ _ _)
   | (with_reducible exact LeO.refl _)
   | (with_reducible exact LeO.none _)
   | (with_reducible refine LeO.ite ?_ ?_)
   | (with_reducible refine LeO.bind ?_ (fun _ => ?_))
   | exact table_Valid.mono _ _ _
   | exact table_all.mono _ _ _
   | exact table_over_table_combine_1_table_Union_1.mono _ _ _ _ _ _
   | exact LeO.none _
   | refine LeO.ite ?_ ?_
   | refine LeO.bind ?_ (fun _ => ?_)
set_option maxHeartbeats 8000000 in
set_option maxRecDepth 100000 in
theorem table_combine_table_Union_1.calls (k : Nat) (A0_0 : Option Addr) (c0_0 : Nat) (l0_0 : List Int) (A0_1 : Option Addr) (c0_1 : Nat) (l0_1 : List Int) (A1_0 : Option Addr) (c1_0 : Nat) (l1_0 : List Int) (A1_1 : Option Addr) (c1_1 : Nat) (l1_1 : List Int)  (r1 : List Int) (r2 : List Int) (r3 : Int) (w : World) (hr0_0 : Kd.C (Kd.int .i64) w A0_0 l0_0.length l0_0) (hc0_0 : l0_0.length ≤ c0_0) (hr0_1 : Kd.C (Kd.int .i64) w A0_1 l0_1.length l0_1) (hc0_1 : l0_1.length ≤ c0_1) (hr1_0 : Kd.C (Kd.int .i64) w A1_0 l1_0.length l1_0) (hc1_0 : l1_0.length ≤ c1_0) (hr1_1 : Kd.C (Kd.int .i64) w A1_1 l1_1.length l1_1) (hc1_1 : l1_1.length ≤ c1_1) (h : table_combine_table_Union_1.f k l0_0 l0_1 l1_0 l1_1 = some (r1, r2, r3)) :
  Calls Try.prog 46 #[.agg #[.slice A0_0 l0_0.length c0_0, .slice A0_1 l0_1.length c0_1], .agg #[.slice A1_0 l1_0.length c1_0, .slice A1_1 l1_1.length c1_1], .func (.func 48) #[] #[]] w fun e w' => ∃ v0_ v1_ : Value, e = .returned (.tuple #[.agg #[v0_, v1_], .int .i64 r3]) ∧ Kd.R (Kd.int .i64) 3 w' w.heap.size (fun k_ => some k_ ≠ (v1_ : Value).ownBlock) v0_ r1 ∧ Kd.R (Kd.int .i64) 3 w' w.heap.size (fun k_ => some k_ ≠ (v0_ : Value).ownBlock) v1_ r2 ∧ Below w.heap.size w w' := by
 have hu29 := Try.underlying29
 have hu60 := Try.underlying60
 have hu27 := Try.underlying27
 have HR0_0 := Aside0.mk hr0_0
 have HC0_0 := Aside0.mk hc0_0
 clear hr0_0 hc0_0
 have HR0_1 := Aside0.mk hr0_1
 have HC0_1 := Aside0.mk hc0_1
 clear hr0_1 hc0_1
 have HR1_0 := Aside0.mk hr1_0
 have HC1_0 := Aside0.mk hc1_0
 clear hr1_0 hc1_0
 have HR1_1 := Aside0.mk hr1_1
 have HC1_1 := Aside0.mk hc1_1
 clear hr1_1 hc1_1
 have HB := Aside0.mk (Below.refl w.heap.size w)
 have H : ((table_Valid.f k l0_0 l0_1).bind fun t453 => (if t453 = 0 then ((table_Valid.f k l1_0 l1_1).bind fun t454 => (if t454 = 0 then ((table_all.f k l0_0 l1_0).bind fun t455 => (if (t455.length : Int) > 10 then (some (([] : List Int), ([] : List Int), 3)) else ((table_over_table_combine_1_table_Union_1.f k t455 l0_0 l0_1 l1_0 l1_1).bind fun bt458 => (some (bt458.1, bt458.2, 0))))) else (some (([] : List Int), ([] : List Int), t454)))) else (some (([] : List Int), ([] : List Int), t453)))) = some (r1, r2, r3) := h
 clear h
 replace H := Option.bind_eq_some_iff.mp H
 obtain ⟨t453, A40, H⟩ := H
 replace H : (if t453 = 0 then ((table_Valid.f k l1_0 l1_1).bind fun t454 => (if t454 = 0 then ((table_all.f k l0_0 l1_0).bind fun t455 => (if (t455.length : Int) > 10 then (some (([] : List Int), ([] : List Int), 3)) else ((table_over_table_combine_1_table_Union_1.f k t455 l0_0 l0_1 l1_0 l1_1).bind fun bt458 => (some (bt458.1, bt458.2, 0))))) else (some (([] : List Int), ([] : List Int), t454)))) else (some (([] : List Int), ([] : List Int), t453))) = some (r1, r2, r3) := H
 have A4 := Aside0.mk A40
 clear A40
 have HC5 := Aside0.mk H
 clear H
 go_enter Try.func46, Try.ntmps46
 go_upto_if 14 with (first | ((with_reducible refine gate_dst (N := 3) rfl ?_); refine box_event ?hg (N := 3) ?hd (cs := #[.slice A0_0 l0_0.length c0_0, .slice A0_1 l0_1.length c0_1]) (t := 29) ?hr ?_; (case hd => rfl); (case hg => rfl); (case hr => first | (go_simp; done) | (go_simp; rfl)); intro gb449 hg w6 hbox hb; have n0_ := Aside0.mk (below_step zB hb); have n1_ := Aside0.mk (hbox); have n2_ := Aside0.mk ((by rw [hg]; exact (below_size zB) : w.heap.size ≤ gb449)); have n3_ := Aside0.mk ((by rw [hg]; exact (below_size zB) : w.heap.size ≤ gb449)); clear HB; have HB := n0_; have BK449 := n1_; have GW449 := n2_; have GE449 := n3_; clear n0_ n1_ n2_ n3_; clear hb hbox hg) | ((with_reducible refine gate_dst (N := 4) rfl ?_); refine box_event ?hg (N := 4) ?hd (cs := #[.slice A1_0 l1_0.length c1_0, .slice A1_1 l1_1.length c1_1]) (t := 29) ?hr ?_; (case hd => rfl); (case hg => rfl); (case hr => first | (go_simp; done) | (go_simp; rfl)); intro gb450 hg w7 hbox hb; have n0_ := Aside0.mk (blk_below (g := gb449) (o := .cells #[.slice A0_0 l0_0.length c0_0, .slice A0_1 l0_1.length c0_1] 29 (0, 0)) (zk BK449) hb); have n1_ := Aside0.mk (below_step zB hb); have n2_ := Aside0.mk (hbox); have n3_ := Aside0.mk ((by rw [hg]; exact (below_size zB) : w.heap.size ≤ gb450)); have n4_ := Aside0.mk ((by rw [hg]; exact (below_size zB) : w.heap.size ≤ gb450)); have n5_ := Aside0.mk ((by rw [hg]; exact Nat.ne_of_lt (blk_lt (g := gb449) (o := .cells #[.slice A0_0 l0_0.length c0_0, .slice A0_1 l0_1.length c0_1] 29 (0, 0)) (zk BK449)) : gb449 ≠ gb450)); have n6_ := Aside0.mk ((by rw [hg]; exact Nat.ne_of_gt (blk_lt (g := gb449) (o := .cells #[.slice A0_0 l0_0.length c0_0, .slice A0_1 l0_1.length c0_1] 29 (0, 0)) (zk BK449)) : gb450 ≠ gb449)); clear BK449; clear HB; have BK449 := n0_; have HB := n1_; have BK450 := n2_; have GW450 := n3_; have GE450 := n4_; have NB449_450 := n5_; have NB450_449 := n6_; clear n0_ n1_ n2_ n3_ n4_ n5_ n6_; clear hb hbox hg) | ((with_reducible refine gate_dst (N := 5) rfl ?_); refine box_event ?hg (N := 5) ?hd (cs := #[.func (.func 48) #[] #[]]) (t := 60) ?hr ?_; (case hd => rfl); (case hg => rfl); (case hr => first | (go_simp; done) | (go_simp; rfl)); intro gb451 hg w8 hbox hb; have n0_ := Aside0.mk (blk_below (g := gb449) (o := .cells #[.slice A0_0 l0_0.length c0_0, .slice A0_1 l0_1.length c0_1] 29 (0, 0)) (zk BK449) hb); have n1_ := Aside0.mk (blk_below (g := gb450) (o := .cells #[.slice A1_0 l1_0.length c1_0, .slice A1_1 l1_1.length c1_1] 29 (0, 0)) (zk BK450) hb); have n2_ := Aside0.mk (below_step zB hb); have n3_ := Aside0.mk (hbox); have n4_ := Aside0.mk ((by rw [hg]; exact (below_size zB) : w.heap.size ≤ gb451)); have n5_ := Aside0.mk ((by rw [hg]; exact (below_size zB) : w.heap.size ≤ gb451)); have n6_ := Aside0.mk ((by rw [hg]; exact Nat.ne_of_lt (blk_lt (g := gb449) (o := .cells #[.slice A0_0 l0_0.length c0_0, .slice A0_1 l0_1.length c0_1] 29 (0, 0)) (zk BK449)) : gb449 ≠ gb451)); have n7_ := Aside0.mk ((by rw [hg]; exact Nat.ne_of_gt (blk_lt (g := gb449) (o := .cells #[.slice A0_0 l0_0.length c0_0, .slice A0_1 l0_1.length c0_1] 29 (0, 0)) (zk BK449)) : gb451 ≠ gb449)); have n8_ := Aside0.mk ((by rw [hg]; exact Nat.ne_of_lt (blk_lt (g := gb450) (o := .cells #[.slice A1_0 l1_0.length c1_0, .slice A1_1 l1_1.length c1_1] 29 (0, 0)) (zk BK450)) : gb450 ≠ gb451)); have n9_ := Aside0.mk ((by rw [hg]; exact Nat.ne_of_gt (blk_lt (g := gb450) (o := .cells #[.slice A1_0 l1_0.length c1_0, .slice A1_1 l1_1.length c1_1] 29 (0, 0)) (zk BK450)) : gb451 ≠ gb450)); clear BK449; clear BK450; clear HB; have BK449 := n0_; have BK450 := n1_; have HB := n2_; have BK451 := n3_; have GW451 := n4_; have GE451 := n5_; have NB449_451 := n6_; have NB451_449 := n7_; have NB450_451 := n8_; have NB451_450 := n9_; clear n0_ n1_ n2_ n3_ n4_ n5_ n6_ n7_ n8_ n9_; clear hb hbox hg) | ((with_reducible refine gate_dst (N := 6) rfl ?_); refine box_event ?hg (N := 6) ?hd (cs := #[.slice none 0 0, .slice none 0 0]) (t := 29) ?hr ?_; (case hd => rfl); (case hg => rfl); (case hr => first | (go_simp; done) | (go_simp; rfl)); intro gb452 hg w9 hbox hb; have n0_ := Aside0.mk (blk_below (g := gb449) (o := .cells #[.slice A0_0 l0_0.length c0_0, .slice A0_1 l0_1.length c0_1] 29 (0, 0)) (zk BK449) hb); have n1_ := Aside0.mk (blk_below (g := gb450) (o := .cells #[.slice A1_0 l1_0.length c1_0, .slice A1_1 l1_1.length c1_1] 29 (0, 0)) (zk BK450) hb); have n2_ := Aside0.mk (blk_below (g := gb451) (o := .cells #[.func (.func 48) #[] #[]] 60 (0, 0)) (zk BK451) hb); have n3_ := Aside0.mk (below_step zB hb); have n4_ := Aside0.mk (hbox); have n5_ := Aside0.mk ((by rw [hg]; exact (below_size zB) : w.heap.size ≤ gb452)); have n6_ := Aside0.mk ((by rw [hg]; exact (below_size zB) : w.heap.size ≤ gb452)); have n7_ := Aside0.mk ((by rw [hg]; exact Nat.ne_of_lt (blk_lt (g := gb449) (o := .cells #[.slice A0_0 l0_0.length c0_0, .slice A0_1 l0_1.length c0_1] 29 (0, 0)) (zk BK449)) : gb449 ≠ gb452)); have n8_ := Aside0.mk ((by rw [hg]; exact Nat.ne_of_gt (blk_lt (g := gb449) (o := .cells #[.slice A0_0 l0_0.length c0_0, .slice A0_1 l0_1.length c0_1] 29 (0, 0)) (zk BK449)) : gb452 ≠ gb449)); have n9_ := Aside0.mk ((by rw [hg]; exact Nat.ne_of_lt (blk_lt (g := gb450) (o := .cells #[.slice A1_0 l1_0.length c1_0, .slice A1_1 l1_1.length c1_1] 29 (0, 0)) (zk BK450)) : gb450 ≠ gb452)); have n10_ := Aside0.mk ((by rw [hg]; exact Nat.ne_of_gt (blk_lt (g := gb450) (o := .cells #[.slice A1_0 l1_0.length c1_0, .slice A1_1 l1_1.length c1_1] 29 (0, 0)) (zk BK450)) : gb452 ≠ gb450)); have n11_ := Aside0.mk ((by rw [hg]; exact Nat.ne_of_lt (blk_lt (g := gb451) (o := .cells #[.func (.func 48) #[] #[]] 60 (0, 0)) (zk BK451)) : gb451 ≠ gb452)); have n12_ := Aside0.mk ((by rw [hg]; exact Nat.ne_of_gt (blk_lt (g := gb451) (o := .cells #[.func (.func 48) #[] #[]] 60 (0, 0)) (zk BK451)) : gb452 ≠ gb451)); clear BK449; clear BK450; clear BK451; clear HB; have BK449 := n0_; have BK450 := n1_; have BK451 := n2_; have HB := n3_; have BK452 := n4_; have GW452 := n5_; have GE452 := n6_; have NB449_452 := n7_; have NB452_449 := n8_; have NB450_452 := n9_; have NB452_450 := n10_; have NB451_452 := n11_; have NB452_451 := n12_; clear n0_ n1_ n2_ n3_ n4_ n5_ n6_ n7_ n8_ n9_ n10_ n11_ n12_; clear hb hbox hg; have hnb10 := NB449_450.out; have hnc10 := NB450_449.out; have hnb11 := NB449_451.out; have hnc11 := NB451_449.out; have hnb12 := NB449_452.out; have hnc12 := NB452_449.out; have hcz13_0 : w9.cell? ⟨gb449, 0, none⟩ = some (.slice A0_0 l0_0.length c0_0) := (blk_cell BK449.out 0).trans rfl; have hcz13_1 : w9.cell? ⟨gb449, 1, none⟩ = some (.slice A0_1 l0_1.length c0_1) := (blk_cell BK449.out 1).trans rfl; have hfz13_0 := blk_frozen BK449.out 0; have hfz13_1 := blk_frozen BK449.out 1) | ((with_reducible refine gate_callee (f := 25) rfl ?_); refine goesL_ (some 12) rfl rfl Try.func25 zK rfl #[.agg #[.slice A0_0 l0_0.length c0_0, .slice A0_1 l0_1.length c0_1]] rfl zM ?_; (with_reducible refine (table_Valid.calls k _ _ l0_0 _ _ l0_1 t453 _ ?side1 ?side2 ?side3 ?side4 A4.out).mono ?_); (case side1 => repeat (first | exact (Kd.C_below HR0_0.out HB.out) | (with_reducible refine Kd.C_alloc ?_ _) | (with_reducible refine Kd.C_drewN ?_ _) | (with_reducible refine Kd.C_drew ?_))); (case side2 => exact HC0_0.out); (case side3 => repeat (first | exact (Kd.C_below HR0_1.out HB.out) | (with_reducible refine Kd.C_alloc ?_ _) | (with_reducible refine Kd.C_drewN ?_ _) | (with_reducible refine Kd.C_drew ?_))); (case side4 => exact HC0_1.out); rintro e w14 ⟨rfl, hb⟩; refine ⟨_, rfl, ?_⟩; have n0_ := Aside0.mk (blk_below (g := gb449) (o := .cells #[.slice A0_0 l0_0.length c0_0, .slice A0_1 l0_1.length c0_1] 29 (0, 0)) (zk BK449) hb); have n1_ := Aside0.mk (blk_below (g := gb450) (o := .cells #[.slice A1_0 l1_0.length c1_0, .slice A1_1 l1_1.length c1_1] 29 (0, 0)) (zk BK450) hb); have n2_ := Aside0.mk (blk_below (g := gb451) (o := .cells #[.func (.func 48) #[] #[]] 60 (0, 0)) (zk BK451) hb); have n3_ := Aside0.mk (blk_below (g := gb452) (o := .cells #[.slice none 0 0, .slice none 0 0] 29 (0, 0)) (zk BK452) hb); have n4_ := Aside0.mk (below_step zB hb); clear BK449; clear BK450; clear BK451; clear BK452; clear HB; have BK449 := n0_; have BK450 := n1_; have BK451 := n2_; have BK452 := n3_; have HB := n4_; clear n0_ n1_ n2_ n3_ n4_; (try clear hb); (try clear hb2); (try clear hk); (try clear hi)))
 (try simp only [Act.put, List.setIfInBounds_toArray, List.set_cons_zero, List.set_cons_succ])
 have H := HC5.out
 clear HC5
 by_cases c15 : t453 = 0
 ·rw [if_pos c15] at H
  have c15b0 : (t453 == 0) = true := beq_iff_eq.mpr c15
  have c15b1 : (t453 != 0) = false := bne_eq_false_iff_eq.mpr c15
  clear c15
  (first | rw [c15b0] | (simp only [i64_w, i32_w]; rw [c15b0]) | skip)
  (try rw [c15b1])
  replace H := Option.bind_eq_some_iff.mp H
  obtain ⟨t454, A160, H⟩ := H
  replace H : (if t454 = 0 then ((table_all.f k l0_0 l1_0).bind fun t455 => (if (t455.length : Int) > 10 then (some (([] : List Int), ([] : List Int), 3)) else ((table_over_table_combine_1_table_Union_1.f k t455 l0_0 l0_1 l1_0 l1_1).bind fun bt458 => (some (bt458.1, bt458.2, 0))))) else (some (([] : List Int), ([] : List Int), t454))) = some (r1, r2, r3) := H
  have A16 := Aside0.mk A160
  clear A160
  have HC17 := Aside0.mk H
  clear H
  have hnb18 := NB450_449.out
  have hnc18 := NB449_450.out
  have hnb19 := NB450_451.out
  have hnc19 := NB451_450.out
  have hnb20 := NB450_452.out
  have hnc20 := NB452_450.out
  have hcz21_0 : w14.cell? ⟨gb450, 0, none⟩ = some (.slice A1_0 l1_0.length c1_0) := (blk_cell BK450.out 0).trans rfl
  have hcz21_1 : w14.cell? ⟨gb450, 1, none⟩ = some (.slice A1_1 l1_1.length c1_1) := (blk_cell BK450.out 1).trans rfl
  have hfz21_0 := blk_frozen BK450.out 0
  have hfz21_1 := blk_frozen BK450.out 1
  go_upto_if 20 with (first | ((with_reducible refine gate_callee (f := 25) rfl ?_); refine goesL_ (some 18) rfl rfl Try.func25 zK rfl #[.agg #[.slice A1_0 l1_0.length c1_0, .slice A1_1 l1_1.length c1_1]] rfl zM ?_; (with_reducible refine (table_Valid.calls k _ _ l1_0 _ _ l1_1 t454 _ ?side1 ?side2 ?side3 ?side4 A16.out).mono ?_); (case side1 => repeat (first | exact (Kd.C_below HR1_0.out HB.out) | (with_reducible refine Kd.C_alloc ?_ _) | (with_reducible refine Kd.C_drewN ?_ _) | (with_reducible refine Kd.C_drew ?_))); (case side2 => exact HC1_0.out); (case side3 => repeat (first | exact (Kd.C_below HR1_1.out HB.out) | (with_reducible refine Kd.C_alloc ?_ _) | (with_reducible refine Kd.C_drewN ?_ _) | (with_reducible refine Kd.C_drew ?_))); (case side4 => exact HC1_1.out); rintro e w22 ⟨rfl, hb⟩; refine ⟨_, rfl, ?_⟩; have n0_ := Aside0.mk (blk_below (g := gb449) (o := .cells #[.slice A0_0 l0_0.length c0_0, .slice A0_1 l0_1.length c0_1] 29 (0, 0)) (zk BK449) hb); have n1_ := Aside0.mk (blk_below (g := gb450) (o := .cells #[.slice A1_0 l1_0.length c1_0, .slice A1_1 l1_1.length c1_1] 29 (0, 0)) (zk BK450) hb); have n2_ := Aside0.mk (blk_below (g := gb451) (o := .cells #[.func (.func 48) #[] #[]] 60 (0, 0)) (zk BK451) hb); have n3_ := Aside0.mk (blk_below (g := gb452) (o := .cells #[.slice none 0 0, .slice none 0 0] 29 (0, 0)) (zk BK452) hb); have n4_ := Aside0.mk (below_step zB hb); clear BK449; clear BK450; clear BK451; clear BK452; clear HB; have BK449 := n0_; have BK450 := n1_; have BK451 := n2_; have BK452 := n3_; have HB := n4_; clear n0_ n1_ n2_ n3_ n4_; (try clear hb); (try clear hb2); (try clear hk); (try clear hi)))
  (try simp only [Act.put, List.setIfInBounds_toArray, List.set_cons_zero, List.set_cons_succ])
  have H := HC17.out
  clear HC17
  by_cases c23 : t454 = 0
  ·rw [if_pos c23] at H
   have c23b0 : (t454 == 0) = true := beq_iff_eq.mpr c23
   have c23b1 : (t454 != 0) = false := bne_eq_false_iff_eq.mpr c23
   clear c23
   (first | rw [c23b0] | (simp only [i64_w, i32_w]; rw [c23b0]) | skip)
   (try rw [c23b1])
   replace H := Option.bind_eq_some_iff.mp H
   obtain ⟨t455, A240, H⟩ := H
   replace H : (if (t455.length : Int) > 10 then (some (([] : List Int), ([] : List Int), 3)) else ((table_over_table_combine_1_table_Union_1.f k t455 l0_0 l0_1 l1_0 l1_1).bind fun bt458 => (some (bt458.1, bt458.2, 0)))) = some (r1, r2, r3) := H
   have A24 := Aside0.mk A240
   clear A240
   have HC25 := Aside0.mk H
   clear H
   have hnb26 := NB449_450.out
   have hnc26 := NB450_449.out
   have hnb27 := NB449_451.out
   have hnc27 := NB451_449.out
   have hnb28 := NB449_452.out
   have hnc28 := NB452_449.out
   have hcz29_0 : w22.cell? ⟨gb449, 0, none⟩ = some (.slice A0_0 l0_0.length c0_0) := (blk_cell BK449.out 0).trans rfl
   have hcz29_1 : w22.cell? ⟨gb449, 1, none⟩ = some (.slice A0_1 l0_1.length c0_1) := (blk_cell BK449.out 1).trans rfl
   have hfz29_0 := blk_frozen BK449.out 0
   have hfz29_1 := blk_frozen BK449.out 1
   have hnb30 := NB450_451.out
   have hnc30 := NB451_450.out
   have hnb31 := NB450_452.out
   have hnc31 := NB452_450.out
   have hcz32_0 : w22.cell? ⟨gb450, 0, none⟩ = some (.slice A1_0 l1_0.length c1_0) := (blk_cell BK450.out 0).trans rfl
   have hcz32_1 : w22.cell? ⟨gb450, 1, none⟩ = some (.slice A1_1 l1_1.length c1_1) := (blk_cell BK450.out 1).trans rfl
   have hfz32_0 := blk_frozen BK450.out 0
   have hfz32_1 := blk_frozen BK450.out 1
   go_upto_if 30 with (first | ((with_reducible refine gate_callee (f := 64) rfl ?_); refine goesL_ (some 27) rfl rfl Try.func64 zK rfl #[.slice A0_0 l0_0.length c0_0, .slice A1_0 l1_0.length c1_0] rfl zM ?_; (with_reducible refine (table_all.calls k (fun k_ => k_ < w.heap.size) _ _ l0_0 (fun k_ => k_ < w.heap.size) _ _ l1_0 t455 _ ?side1 ?side2 A24.out).mono ?_); (case side1 => exact Kd.V_mk HC0_0.out (Kd.F_below (Kd.C_F (Kd.heap_int .i64) HR0_0.out) zB)); (case side2 => exact Kd.V_mk HC1_0.out (Kd.F_below (Kd.C_F (Kd.heap_int .i64) HR1_0.out) zB)); rintro e w33 ⟨v456, rfl, ho0, hb⟩; refine ⟨_, rfl, ?_⟩; have n0_ := Aside0.mk (Kd.R_lower (Kd.R_mono (ok' := fun k_ => True) ho0 (fun _ hk_ => trivial)) (below_size zB)); have n1_ := Aside0.mk (blk_below (g := gb449) (o := .cells #[.slice A0_0 l0_0.length c0_0, .slice A0_1 l0_1.length c0_1] 29 (0, 0)) (zk BK449) hb); have n2_ := Aside0.mk (blk_below (g := gb450) (o := .cells #[.slice A1_0 l1_0.length c1_0, .slice A1_1 l1_1.length c1_1] 29 (0, 0)) (zk BK450) hb); have n3_ := Aside0.mk (blk_below (g := gb451) (o := .cells #[.func (.func 48) #[] #[]] 60 (0, 0)) (zk BK451) hb); have n4_ := Aside0.mk (blk_below (g := gb452) (o := .cells #[.slice none 0 0, .slice none 0 0] 29 (0, 0)) (zk BK452) hb); have n5_ := Aside0.mk (below_step zB hb); clear BK449; clear BK450; clear BK451; clear BK452; clear HB; have HO457 := n0_; have BK449 := n1_; have BK450 := n2_; have BK451 := n3_; have BK452 := n4_; have HB := n5_; clear n0_ n1_ n2_ n3_ n4_ n5_; (try clear hb); (try clear hb2); (try clear hk); (try clear hi); (try clear ho0); obtain ⟨Ao34, co34, eo34⟩ := Kd.R_slice HO457.out; subst eo34))
   (try simp only [Act.put, List.setIfInBounds_toArray, List.set_cons_zero, List.set_cons_succ])
   have H := HC25.out
   clear HC25
   by_cases c35 : (t455.length : Int) > 10
   ·rw [if_pos c35] at H
    have c35b0 : decide (10 < (t455.length : Int)) = true := decide_eq_true c35
    have c35b1 : decide (10 < t455.length) = true := decide_eq_true (by omega)
    clear c35
    (first | rw [c35b0] | (simp only [i64_w, i32_w]; rw [c35b0]) | skip)
    (try rw [c35b1])
    simp only [Option.some.injEq, Prod.mk.injEq] at H
    obtain ⟨rfl, rfl, rfl⟩ := H
    have hnb36 := NB452_449.out
    have hnc36 := NB449_452.out
    have hnb37 := NB452_450.out
    have hnc37 := NB450_452.out
    have hnb38 := NB452_451.out
    have hnc38 := NB451_452.out
    have hcz39_0 : w33.cell? ⟨gb452, 0, none⟩ = some (.slice none 0 0) := (blk_cell BK452.out 0).trans rfl
    have hcz39_1 : w33.cell? ⟨gb452, 1, none⟩ = some (.slice none 0 0) := (blk_cell BK452.out 1).trans rfl
    have hfz39_0 := blk_frozen BK452.out 0
    have hfz39_1 := blk_frozen BK452.out 1
    go_wp2
    refine bodyPost_ret (results_ct rfl _ _ gb452 29 #[.slice none 0 0, .slice none 0 0] (0, 0) _ rfl (by (with_reducible repeat (first | refine blk_drewN ?_ _ | refine blk_drew ?_ | refine blk_alloc ?_ _)); refine blk_put (cs := #[.slice none 0 0, .slice none 0 0]) ?_ 1 _ rfl; (with_reducible repeat (first | refine blk_drewN ?_ _ | refine blk_drew ?_ | refine blk_alloc ?_ _)); refine blk_put (cs := #[.slice none 0 0, .slice none 0 0]) ?_ 0 _ rfl; (with_reducible repeat (first | refine blk_drewN ?_ _ | refine blk_drew ?_ | refine blk_alloc ?_ _)); exact BK452.out) Try.underlying29 rfl zK) rfl ?_
    exact ⟨_, _, by first | rfl | (simp [errW_none, errW_some] <;> rfl) | (simp [*, errW_none, errW_some] <;> rfl), by first | exact Kd.R_nil _ _ _ _ _ | exact Kd.N_nil _ _ _ _ _ | exact Kd.V_nil _ _ _ _ _ | exact Kd.Q_nil _ _ _ _ _ | exact Kd.S_nil _ _ _ _ _, by first | exact Kd.R_nil _ _ _ _ _ | exact Kd.N_nil _ _ _ _ _ | exact Kd.V_nil _ _ _ _ _ | exact Kd.Q_nil _ _ _ _ _ | exact Kd.S_nil _ _ _ _ _, by repeat (first | (with_reducible first | exact HB.out | apply below_alloc | apply pw_below_drewN | apply below_drew1 | refine below_set ?_ GE449.out | refine below_set ?_ GE450.out | refine below_set ?_ GE451.out | refine below_set ?_ GE452.out) | exact HB.out)⟩
   ·rw [if_neg c35] at H
    have c35b0 : decide (10 < (t455.length : Int)) = false := decide_eq_false c35
    have c35b1 : decide (10 < t455.length) = false := decide_eq_false (by omega)
    clear c35
    (first | rw [c35b0] | (simp only [i64_w, i32_w]; rw [c35b0]) | skip)
    (try rw [c35b1])
    replace H := Option.bind_eq_some_iff.mp H
    obtain ⟨⟨t458, t461⟩, A400, H⟩ := H
    replace H : (some (t458, t461, 0)) = some (r1, r2, r3) := H
    have A40 := Aside0.mk A400
    clear A400
    simp only [Option.some.injEq, Prod.mk.injEq] at H
    obtain ⟨rfl, rfl, rfl⟩ := H
    go_wp2_with (first | ((with_reducible refine gate_callee (f := 59) rfl ?_); refine goesL_ (some 34) rfl rfl Try.func59 zK rfl #[.slice Ao34 t455.length co34, .func (.func 73) #[] #[.pointer (some ⟨gb451, 0, none⟩), .pointer (some ⟨gb449, 0, none⟩), .pointer (some ⟨gb450, 0, none⟩)]] rfl zM ?_; (with_reducible refine (table_over_table_combine_1_table_Union_1.calls k _ _ t455 gb451 gb449 gb450 A0_0 c0_0 l0_0 A0_1 c0_1 l0_1 A1_0 c1_0 l1_0 A1_1 c1_1 l1_1 t458 t461 _ ?side1 ?side2 ?side3 ?side4 ?side5 ?side6 ?side7 ?side8 ?side9 ?side10 ?side11 ?side12 ?side13 A40.out).mono ?_); (case side1 => repeat (first | exact (Kd.R_reads' HO457.out).2.2 | (with_reducible refine Kd.C_alloc ?_ _) | (with_reducible refine Kd.C_drewN ?_ _) | (with_reducible refine Kd.C_drew ?_))); (case side2 => exact (Kd.R_reads' HO457.out).2.1); (case side3 => repeat (first | exact (Kd.C_below HR0_0.out HB.out) | (with_reducible refine Kd.C_alloc ?_ _) | (with_reducible refine Kd.C_drewN ?_ _) | (with_reducible refine Kd.C_drew ?_))); (case side4 => exact HC0_0.out); (case side5 => repeat (first | exact (Kd.C_below HR0_1.out HB.out) | (with_reducible refine Kd.C_alloc ?_ _) | (with_reducible refine Kd.C_drewN ?_ _) | (with_reducible refine Kd.C_drew ?_))); (case side6 => exact HC0_1.out); (case side7 => repeat (first | exact (Kd.C_below HR1_0.out HB.out) | (with_reducible refine Kd.C_alloc ?_ _) | (with_reducible refine Kd.C_drewN ?_ _) | (with_reducible refine Kd.C_drew ?_))); (case side8 => exact HC1_0.out); (case side9 => repeat (first | exact (Kd.C_below HR1_1.out HB.out) | (with_reducible refine Kd.C_alloc ?_ _) | (with_reducible refine Kd.C_drewN ?_ _) | (with_reducible refine Kd.C_drew ?_))); (case side10 => exact HC1_1.out); (case side11 => (with_reducible repeat (first | refine blk_drewN ?_ _ | refine blk_drew ?_ | refine blk_alloc ?_ _)); exact BK451.out); (case side12 => (with_reducible repeat (first | refine blk_drewN ?_ _ | refine blk_drew ?_ | refine blk_alloc ?_ _)); exact BK449.out); (case side13 => (with_reducible repeat (first | refine blk_drewN ?_ _ | refine blk_drew ?_ | refine blk_alloc ?_ _)); exact BK450.out); rintro e w41 ⟨v459, v462, rfl, ho0, ho1, hb⟩; refine ⟨_, rfl, ?_⟩; have n0_ := Aside0.mk (Kd.R_mono (Kd.R_told (Kd.R_told (Kd.R_old (zR HO457) hb) (Kd.R_base ho0)) (Kd.R_base ho1)) (fun _ h_ => h_.1)); have n1_ := Aside0.mk (Kd.R_lower (Kd.R_new' ho0 (Kd.R_lt (zR HO457))) (below_size zB)); have n2_ := Aside0.mk (Kd.R_lower (Kd.R_new' ho1 (Kd.R_lt (zR HO457))) (below_size zB)); have n3_ := Aside0.mk (blk_below (g := gb449) (o := .cells #[.slice A0_0 l0_0.length c0_0, .slice A0_1 l0_1.length c0_1] 29 (0, 0)) (zk BK449) hb); have n4_ := Aside0.mk (blk_below (g := gb450) (o := .cells #[.slice A1_0 l1_0.length c1_0, .slice A1_1 l1_1.length c1_1] 29 (0, 0)) (zk BK450) hb); have n5_ := Aside0.mk (blk_below (g := gb451) (o := .cells #[.func (.func 48) #[] #[]] 60 (0, 0)) (zk BK451) hb); have n6_ := Aside0.mk (blk_below (g := gb452) (o := .cells #[.slice none 0 0, .slice none 0 0] 29 (0, 0)) (zk BK452) hb); have n7_ := Aside0.mk (below_step zB hb); clear HO457; clear BK449; clear BK450; clear BK451; clear BK452; clear HB; have HO457 := n0_; have HO460 := n1_; have HO463 := n2_; have BK449 := n3_; have BK450 := n4_; have BK451 := n5_; have BK452 := n6_; have HB := n7_; clear n0_ n1_ n2_ n3_ n4_ n5_ n6_ n7_; (try clear hb); (try clear hb2); (try clear hk); (try clear hi); (try clear ho0); (try clear ho1); obtain ⟨Ao42, co42, eo42⟩ := Kd.R_slice HO460.out; subst eo42; have hnb43 := NB452_449.out; have hnc43 := NB449_452.out; have hnb44 := NB452_450.out; have hnc44 := NB450_452.out; have hnb45 := NB452_451.out; have hnc45 := NB451_452.out; have hcz46_0 : w41.cell? ⟨gb452, 0, none⟩ = some (.slice none 0 0) := (blk_cell BK452.out 0).trans rfl; have hcz46_1 : w41.cell? ⟨gb452, 1, none⟩ = some (.slice none 0 0) := (blk_cell BK452.out 1).trans rfl; have hfz46_0 := blk_frozen BK452.out 0; have hfz46_1 := blk_frozen BK452.out 1; obtain ⟨Ao47, co47, eo47⟩ := Kd.R_slice HO463.out; subst eo47))
    refine bodyPost_ret (results_ct rfl _ _ gb452 29 #[.slice Ao42 t458.length co42, .slice Ao47 t461.length co47] (0, 0) _ rfl (by (with_reducible repeat (first | refine blk_drewN ?_ _ | refine blk_drew ?_ | refine blk_alloc ?_ _)); refine blk_put (cs := #[.slice Ao42 t458.length co42, .slice none 0 0]) ?_ 1 _ rfl; (with_reducible repeat (first | refine blk_drewN ?_ _ | refine blk_drew ?_ | refine blk_alloc ?_ _)); refine blk_put (cs := #[.slice none 0 0, .slice none 0 0]) ?_ 0 _ rfl; (with_reducible repeat (first | refine blk_drewN ?_ _ | refine blk_drew ?_ | refine blk_alloc ?_ _)); exact BK452.out) Try.underlying29 rfl zK) rfl ?_
    exact ⟨_, _, by first | rfl | (simp [errW_none, errW_some] <;> rfl) | (simp [*, errW_none, errW_some] <;> rfl), by (with_reducible repeat (first | apply Kd.R_alloc | apply Kd.R_drewN | apply Kd.R_drew)); exact Kd.R_mono (Kd.R_far (p := ⟨gb452, 1, none⟩) (Kd.R_far (p := ⟨gb452, 0, none⟩) (Kd.R_types HO460.out BK452.out (by decide)) (fun _ hk => hk.2) (.slice Ao42 t458.length co42)) (fun _ hk => hk.2) (.slice Ao47 t461.length co47)) (fun _ hk => hk.1.1), by (with_reducible repeat (first | apply Kd.R_alloc | apply Kd.R_drewN | apply Kd.R_drew)); exact Kd.R_mono (Kd.R_far (p := ⟨gb452, 1, none⟩) (Kd.R_far (p := ⟨gb452, 0, none⟩) (Kd.R_types HO463.out BK452.out (by decide)) (fun _ hk => hk.2) (.slice Ao42 t458.length co42)) (fun _ hk => hk.2) (.slice Ao47 t461.length co47)) (fun _ hk => hk.1.1), by repeat (first | (with_reducible first | exact HB.out | apply below_alloc | apply pw_below_drewN | apply below_drew1 | refine below_set ?_ GE449.out | refine below_set ?_ GE450.out | refine below_set ?_ GE451.out | refine below_set ?_ GE452.out) | exact HB.out)⟩
  ·rw [if_neg c23] at H
   have c23b0 : (t454 == 0) = false := beq_eq_false_iff_ne.mpr c23
   have c23b1 : (t454 != 0) = true := bne_iff_ne.mpr c23
   (first | rw [c23b0] | (simp only [i64_w, i32_w]; rw [c23b0]) | skip)
   (try rw [c23b1])
   simp only [Option.some.injEq, Prod.mk.injEq] at H
   obtain ⟨rfl, rfl, rfl⟩ := H
   have hnb48 := NB452_449.out
   have hnc48 := NB449_452.out
   have hnb49 := NB452_450.out
   have hnc49 := NB450_452.out
   have hnb50 := NB452_451.out
   have hnc50 := NB451_452.out
   have hcz51_0 : w22.cell? ⟨gb452, 0, none⟩ = some (.slice none 0 0) := (blk_cell BK452.out 0).trans rfl
   have hcz51_1 : w22.cell? ⟨gb452, 1, none⟩ = some (.slice none 0 0) := (blk_cell BK452.out 1).trans rfl
   have hfz51_0 := blk_frozen BK452.out 0
   have hfz51_1 := blk_frozen BK452.out 1
   go_wp2
   refine bodyPost_ret (results_ct rfl _ _ gb452 29 #[.slice none 0 0, .slice none 0 0] (0, 0) _ rfl (by (with_reducible repeat (first | refine blk_drewN ?_ _ | refine blk_drew ?_ | refine blk_alloc ?_ _)); refine blk_put (cs := #[.slice none 0 0, .slice none 0 0]) ?_ 1 _ rfl; (with_reducible repeat (first | refine blk_drewN ?_ _ | refine blk_drew ?_ | refine blk_alloc ?_ _)); refine blk_put (cs := #[.slice none 0 0, .slice none 0 0]) ?_ 0 _ rfl; (with_reducible repeat (first | refine blk_drewN ?_ _ | refine blk_drew ?_ | refine blk_alloc ?_ _)); exact BK452.out) Try.underlying29 rfl zK) rfl ?_
   exact ⟨_, _, by first | rfl | (simp [errW_none, errW_some] <;> rfl) | (simp [*, errW_none, errW_some] <;> rfl), by first | exact Kd.R_nil _ _ _ _ _ | exact Kd.N_nil _ _ _ _ _ | exact Kd.V_nil _ _ _ _ _ | exact Kd.Q_nil _ _ _ _ _ | exact Kd.S_nil _ _ _ _ _, by first | exact Kd.R_nil _ _ _ _ _ | exact Kd.N_nil _ _ _ _ _ | exact Kd.V_nil _ _ _ _ _ | exact Kd.Q_nil _ _ _ _ _ | exact Kd.S_nil _ _ _ _ _, by repeat (first | (with_reducible first | exact HB.out | apply below_alloc | apply pw_below_drewN | apply below_drew1 | refine below_set ?_ GE449.out | refine below_set ?_ GE450.out | refine below_set ?_ GE451.out | refine below_set ?_ GE452.out) | exact HB.out)⟩
 ·rw [if_neg c15] at H
  have c15b0 : (t453 == 0) = false := beq_eq_false_iff_ne.mpr c15
  have c15b1 : (t453 != 0) = true := bne_iff_ne.mpr c15
  (first | rw [c15b0] | (simp only [i64_w, i32_w]; rw [c15b0]) | skip)
  (try rw [c15b1])
  simp only [Option.some.injEq, Prod.mk.injEq] at H
  obtain ⟨rfl, rfl, rfl⟩ := H
  have hnb52 := NB452_449.out
  have hnc52 := NB449_452.out
  have hnb53 := NB452_450.out
  have hnc53 := NB450_452.out
  have hnb54 := NB452_451.out
  have hnc54 := NB451_452.out
  have hcz55_0 : w14.cell? ⟨gb452, 0, none⟩ = some (.slice none 0 0) := (blk_cell BK452.out 0).trans rfl
  have hcz55_1 : w14.cell? ⟨gb452, 1, none⟩ = some (.slice none 0 0) := (blk_cell BK452.out 1).trans rfl
  have hfz55_0 := blk_frozen BK452.out 0
  have hfz55_1 := blk_frozen BK452.out 1
  go_wp2
  refine bodyPost_ret (results_ct rfl _ _ gb452 29 #[.slice none 0 0, .slice none 0 0] (0, 0) _ rfl (by (with_reducible repeat (first | refine blk_drewN ?_ _ | refine blk_drew ?_ | refine blk_alloc ?_ _)); refine blk_put (cs := #[.slice none 0 0, .slice none 0 0]) ?_ 1 _ rfl; (with_reducible repeat (first | refine blk_drewN ?_ _ | refine blk_drew ?_ | refine blk_alloc ?_ _)); refine blk_put (cs := #[.slice none 0 0, .slice none 0 0]) ?_ 0 _ rfl; (with_reducible repeat (first | refine blk_drewN ?_ _ | refine blk_drew ?_ | refine blk_alloc ?_ _)); exact BK452.out) Try.underlying29 rfl zK) rfl ?_
  exact ⟨_, _, by first | rfl | (simp [errW_none, errW_some] <;> rfl) | (simp [*, errW_none, errW_some] <;> rfl), by first | exact Kd.R_nil _ _ _ _ _ | exact Kd.N_nil _ _ _ _ _ | exact Kd.V_nil _ _ _ _ _ | exact Kd.Q_nil _ _ _ _ _ | exact Kd.S_nil _ _ _ _ _, by first | exact Kd.R_nil _ _ _ _ _ | exact Kd.N_nil _ _ _ _ _ | exact Kd.V_nil _ _ _ _ _ | exact Kd.Q_nil _ _ _ _ _ | exact Kd.S_nil _ _ _ _ _, by repeat (first | (with_reducible first | exact HB.out | apply below_alloc | apply pw_below_drewN | apply below_drew1 | refine below_set ?_ GE449.out | refine below_set ?_ GE450.out | refine below_set ?_ GE451.out | refine below_set ?_ GE452.out) | exact HB.out)⟩
end Go.Proofs.Ythcfmdkhkikbcaa.D
