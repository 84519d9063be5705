-- Written by wip/tools/myprint.py, a program of this session's.
import Derived.Test.YtbagnalcabdlhaaS0
import Derived.Test.YtbagnalcabdlhaaS18
namespace Go.Proofs.Ytbagnalcabdlhaa.S
open Go.RowKit Go.Proofs.YtbagnalcabdlhaaW.PrintWords Go.Proofs.YtbagnalcabdlhaaW.PrintLast Go.Proofs.YtbagnalcabdlhaaW.PrintMore
attribute [local go_sem] max2_int min2_int max_two min_two max_three min_three max_four min_four   -- for this text's walks alone
set_option linter.unusedVariables false
set_option linter.unusedSimpArgs false
/-! ### ancepsref40_below: function 55 -/
mutual
def ancepsref40_below.j0 : Nat → List (S61) → List (S35) → Int → List Bool → Bool → Int → Int → Option (Bool × List Bool)
 | 0, _, _, _, _, _, _, _ => none
 | k + 1, x0, x1, x2, x4, x25, x581000, x581001 => if x25 = true then (some (false, x4)) else (if 0 ≤ x2 then (if x2 < (x4.length : Int) then ((some (x4.set (x2 : Int).toNat true : List Bool)).bind fun y582 => (if x2 < (x1.length : Int) then (if ((rd_T35 x1 x2).f0) = (-1) then (if ((rd_T35 x1 x2).f1) = 0 then (if ((rd_T35 x1 x2).f2) = 0 then (if ((rd_T35 x1 x2).f3) ≥ 0 then (if ((rd_T35 x1 x2).f3) < (x0.length : Int) then (if 0 ≤ ((rd_T35 x1 x2).f3) then ((ancepsref40_fails.f k ((rd_T61 x0 ((rd_T35 x1 x2).f3)).f0) ((rd_T61 x0 ((rd_T35 x1 x2).f3)).f1) x581000 x581001).bind fun t586 => (some (t586, y582))) else (none)) else (some (false, y582))) else (some (false, y582))) else (some (false, y582))) else (some (false, y582))) else (if ((rd_T35 x1 x2).f0) < 0 then (ancepsref40_below.j1 k x0 x1 y582 true x581000 x581001 ((rd_T35 x1 x2).f0) ((rd_T35 x1 x2).f1) ((rd_T35 x1 x2).f2) ((rd_T35 x1 x2).f3)) else (if ((rd_T35 x1 x2).f0) > 23 then (ancepsref40_below.j1 k x0 x1 y582 true x581000 x581001 ((rd_T35 x1 x2).f0) ((rd_T35 x1 x2).f1) ((rd_T35 x1 x2).f2) ((rd_T35 x1 x2).f3)) else (if ((rd_T35 x1 x2).f3) = 0 then (if ((rd_T35 x1 x2).f1) ≤ x2 then (ancepsref40_below.j1 k x0 x1 y582 true x581000 x581001 ((rd_T35 x1 x2).f0) ((rd_T35 x1 x2).f1) ((rd_T35 x1 x2).f2) ((rd_T35 x1 x2).f3)) else (if ((rd_T35 x1 x2).f2) ≤ x2 then (ancepsref40_below.j1 k x0 x1 y582 true x581000 x581001 ((rd_T35 x1 x2).f0) ((rd_T35 x1 x2).f1) ((rd_T35 x1 x2).f2) ((rd_T35 x1 x2).f3)) else (if 0 ≤ ((rd_T35 x1 x2).f0) then (ancepsref40_below.j1 k x0 x1 y582 ((Go.bits .and .i64 (shr .i64 x581000 ((rd_T35 x1 x2).f0)) 1) == 1) x581000 x581001 ((rd_T35 x1 x2).f0) ((rd_T35 x1 x2).f1) ((rd_T35 x1 x2).f2) ((rd_T35 x1 x2).f3)) else (none)))) else (ancepsref40_below.j1 k x0 x1 y582 true x581000 x581001 ((rd_T35 x1 x2).f0) ((rd_T35 x1 x2).f1) ((rd_T35 x1 x2).f2) ((rd_T35 x1 x2).f3)))))) else (none))) else (none)) else (none))
def ancepsref40_below.j1 : Nat → List (S61) → List (S35) → List Bool → Bool → Int → Int → Int → Int → Int → Int → Option (Bool × List Bool)
 | 0, _, _, _, _, _, _, _, _, _, _ => none
 | k + 1, x0, x1, x4, x98, x581000, x581001, x585000, x585001, x585002, x585003 => if x98 = true then (some (false, x4)) else ((ancepsref40_choices_with.f x581000 x581001 x585000 0).bind fun bt587 => ((ancepsref40_below.f k x0 x1 x585001 bt587.1 bt587.2 x4).bind fun bt589 => (if bt589.1 = true then ((ancepsref40_choices_with.f x581000 x581001 x585000 1).bind fun bt591 => ((ancepsref40_below.f k x0 x1 x585002 bt591.1 bt591.2 bt589.2).bind fun bt593 => (some (bt593.1, bt593.2)))) else (some (false, bt589.2)))))
def ancepsref40_below.f : Nat → List (S61) → List (S35) → Int → Int → Int → List Bool → Option (Bool × List Bool)
 | 0, _, _, _, _, _, _ => none
 | k + 1, l0, l1, a2, a3_0, a3_1, l4 => if a2 < 0 then (ancepsref40_below.j0 k l0 l1 a2 l4 true a3_0 a3_1) else (if a2 ≥ (l1.length : Int) then (ancepsref40_below.j0 k l0 l1 a2 l4 true a3_0 a3_1) else (if 0 ≤ a2 then (if a2 < (l4.length : Int) then (ancepsref40_below.j0 k l0 l1 a2 l4 (rdOf false l4 a2) a3_0 a3_1) else (none)) else (none)))
end
theorem ancepsref40_below.mono_l : ∀ k, (∀ y0 y1 y2 y3 y4 y5, LeO (ancepsref40_below.f k y0 y1 y2 y3 y4 y5) (ancepsref40_below.f (k + 1) y0 y1 y2 y3 y4 y5)) ∧ (∀ y0 y1 y2 y3 y4 y5 y6, LeO (ancepsref40_below.j0 k y0 y1 y2 y3 y4 y5 y6) (ancepsref40_below.j0 (k + 1) y0 y1 y2 y3 y4 y5 y6)) ∧ (∀ y0 y1 y2 y3 y4 y5 y6 y7 y8 y9, LeO (ancepsref40_below.j1 k y0 y1 y2 y3 y4 y5 y6 y7 y8 y9) (ancepsref40_below.j1 (k + 1) y0 y1 y2 y3 y4 y5 y6 y7 y8 y9))
 | 0 => ⟨fun _ _ _ _ _ _ r h => by simp [ancepsref40_below.f] at h, fun _ _ _ _ _ _ _ r h => by simp [ancepsref40_below.j0] at h, fun _ _ _ _ _ _ _ _ _ _ r h => by simp [ancepsref40_below.j1] at h⟩
 | k + 1 => by
  obtain ⟨ih0, ih1, ih2⟩ := ancepsref40_below.mono_l k
  refine ⟨?_, ?_, ?_⟩
  ·intro y0 y1 y2 y3 y4 y5
   unfold ancepsref40_below.f
   repeat' first
   | (with_reducible exact ih0 _ _ _ _ _ _)
   | (with_reducible exact ih1 _ _ _ _ _ _ _)
   | (with_reducible exact ih2 _ _ _ _ _ _ _ _ _ _)
   | (with_reducible exact ancepsref40_fails.mono _ _ _ _ _)
   | (with_reducible exact LeO.refl _)
   | (with_reducible exact LeO.none _)
   | (with_reducible refine LeO.ite ?_ ?_)
   | (with_reducible refine LeO.bind ?_ (fun _ => ?_))
   | exact ih0 _ _ _ _ _ _
   | exact ih1 _ _ _ _ _ _ _
   | exact ih2 _ _ _ _ _ _ _ _ _ _
   | exact ancepsref40_fails.mono _ _ _ _ _
   | exact LeO.none _
   | refine LeO.ite ?_ ?_
   | refine LeO.bind ?_ (fun _ => ?_)
  ·intro y0 y1 y2 y3 y4 y5 y6
   unfold ancepsref40_below.j0
   repeat' first
   | (with_reducible exact ih0 _ _ _ _ _ _)
   | (with_reducible exact ih1 _ _ _ _ _ _ _)
   | (with_reducible exact ih2 _ _ _ _ _ _ _ _ _ _)
   | (with_reducible exact ancepsref40_fails.mono _ _ _ _ _)
   | (with_reducible exact LeO.refl _)
   | (with_reducible exact LeO.none _)
   | (with_reducible refine LeO.ite ?_ ?_)
   | (with_reducible refine LeO.bind ?_ (fun _ => ?_))
   | exact ih0 _ _ _ _ _ _
   | exact ih1 _ _ _ _ _ _ _
   | exact ih2 _ _ _ _ _ _ _ _ _ _
   | exact ancepsref40_fails.mono _ _ _ _ _
   | exact LeO.none _
   | refine LeO.ite ?_ ?_
   | refine LeO.bind ?_ (fun _ => ?_)
  ·intro y0 y1 y2 y3 y4 y5 y6 y7 y8 y9
   unfold ancepsref40_below.j1
   repeat' first
   | (with_reducible exact ih0 _ _ _ _ _ _)
   | (with_reducible exact ih1 _ _ _ _ _ _ _)
   | (with_reducible exact ih2 _ _ _ _ _ _ _ _ _ _)
   | (with_reducible exact ancepsref40_fails.mono _ _ _ _ _)
   | (with_reducible exact LeO.refl _)
   | (with_reducible exact LeO.none _)
   | (with_reducible refine LeO.ite ?_ ?_)
   | (with_reducible refine LeO.bind ?_ (fun _ => ?_))
   | exact ih0 _ _ _ _ _ _
   | exact ih1 _ _ _ _ _ _ _
   | exact ih2 _ _ _ _ _ _ _ _ _ _
   | exact ancepsref40_fails.mono _ _ _ _ _
   | exact LeO.none _
   | refine LeO.ite ?_ ?_
   | refine LeO.bind ?_ (fun _ => ?_)
theorem ancepsref40_below.mono : ∀ a0 a1 a2 a3 a4 a5 k, LeO (ancepsref40_below.f k a0 a1 a2 a3 a4 a5) (ancepsref40_below.f (k + 1) a0 a1 a2 a3 a4 a5) := by
 intro a0 a1 a2 a3 a4 a5 k
 obtain ⟨ih0, ih1, ih2⟩ := ancepsref40_below.mono_l k
 exact ih0 a0 a1 a2 a3 a4 a5
def ancepsref40_below.T6 : Bool × List (List Nat × List Nat) := (true, [([], []), ([0], [0]), ([1], [1]), ([2], [2]), ([3], [3]), ([4, 3], [3, 4]), ([5, 3], [3, 5]), ([3, 6], [3, 6]), ([7, 3], [7]), ([8], [8]), ([9, 8], [8, 9]), ([10, 8], [8, 10]), ([8, 11], [8, 11]), ([12, 8], [12]), ([13], [13]), ([14, 13], [13, 14]), ([13], [13]), ([16, 13], [13, 16]), ([15, 17, 13], [13, 15, 17]), ([13, 18], [13, 18]), ([19, 13], [19]), ([20], [20]), ([20], [20]), ([22, 20], [20, 22]), ([21, 23, 20], [20, 21, 23]), ([24, 20], [20, 24]), ([20], [20]), ([25, 26, 20, 20], [20, 25, 26]), ([20, 27], [20, 27]), ([28, 27, 0, 1, 2, 3, 4, 5, 6, 7, 8, 9, 10, 11, 12, 13, 14, 15, 16, 17, 18, 19, 20, 21, 22, 23, 24, 25, 26, 27, 28], [28])])
def ancepsref40_below.B6 : List Nat := [0, 1, 3, 7, 15, 31, 63, 127, 255, 511, 1023, 2047, 4095, 8191, 16383, 32767, 16383, 81919, 262143, 524287, 1048575, 2097151, 2097151, 6291455, 16777215, 33554431, 2097151, 134217727, 268435455, 536870911]
theorem ancepsref40_below.tab6 : rtab .any (opsOf Try.f55 6) = ancepsref40_below.T6 := by kernel_rfl
theorem ancepsref40_below.bits6 : waitsOk ancepsref40_below.T6.2 ancepsref40_below.B6 = true := by kernel_rfl
def ancepsref40_below.T9 : Bool × List (List Nat × List Nat) := (true, [([], []), ([], []), ([], []), ([2], [2]), ([], []), ([], []), ([5], [5]), ([4, 6], [4, 6]), ([], []), ([0, 1, 3, 7, 8, 7], [0, 1, 3, 7, 8]), ([9, 9], [9]), ([10], [10]), ([10], [10]), ([10], [10]), ([13, 10], [10, 13]), ([10], [10]), ([10], [10]), ([16, 10], [10, 16]), ([15, 17, 10, 10], [10, 15, 17]), ([10], [10]), ([11, 12, 14, 18, 19, 18, 10], [10, 11, 12, 14, 18, 19]), ([10, 20], [10, 20]), ([21, 20, 0, 1, 2, 3, 4, 5, 6, 7, 8, 9, 10, 11, 12, 13, 14, 15, 16, 17, 18, 19, 20, 21], [21])])
def ancepsref40_below.B9 : List Nat := [0, 0, 0, 4, 0, 0, 32, 112, 0, 511, 1023, 2047, 2047, 2047, 10239, 2047, 2047, 67583, 231423, 2047, 1048575, 2097151, 4194303]
theorem ancepsref40_below.tab9 : rtab .any (opsOf Try.f55 9) = ancepsref40_below.T9 := by kernel_rfl
theorem ancepsref40_below.bits9 : waitsOk ancepsref40_below.T9.2 ancepsref40_below.B9 = true := by kernel_rfl
set_option maxHeartbeats 8000000 in
set_option maxRecDepth 100000 in
theorem ancepsref40_below.calls (k : Nat) : ∀ (A0 : Option Addr) (c0 : Nat) (l0 : List (S61)) (A1 : Option Addr) (c1 : Nat) (l1 : List (S35)) (a2 : Int) (a3_0 : Int) (a3_1 : Int) (P4_ : Nat → Prop) (u9000_ : Value) (l4 : List Bool) (r1 : Bool) (r2 : List Bool) (w0 w : World) (hB : Below w0.heap.size w0 w) (hr0 : ∀ W_, Kept w W_ (fun k_ => P4_ k_) → Kd.C k61 W_ A0 l0.length l0) (hc0 : l0.length ≤ c0) (hr1 : ∀ W_, Kept w W_ (fun k_ => P4_ k_) → Kd.C k35 W_ A1 l1.length l1) (hc1 : l1.length ≤ c1) (ho4 : Kd.R Kd.bool 4 w w0.heap.size P4_ u9000_ l4) (h : ancepsref40_below.f k l0 l1 a2 a3_0 a3_1 l4 = some (r1, r2)),
  Calls Try.prog 55 #[.slice A0 l0.length c0, .slice A1 l1.length c1, .int .i64 a2, .agg #[.int .i64 a3_0, .int .i64 a3_1], u9000_] w fun e w' => e = .returned (.bool r1) ∧ Kd.R Kd.bool 4 w' w0.heap.size (fun k_ => (P4_ k_ ∨ w.heap.size ≤ k_)) u9000_ r2 ∧ Below w0.heap.size w0 w' ∧ Kept w w' (fun k_ => P4_ k_) := by
 induction k using Nat.strongRecOn with
 | _ k ih =>
 intro A0 c0 l0 A1 c1 l1 a2 a3_0 a3_1 P4_ u9000_ l4 r1 r2 w0 w hB hr0 hc0 hr1 hc1 ho4 h
 cases k with
 | zero => exact absurd h (by simp [ancepsref40_below.f])
 | succ k =>
 simp only [ancepsref40_below.f] at h
 have hu74 := Try.underlying74
 have hu4 := Try.underlying4
 have hu35 := Try.underlying35
 have hu3 := Try.underlying3
 have hu61 := Try.underlying61
 have HR0 := Aside0.mk hr0
 have HC0 := Aside0.mk hc0
 clear hr0 hc0
 have HR1 := Aside0.mk hr1
 have HC1 := Aside0.mk hc1
 clear hr1 hc1
 have HO4 := Aside0.mk (show Kd.R Kd.bool 4 w w0.heap.size (fun k_ => (P4_ k_ ∨ w.heap.size ≤ k_)) u9000_ l4 from Kd.R_mono ho4 (fun k_ hk => (.inl hk)))
 have HK := Aside0.mk (Kept.refl w (fun k_ => P4_ k_))
 have HW0 := Aside0.mk hB.size
 have HB := Aside0.mk hB
 clear hB
 have H : (if a2 < 0 then (ancepsref40_below.j0 k l0 l1 a2 l4 true a3_0 a3_1) else (if a2 ≥ (l1.length : Int) then (ancepsref40_below.j0 k l0 l1 a2 l4 true a3_0 a3_1) else (if 0 ≤ a2 then (if a2 < (l4.length : Int) then (ancepsref40_below.j0 k l0 l1 a2 l4 (rdOf false l4 a2) a3_0 a3_1) else (none)) else (none)))) = some (r1, r2) := h
 clear h
 have HC6 := Aside0.mk H
 clear H
 go_enter Try.func55, Try.ntmps55
 go_upto_region 1 with (first | ((with_reducible refine gate_dst (N := 8) rfl ?_); (try (refine gate_guard (by rfl) ?_; dsimp only)); refine box_event ?hg (N := 8) ?hd (cs := #[.int .i64 a3_0, .int .i64 a3_1]) (t := 74) ?hr ?_; (case hd => rfl); (case hg => rfl); (case hr => first | (go_simp; done) | (go_simp; rfl)); intro gb580 hg w7 hbox hb; have n0_ := Aside0.mk (Kd.R_below (zR HO4) hb); have n1_ := Aside0.mk (Kept.below (S := (fun k_ => P4_ k_)) (by repeat (first | (with_reducible first | exact HK.out | apply Kept.alloc | apply Kept.drewN | apply Kept.drew) | exact HK.out)) hb); have n2_ := Aside0.mk (below_step zB hb); have n3_ := Aside0.mk (hbox); have n4_ := Aside0.mk ((by rw [hg]; exact (by first | exact HK.out.1 | exact (show Kept w _ (fun k_ => P4_ k_) from by repeat (first | (with_reducible first | exact HK.out | apply Kept.alloc | apply Kept.drewN | apply Kept.drew) | exact HK.out)).1) : w.heap.size ≤ gb580)); have n5_ := Aside0.mk ((by rw [hg]; exact (below_size zB) : w0.heap.size ≤ gb580)); clear HO4; clear HK; clear HB; have HO4 := n0_; have HK := n1_; have HB := n2_; have BK580 := n3_; have GW580 := n4_; have GE580 := n5_; clear n0_ n1_ n2_ n3_ n4_ n5_; clear hb hbox hg))
 (try simp only [Act.put, List.setIfInBounds_toArray, List.set_cons_zero, List.set_cons_succ])
 go_cut [25] (fun v25 wc => ∃ (kq : Nat) (x25_5 : Bool), v25 = .bool x25_5 ∧ Aside0 (ancepsref40_below.j0 kq l0 l1 a2 l4 x25_5 a3_0 a3_1 = some (r1, r2)) ∧ Aside0 (kq ≤ k) ∧ Aside0 (Kd.R Kd.bool 4 wc w0.heap.size (fun k_ => (P4_ k_ ∨ w.heap.size ≤ k_)) u9000_ l4) ∧ Aside0 (wc.heap[gb580]? = some (.cells #[.int .i64 a3_0, .int .i64 a3_1] 74 (0, 0))) ∧ Aside0 (Kept w wc (fun k_ => P4_ k_)) ∧ Aside0 (Below w0.heap.size w0 wc))
 case first =>
  have H := HC6.out
  clear HC6
  by_cases c8 : a2 < 0
  ·rw [if_pos c8] at H
   have c8b0 : decide (a2 < 0) = true := decide_eq_true c8
   clear c8
   (first | rw [c8b0] | (simp only [i64_w, i32_w]; rw [c8b0]) | skip)
   have H' := Aside0.mk H
   clear H
   go_wp2
   go_meet
   case rel => exact ⟨_, (true), zT, H', ⟨by first | omega | exact Nat.le_refl _⟩, ⟨by (with_reducible repeat (first | apply Kd.R_alloc | apply Kd.R_drewN | apply Kd.R_drew)); exact HO4.out⟩, ⟨by (with_reducible repeat (first | refine blk_drewN ?_ _ | refine blk_drew ?_ | refine blk_alloc ?_ _)); exact BK580.out⟩, ⟨by repeat (first | (with_reducible first | exact HK.out | apply Kept.alloc | apply Kept.drewN | apply Kept.drew | refine Kept.setCell ?_ (.inr GW580.out) _) | exact HK.out)⟩, ⟨by repeat (first | (with_reducible first | exact HB.out | apply below_alloc | apply pw_below_drewN | apply below_drew1 | refine below_set ?_ GE580.out) | exact HB.out)⟩⟩
  ·rw [if_neg c8] at H
   have c8b0 : decide (a2 < 0) = false := decide_eq_false c8
   clear c8
   (first | rw [c8b0] | (simp only [i64_w, i32_w]; rw [c8b0]) | skip)
   by_cases c9 : a2 ≥ (l1.length : Int)
   ·rw [if_pos c9] at H
    have c9b0 : decide ((l1.length : Int) ≤ a2) = true := decide_eq_true c9
    clear c9
    have H' := Aside0.mk H
    clear H
    go_wp2
    go_meet
    case rel => exact ⟨_, (true), zT, H', ⟨by first | omega | exact Nat.le_refl _⟩, ⟨by (with_reducible repeat (first | apply Kd.R_alloc | apply Kd.R_drewN | apply Kd.R_drew)); exact HO4.out⟩, ⟨by (with_reducible repeat (first | refine blk_drewN ?_ _ | refine blk_drew ?_ | refine blk_alloc ?_ _)); exact BK580.out⟩, ⟨by repeat (first | (with_reducible first | exact HK.out | apply Kept.alloc | apply Kept.drewN | apply Kept.drew | refine Kept.setCell ?_ (.inr GW580.out) _) | exact HK.out)⟩, ⟨by repeat (first | (with_reducible first | exact HB.out | apply below_alloc | apply pw_below_drewN | apply below_drew1 | refine below_set ?_ GE580.out) | exact HB.out)⟩⟩
   ·rw [if_neg c9] at H
    have c9b0 : decide ((l1.length : Int) ≤ a2) = false := decide_eq_false c9
    clear c9
    by_cases c10 : 0 ≤ a2
    ·rw [if_pos c10] at H
     have c10b0 : decide (0 ≤ a2) = true := decide_eq_true c10
     clear c10
     by_cases c11 : a2 < (l4.length : Int)
     ·rw [if_pos c11] at H
      have c11b0 : decide (a2 < (l4.length : Int)) = true := decide_eq_true c11
      clear c11
      have H' := Aside0.mk H
      clear H
      obtain ⟨Ao12, co12, eo12⟩ := Kd.R_slice HO4.out
      subst eo12
      have p581 : 0 ≤ (a2 : Int) := of_decide_eq_true zh
      have q581 : a2 < (l4.length : Int) := of_decide_eq_true zh
      obtain ⟨ad581, e581, hx581_0⟩ := Kd.at_bool (Kd.R_reads' HO4.out).2.2 a2 p581 q581
      cases e581
      replace p581 := eq_true p581
      replace q581 := eq_true q581
      go_wp2
      go_meet
      case rel => exact ⟨_, (rdOf false l4 a2), zT, H', ⟨by first | omega | exact Nat.le_refl _⟩, ⟨by (with_reducible repeat (first | apply Kd.R_alloc | apply Kd.R_drewN | apply Kd.R_drew)); exact HO4.out⟩, ⟨by (with_reducible repeat (first | refine blk_drewN ?_ _ | refine blk_drew ?_ | refine blk_alloc ?_ _)); exact BK580.out⟩, ⟨by repeat (first | (with_reducible first | exact HK.out | apply Kept.alloc | apply Kept.drewN | apply Kept.drew | refine Kept.setCell ?_ (.inr GW580.out) _) | exact HK.out)⟩, ⟨by repeat (first | (with_reducible first | exact HB.out | apply below_alloc | apply pw_below_drewN | apply below_drew1 | refine below_set ?_ GE580.out) | exact HB.out)⟩⟩
     ·rw [if_neg c11] at H
      exact absurd H (by simp)
    ·rw [if_neg c10] at H
     exact absurd H (by simp)
 case rest =>
  clear HC6
  obtain ⟨kq, x25_5, rfl, HA, HJ5, HO_4, BK580, HK, HB⟩ := hcut
  cases kq with
  | zero => exact absurd HA.out (by simp [ancepsref40_below.j0])
  | succ kj5 =>
   have H := HA.out
   clear HA
   simp only [ancepsref40_below.j0] at H
   by_cases c13 : x25_5 = true
   ·subst c13
    have H1 : (some (false, l4)) = some (r1, r2) := by rw [if_pos rfl] at H; exact H
    clear H
    have H := H1
    clear H1
    simp only [Option.some.injEq, Prod.mk.injEq] at H
    obtain ⟨rfl, rfl⟩ := H
    go_wp2
    go_ret
    exact ⟨by first | rfl | (simp [errW_none, errW_some] <;> rfl) | (simp [*, errW_none, errW_some] <;> rfl), by (with_reducible repeat (first | apply Kd.R_alloc | apply Kd.R_drewN | apply Kd.R_drew)); exact HO_4.out, by repeat (first | (with_reducible first | exact HB.out | apply below_alloc | apply pw_below_drewN | apply below_drew1 | refine below_set ?_ GE580.out) | exact HB.out), by repeat (first | (with_reducible first | exact HK.out | apply Kept.alloc | apply Kept.drewN | apply Kept.drew | refine Kept.setCell ?_ (.inr GW580.out) _) | exact HK.out)⟩
   ·replace c13 := Bool.eq_false_iff.mpr c13
    subst c13
    have H1 : (if 0 ≤ a2 then (if a2 < (l4.length : Int) then ((some (l4.set (a2 : Int).toNat true : List Bool)).bind fun y582 => (if a2 < (l1.length : Int) then (if ((rd_T35 l1 a2).f0) = (-1) then (if ((rd_T35 l1 a2).f1) = 0 then (if ((rd_T35 l1 a2).f2) = 0 then (if ((rd_T35 l1 a2).f3) ≥ 0 then (if ((rd_T35 l1 a2).f3) < (l0.length : Int) then (if 0 ≤ ((rd_T35 l1 a2).f3) then ((ancepsref40_fails.f kj5 ((rd_T61 l0 ((rd_T35 l1 a2).f3)).f0) ((rd_T61 l0 ((rd_T35 l1 a2).f3)).f1) a3_0 a3_1).bind fun t586 => (some (t586, y582))) else (none)) else (some (false, y582))) else (some (false, y582))) else (some (false, y582))) else (some (false, y582))) else (if ((rd_T35 l1 a2).f0) < 0 then (ancepsref40_below.j1 kj5 l0 l1 y582 true a3_0 a3_1 ((rd_T35 l1 a2).f0) ((rd_T35 l1 a2).f1) ((rd_T35 l1 a2).f2) ((rd_T35 l1 a2).f3)) else (if ((rd_T35 l1 a2).f0) > 23 then (ancepsref40_below.j1 kj5 l0 l1 y582 true a3_0 a3_1 ((rd_T35 l1 a2).f0) ((rd_T35 l1 a2).f1) ((rd_T35 l1 a2).f2) ((rd_T35 l1 a2).f3)) else (if ((rd_T35 l1 a2).f3) = 0 then (if ((rd_T35 l1 a2).f1) ≤ a2 then (ancepsref40_below.j1 kj5 l0 l1 y582 true a3_0 a3_1 ((rd_T35 l1 a2).f0) ((rd_T35 l1 a2).f1) ((rd_T35 l1 a2).f2) ((rd_T35 l1 a2).f3)) else (if ((rd_T35 l1 a2).f2) ≤ a2 then (ancepsref40_below.j1 kj5 l0 l1 y582 true a3_0 a3_1 ((rd_T35 l1 a2).f0) ((rd_T35 l1 a2).f1) ((rd_T35 l1 a2).f2) ((rd_T35 l1 a2).f3)) else (if 0 ≤ ((rd_T35 l1 a2).f0) then (ancepsref40_below.j1 kj5 l0 l1 y582 ((Go.bits .and .i64 (shr .i64 a3_0 ((rd_T35 l1 a2).f0)) 1) == 1) a3_0 a3_1 ((rd_T35 l1 a2).f0) ((rd_T35 l1 a2).f1) ((rd_T35 l1 a2).f2) ((rd_T35 l1 a2).f3)) else (none)))) else (ancepsref40_below.j1 kj5 l0 l1 y582 true a3_0 a3_1 ((rd_T35 l1 a2).f0) ((rd_T35 l1 a2).f1) ((rd_T35 l1 a2).f2) ((rd_T35 l1 a2).f3)))))) else (none))) else (none)) else (none)) = some (r1, r2) := by rw [if_neg (show ¬ (false = true) by decide)] at H; exact H
    clear H
    have H := H1
    clear H1
    by_cases c14 : 0 ≤ a2
    ·rw [if_pos c14] at H
     have c14b0 : decide (0 ≤ a2) = true := decide_eq_true c14
     clear c14
     by_cases c15 : a2 < (l4.length : Int)
     ·rw [if_pos c15] at H
      have c15b0 : decide (a2 < (l4.length : Int)) = true := decide_eq_true c15
      clear c15
      obtain ⟨y582, hy582⟩ : ∃ y_ : List Bool, y_ = (l4.set (a2 : Int).toNat true) := ⟨_, rfl⟩
      replace H : (if a2 < (l1.length : Int) then (if ((rd_T35 l1 a2).f0) = (-1) then (if ((rd_T35 l1 a2).f1) = 0 then (if ((rd_T35 l1 a2).f2) = 0 then (if ((rd_T35 l1 a2).f3) ≥ 0 then (if ((rd_T35 l1 a2).f3) < (l0.length : Int) then (if 0 ≤ ((rd_T35 l1 a2).f3) then ((ancepsref40_fails.f kj5 ((rd_T61 l0 ((rd_T35 l1 a2).f3)).f0) ((rd_T61 l0 ((rd_T35 l1 a2).f3)).f1) a3_0 a3_1).bind fun t586 => (some (t586, y582))) else (none)) else (some (false, y582))) else (some (false, y582))) else (some (false, y582))) else (some (false, y582))) else (if ((rd_T35 l1 a2).f0) < 0 then (ancepsref40_below.j1 kj5 l0 l1 y582 true a3_0 a3_1 ((rd_T35 l1 a2).f0) ((rd_T35 l1 a2).f1) ((rd_T35 l1 a2).f2) ((rd_T35 l1 a2).f3)) else (if ((rd_T35 l1 a2).f0) > 23 then (ancepsref40_below.j1 kj5 l0 l1 y582 true a3_0 a3_1 ((rd_T35 l1 a2).f0) ((rd_T35 l1 a2).f1) ((rd_T35 l1 a2).f2) ((rd_T35 l1 a2).f3)) else (if ((rd_T35 l1 a2).f3) = 0 then (if ((rd_T35 l1 a2).f1) ≤ a2 then (ancepsref40_below.j1 kj5 l0 l1 y582 true a3_0 a3_1 ((rd_T35 l1 a2).f0) ((rd_T35 l1 a2).f1) ((rd_T35 l1 a2).f2) ((rd_T35 l1 a2).f3)) else (if ((rd_T35 l1 a2).f2) ≤ a2 then (ancepsref40_below.j1 kj5 l0 l1 y582 true a3_0 a3_1 ((rd_T35 l1 a2).f0) ((rd_T35 l1 a2).f1) ((rd_T35 l1 a2).f2) ((rd_T35 l1 a2).f3)) else (if 0 ≤ ((rd_T35 l1 a2).f0) then (ancepsref40_below.j1 kj5 l0 l1 y582 ((Go.bits .and .i64 (shr .i64 a3_0 ((rd_T35 l1 a2).f0)) 1) == 1) a3_0 a3_1 ((rd_T35 l1 a2).f0) ((rd_T35 l1 a2).f1) ((rd_T35 l1 a2).f2) ((rd_T35 l1 a2).f3)) else (none)))) else (ancepsref40_below.j1 kj5 l0 l1 y582 true a3_0 a3_1 ((rd_T35 l1 a2).f0) ((rd_T35 l1 a2).f1) ((rd_T35 l1 a2).f2) ((rd_T35 l1 a2).f3)))))) else (none)) = some (r1, r2) := by first | (rw [hy582]; with_reducible exact H) | (have H2_ := (Option.bind_some _ _).symm.trans H; rw [hy582]; with_reducible exact H2_) | (have H2_ := (Option.bind_some _ _).symm.trans H; with_reducible exact H2_) | with_reducible exact H | (rw [hy582]; exact H) | exact H
      have Ny582 := Aside0.mk hy582
      clear hy582
      by_cases c17 : a2 < (l1.length : Int)
      ·rw [if_pos c17] at H
       have c17b0 : decide (a2 < (l1.length : Int)) = true := decide_eq_true c17
       clear c17
       have HC18 := Aside0.mk H
       clear H
       have p16 : 0 ≤ (a2 : Int) := of_decide_eq_true zh
       have q16 : (a2 : Int) < ((l4.length : Int) : Int) := of_decide_eq_true zh
       obtain ⟨go16, co16, eo16, gb16, gl16, cl16, HG16⟩ := Kd.R_form HO_4.out (by omega)
       (first | cases eo16 | (injection eo16 with ea_ en_ ec_; (first | subst ea_ | (injection ea_ with ea_; subst ea_)); subst ec_; clear en_))
       have GB16 := Aside0.mk gb16
       have GG16 := Aside0.mk HG16
       clear gb16 gl16 HG16
       have HMgo16 := Aside0.mk (show (P4_ go16 ∨ w.heap.size ≤ go16) from (HO_4.out.1 _ rfl))
       obtain ⟨hx16_0, hf16_0⟩ := Kd.R_celln false HO_4.out (a2 : Int) p16 q16
       replace p16 := eq_true p16
       replace q16 := eq_true q16
       have HP19 := Kd.R_putg HO_4.out (a2 : Int) true
       go_upto_if 35 with (first | ((with_reducible refine gate_store (t := 4) (p := 28) rfl ?_); refine store_event (t := 4) (p := 28) (v := ?vo_w20) (w1 := (wc.setCell ⟨go16, (a2 : Int).toNat, none⟩ (.bool true))) ?hg ?ho ?hn ?hr ?_; (case ho => rfl); (case hg => rfl); (case hn => rfl); (case hr => first | (go_simp; done) | (go_simp; rfl)); intro w20 hw; have hg : wc.grownBy w20 (some go16) := (by rw [hw]; exact HP19.2); have hp_ : Kd.R Kd.bool 4 w20 w0.heap.size (fun k_ => (P4_ k_ ∨ w.heap.size ≤ k_)) (.slice (some ⟨go16, 0, none⟩) l4.length co16) y582 := (by rw [hw, Ny582.out]; exact HP19.1); clear HP19; have n0_ := Aside0.mk (hp_); have n1_ := Aside0.mk (blk_grown (g := gb580) (o := .cells #[.int .i64 a3_0, .int .i64 a3_1] 74 (0, 0)) (zk BK580) hg (Kd.R_ne HO_4.out BK580.out (by decide))); have n2_ := Aside0.mk ((by rw [hw]; exact below_set (HB.out) GB16.out : Below w0.heap.size w0 w20)); have n3_ := Aside0.mk (Kept.of_grown (S := (fun k_ => P4_ k_)) hg (by repeat (first | (with_reducible first | exact HK.out | apply Kept.alloc | apply Kept.drewN | apply Kept.drew | refine Kept.setCell ?_ (.inr GW580.out) _) | exact HK.out)) (fun k_ e_ => (HO_4.out.1 k_ e_))); clear HO_4; clear BK580; clear HB; clear HK; have HO_4 := n0_; have BK580 := n1_; have HB := n2_; have HK := n3_; clear n0_ n1_ n2_ n3_; clear hg hw hp_; have p583 : 0 ≤ (a2 : Int) := of_decide_eq_true zh; have q583 : a2 < (l1.length : Int) := of_decide_eq_true zh; obtain ⟨ad583, e583, hx583_0, hx583_1, hx583_2, hx583_3⟩ := at_T35 (Kd.C_kept_now HR1.out HK.out) a2 p583 q583; cases e583; replace p583 := eq_true p583; replace q583 := eq_true q583) | ((with_reducible refine gate_dst (N := 11) rfl ?_); (try (refine gate_guard (by rfl) ?_; dsimp only)); refine box_event ?hg (N := 11) ?hd (cs := #[.int .i64 0, .int .i64 0, .int .i64 0, .int .i64 0]) (t := 35) ?hr ?_; (case hd => rfl); (case hg => rfl); (case hr => first | (go_simp; done) | (go_simp; rfl)); intro gb584 hg w21 hbox hb; have n0_ := Aside0.mk (Kd.R_below (zR HO_4) hb); have n1_ := Aside0.mk (blk_below (g := gb580) (o := .cells #[.int .i64 a3_0, .int .i64 a3_1] 74 (0, 0)) (zk BK580) hb); have n2_ := Aside0.mk (Kept.below (S := (fun k_ => P4_ k_)) (by repeat (first | (with_reducible first | exact HK.out | apply Kept.alloc | apply Kept.drewN | apply Kept.drew | refine Kept.setCell ?_ (.inr GW580.out) _) | exact HK.out)) hb); have n3_ := Aside0.mk (below_step zB hb); have n4_ := Aside0.mk (hbox); have n5_ := Aside0.mk ((by rw [hg]; exact (by first | exact HK.out.1 | exact (show Kept w _ (fun k_ => P4_ k_) from by repeat (first | (with_reducible first | exact HK.out | apply Kept.alloc | apply Kept.drewN | apply Kept.drew | refine Kept.setCell ?_ (.inr GW580.out) _) | exact HK.out)).1) : w.heap.size ≤ gb584)); have n6_ := Aside0.mk ((by rw [hg]; exact (below_size zB) : w0.heap.size ≤ gb584)); have n7_ := Aside0.mk ((by rw [hg]; exact Nat.ne_of_lt (blk_lt (g := gb580) (o := .cells #[.int .i64 a3_0, .int .i64 a3_1] 74 (0, 0)) (zk BK580)) : gb580 ≠ gb584)); have n8_ := Aside0.mk ((by rw [hg]; exact Nat.ne_of_gt (blk_lt (g := gb580) (o := .cells #[.int .i64 a3_0, .int .i64 a3_1] 74 (0, 0)) (zk BK580)) : gb584 ≠ gb580)); clear HO_4; clear BK580; clear HK; clear HB; have HO_4 := n0_; have BK580 := n1_; have HK := n2_; have HB := n3_; have BK584 := n4_; have GW584 := n5_; have GE584 := n6_; have NB580_584 := n7_; have NB584_580 := n8_; clear n0_ n1_ n2_ n3_ n4_ n5_ n6_ n7_ n8_; clear hb hbox hg; have hnb22 := NB584_580.out; have hnc22 := NB580_584.out; have hcz23_0 : w21.cell? ⟨gb584, 0, none⟩ = some (.int .i64 0) := (blk_cell BK584.out 0).trans rfl; have hcz23_1 : w21.cell? ⟨gb584, 1, none⟩ = some (.int .i64 0) := (blk_cell BK584.out 1).trans rfl; have hcz23_2 : w21.cell? ⟨gb584, 2, none⟩ = some (.int .i64 0) := (blk_cell BK584.out 2).trans rfl; have hcz23_3 : w21.cell? ⟨gb584, 3, none⟩ = some (.int .i64 0) := (blk_cell BK584.out 3).trans rfl; have hfz23_0 := blk_frozen BK584.out 0; have hfz23_1 := blk_frozen BK584.out 1; have hfz23_2 := blk_frozen BK584.out 2; have hfz23_3 := blk_frozen BK584.out 3))
       (try simp only [Act.put, List.setIfInBounds_toArray, List.set_cons_zero, List.set_cons_succ])
       have H := HC18.out
       clear HC18
       by_cases c24 : ((rd_T35 l1 a2).f0) = (-1)
       ·rw [if_pos c24] at H
        have c24b0 : (((rd_T35 l1 a2).f0) == (-1)) = true := beq_iff_eq.mpr c24
        have c24b1 : (((rd_T35 l1 a2).f0) != (-1)) = false := bne_eq_false_iff_eq.mpr c24
        clear c24
        (first | rw [c24b0] | (simp only [i64_w, i32_w]; rw [c24b0]) | skip)
        (try rw [c24b1])
        by_cases c25 : ((rd_T35 l1 a2).f1) = 0
        ·rw [if_pos c25] at H
         have c25b0 : (((rd_T35 l1 a2).f1) == 0) = true := beq_iff_eq.mpr c25
         have c25b1 : (((rd_T35 l1 a2).f1) != 0) = false := bne_eq_false_iff_eq.mpr c25
         clear c25
         by_cases c26 : ((rd_T35 l1 a2).f2) = 0
         ·rw [if_pos c26] at H
          have c26b0 : (((rd_T35 l1 a2).f2) == 0) = true := beq_iff_eq.mpr c26
          have c26b1 : (((rd_T35 l1 a2).f2) != 0) = false := bne_eq_false_iff_eq.mpr c26
          clear c26
          by_cases c27 : ((rd_T35 l1 a2).f3) ≥ 0
          ·rw [if_pos c27] at H
           have c27b0 : decide (0 ≤ ((rd_T35 l1 a2).f3)) = true := decide_eq_true c27
           clear c27
           by_cases c28 : ((rd_T35 l1 a2).f3) < (l0.length : Int)
           ·rw [if_pos c28] at H
            have c28b0 : decide (((rd_T35 l1 a2).f3) < (l0.length : Int)) = true := decide_eq_true c28
            clear c28
            by_cases c29 : 0 ≤ ((rd_T35 l1 a2).f3)
            ·rw [if_pos c29] at H
             have c29b0 : decide (0 ≤ ((rd_T35 l1 a2).f3)) = true := decide_eq_true c29
             clear c29
             replace H := Option.bind_eq_some_iff.mp H
             obtain ⟨t586, A300, H⟩ := H
             replace H : (some (t586, y582)) = some (r1, r2) := H
             have A30 := Aside0.mk A300
             clear A300
             simp only [Option.some.injEq, Prod.mk.injEq] at H
             obtain ⟨rfl, rfl⟩ := H
             try go_wp2
             have n0_ : Aside0 (Kd.R Kd.bool 4 ((((w21.setCell ⟨gb584, 0, none⟩ (.int .i64 ((rd_T35 l1 a2).f0))).setCell ⟨gb584, 1, none⟩ (.int .i64 ((rd_T35 l1 a2).f1))).setCell ⟨gb584, 2, none⟩ (.int .i64 ((rd_T35 l1 a2).f2))).setCell ⟨gb584, 3, none⟩ (.int .i64 ((rd_T35 l1 a2).f3))) w0.heap.size (fun k_ => (P4_ k_ ∨ w.heap.size ≤ k_)) (.slice (some ⟨go16, 0, none⟩) l4.length co16) y582) := ⟨by (with_reducible repeat (first | apply Kd.R_alloc | apply Kd.R_drewN | apply Kd.R_drew)); exact Kd.R_mono (Kd.R_far (p := ⟨gb584, 3, none⟩) (Kd.R_far (p := ⟨gb584, 2, none⟩) (Kd.R_far (p := ⟨gb584, 1, none⟩) (Kd.R_far (p := ⟨gb584, 0, none⟩) (Kd.R_types HO_4.out BK584.out (by decide)) (fun _ hk => hk.2) (.int .i64 ((rd_T35 l1 a2).f0))) (fun _ hk => hk.2) (.int .i64 ((rd_T35 l1 a2).f1))) (fun _ hk => hk.2) (.int .i64 ((rd_T35 l1 a2).f2))) (fun _ hk => hk.2) (.int .i64 ((rd_T35 l1 a2).f3))) (fun _ hk => hk.1)⟩
             have n1_ : Aside0 (((((w21.setCell ⟨gb584, 0, none⟩ (.int .i64 ((rd_T35 l1 a2).f0))).setCell ⟨gb584, 1, none⟩ (.int .i64 ((rd_T35 l1 a2).f1))).setCell ⟨gb584, 2, none⟩ (.int .i64 ((rd_T35 l1 a2).f2))).setCell ⟨gb584, 3, none⟩ (.int .i64 ((rd_T35 l1 a2).f3))).heap[gb580]? = some (.cells #[.int .i64 a3_0, .int .i64 a3_1] 74 (0, 0))) := ⟨by (with_reducible repeat (first | refine blk_drewN ?_ _ | refine blk_drew ?_ | refine blk_alloc ?_ _)); refine blk_far ?_ NB580_584.out _; (with_reducible repeat (first | refine blk_drewN ?_ _ | refine blk_drew ?_ | refine blk_alloc ?_ _)); refine blk_far ?_ NB580_584.out _; (with_reducible repeat (first | refine blk_drewN ?_ _ | refine blk_drew ?_ | refine blk_alloc ?_ _)); refine blk_far ?_ NB580_584.out _; (with_reducible repeat (first | refine blk_drewN ?_ _ | refine blk_drew ?_ | refine blk_alloc ?_ _)); refine blk_far ?_ NB580_584.out _; (with_reducible repeat (first | refine blk_drewN ?_ _ | refine blk_drew ?_ | refine blk_alloc ?_ _)); exact BK580.out⟩
             have n2_ : Aside0 (((((w21.setCell ⟨gb584, 0, none⟩ (.int .i64 ((rd_T35 l1 a2).f0))).setCell ⟨gb584, 1, none⟩ (.int .i64 ((rd_T35 l1 a2).f1))).setCell ⟨gb584, 2, none⟩ (.int .i64 ((rd_T35 l1 a2).f2))).setCell ⟨gb584, 3, none⟩ (.int .i64 ((rd_T35 l1 a2).f3))).heap[gb584]? = some (.cells #[.int .i64 ((rd_T35 l1 a2).f0), .int .i64 ((rd_T35 l1 a2).f1), .int .i64 ((rd_T35 l1 a2).f2), .int .i64 ((rd_T35 l1 a2).f3)] 35 (0, 0))) := ⟨by (with_reducible repeat (first | refine blk_drewN ?_ _ | refine blk_drew ?_ | refine blk_alloc ?_ _)); refine blk_put (cs := #[.int .i64 ((rd_T35 l1 a2).f0), .int .i64 ((rd_T35 l1 a2).f1), .int .i64 ((rd_T35 l1 a2).f2), .int .i64 0]) ?_ 3 _ rfl; (with_reducible repeat (first | refine blk_drewN ?_ _ | refine blk_drew ?_ | refine blk_alloc ?_ _)); refine blk_put (cs := #[.int .i64 ((rd_T35 l1 a2).f0), .int .i64 ((rd_T35 l1 a2).f1), .int .i64 0, .int .i64 0]) ?_ 2 _ rfl; (with_reducible repeat (first | refine blk_drewN ?_ _ | refine blk_drew ?_ | refine blk_alloc ?_ _)); refine blk_put (cs := #[.int .i64 ((rd_T35 l1 a2).f0), .int .i64 0, .int .i64 0, .int .i64 0]) ?_ 1 _ rfl; (with_reducible repeat (first | refine blk_drewN ?_ _ | refine blk_drew ?_ | refine blk_alloc ?_ _)); refine blk_put (cs := #[.int .i64 0, .int .i64 0, .int .i64 0, .int .i64 0]) ?_ 0 _ rfl; (with_reducible repeat (first | refine blk_drewN ?_ _ | refine blk_drew ?_ | refine blk_alloc ?_ _)); exact BK584.out⟩
             have n3_ : Aside0 (Kept w ((((w21.setCell ⟨gb584, 0, none⟩ (.int .i64 ((rd_T35 l1 a2).f0))).setCell ⟨gb584, 1, none⟩ (.int .i64 ((rd_T35 l1 a2).f1))).setCell ⟨gb584, 2, none⟩ (.int .i64 ((rd_T35 l1 a2).f2))).setCell ⟨gb584, 3, none⟩ (.int .i64 ((rd_T35 l1 a2).f3))) (fun k_ => P4_ k_)) := ⟨by repeat (first | (with_reducible first | exact HK.out | apply Kept.alloc | apply Kept.drewN | apply Kept.drew | refine Kept.setCell ?_ (.inr GW580.out) _ | refine Kept.setCell ?_ (.inr GW584.out) _) | exact HK.out)⟩
             have n4_ : Aside0 (Below w0.heap.size w0 ((((w21.setCell ⟨gb584, 0, none⟩ (.int .i64 ((rd_T35 l1 a2).f0))).setCell ⟨gb584, 1, none⟩ (.int .i64 ((rd_T35 l1 a2).f1))).setCell ⟨gb584, 2, none⟩ (.int .i64 ((rd_T35 l1 a2).f2))).setCell ⟨gb584, 3, none⟩ (.int .i64 ((rd_T35 l1 a2).f3)))) := ⟨by repeat (first | (with_reducible first | exact HB.out | apply below_alloc | apply pw_below_drewN | apply below_drew1 | refine below_set ?_ GE580.out | refine below_set ?_ GE584.out) | exact HB.out)⟩
             (try clear HO_4)
             (try clear BK580)
             (try clear BK584)
             (try clear HK)
             (try clear HB)
             generalize ((((w21.setCell ⟨gb584, 0, none⟩ (.int .i64 ((rd_T35 l1 a2).f0))).setCell ⟨gb584, 1, none⟩ (.int .i64 ((rd_T35 l1 a2).f1))).setCell ⟨gb584, 2, none⟩ (.int .i64 ((rd_T35 l1 a2).f2))).setCell ⟨gb584, 3, none⟩ (.int .i64 ((rd_T35 l1 a2).f3))) = w31 at n0_ n1_ n2_ n3_ n4_ ⊢
             have HO_4 := n0_
             have BK580 := n1_
             have BK584 := n2_
             have HK := n3_
             have HB := n4_
             clear n0_ n1_ n2_ n3_ n4_
             have n0_ := Aside0.mk (Kd.R_drew HO_4.out)
             have n1_ := Aside0.mk (blk_drew BK580.out)
             have n2_ := Aside0.mk (blk_drew BK584.out)
             have n3_ := Aside0.mk (Kept.drew HK.out)
             have n4_ := Aside0.mk (below_drew1 HB.out)
             clear HO_4
             clear BK580
             clear BK584
             clear HK
             clear HB
             have HO_4 := n0_
             have BK580 := n1_
             have BK584 := n2_
             have HK := n3_
             have HB := n4_
             clear n0_ n1_ n2_ n3_ n4_
             have p585 : 0 ≤ (((rd_T35 l1 a2).f3) : Int) := of_decide_eq_true zh
             have q585 : ((rd_T35 l1 a2).f3) < (l0.length : Int) := of_decide_eq_true zh
             obtain ⟨ad585, A585_0, c585_0, A585_1, c585_1, e585, hx585_0, hx585_1, hl585_0, hi585_0, hl585_1, hi585_1⟩ := at_T61 (Kd.C_kept_now HR0.out HK.out) ((rd_T35 l1 a2).f3) p585 q585
             have hw585_1 := hx585_1
             have hw585_0 := hx585_0
             cases e585
             have HR585_0 := Aside0.mk hi585_0
             have HC585_0 := Aside0.mk hl585_0
             clear hi585_0 hl585_0
             have HR585_1 := Aside0.mk hi585_1
             have HC585_1 := Aside0.mk hl585_1
             clear hi585_1 hl585_1
             replace p585 := eq_true p585
             replace q585 := eq_true q585
             refine start_ (n := 30) (S := fun w' => w'.cell? ⟨gb584, 0, none⟩ = some (.int .i64 ((rd_T35 l1 a2).f0)) ∧ w'.cell? ⟨gb584, 1, none⟩ = some (.int .i64 ((rd_T35 l1 a2).f1)) ∧ w'.cell? ⟨gb584, 2, none⟩ = some (.int .i64 ((rd_T35 l1 a2).f2)) ∧ w'.cell? ⟨gb584, 3, none⟩ = some (.int .i64 ((rd_T35 l1 a2).f3)) ∧ w'.cell? ⟨gb580, 0, none⟩ = some (.int .i64 a3_0) ∧ w'.cell? ⟨gb580, 1, none⟩ = some (.int .i64 a3_1) ∧ w'.cell? (ad585.add ((((rd_T35 l1 a2).f3)).toNat * 2)) = some (.slice A585_0 ((rd_T61 l0 ((rd_T35 l1 a2).f3)).f0).length c585_0) ∧ w'.cell? ⟨(ad585.add ((((rd_T35 l1 a2).f3)).toNat * 2)).block, (ad585.add ((((rd_T35 l1 a2).f3)).toNat * 2)).off + 1, none⟩ = some (.slice A585_1 ((rd_T61 l0 ((rd_T35 l1 a2).f3)).f1).length c585_1)) (ds := []) #[false, false, false, false, false, false, false, false, false, false, false, false, false, false, false, false, false, false, false, false, false, false, false, false, false, false, false, false, false, false] zK rfl rfl ⟨(blk_cell BK584.out 0).trans rfl, (blk_cell BK584.out 1).trans rfl, (blk_cell BK584.out 2).trans rfl, (blk_cell BK584.out 3).trans rfl, (blk_cell BK580.out 0).trans rfl, (blk_cell BK580.out 1).trans rfl, hx585_0, hx585_1⟩ (fun hHeld => ?_); refine with_tabW ancepsref40_below.tab6 ancepsref40_below.bits6 (fun HT_ HW_ => ?_)
             generalize w31.drew = w32 at HO_4 BK580 BK584 HK HB HR585_0 HR585_1 hx585_0 hx585_1 hHeld ⊢
             refine pure_ (i := 0) (N := some 36) (v := ?_) (a' := ?_) #[true, false, false, false, false, false, false, false, false, false, false, false, false, false, false, false, false, false, false, false, false, false, false, false, false, false, false, false, false, false] rfl rfl (any_of HT_.out zK) (fun _ _ _ h => h) (Or.inl ⟨by rfl, ?_⟩) ?_ ?_
             rotate_left
             ·intro w'
              go_simp
              with_reducible rfl
             rotate_left
             ·simp only [Act.put, List.setIfInBounds_toArray, List.set_cons_zero, List.set_cons_succ, i64_w, i32_w]
              rfl
             refine take_ (i := 1) (N := some 37) (v := ?_) (a' := ?_) #[true, true, false, false, false, false, false, false, false, false, false, false, false, false, false, false, false, false, false, false, false, false, false, false, false, false, false, false, false, false] rfl rfl (take_ofW HT_.out HW_.out zK) (fun _ _ _ h => h) (Or.inl ⟨by rfl, ?_⟩) hHeld ?_ ?_
             rotate_left
             ·rintro w' ⟨s0, s1, s2, s3, s4, s5, s6, s7⟩
              go_simp
              with_reducible rfl
             rotate_left
             ·simp only [Act.put, List.setIfInBounds_toArray, List.set_cons_zero, List.set_cons_succ, i64_w, i32_w]
              rfl
             refine pure_ (i := 2) (N := some 38) (v := ?_) (a' := ?_) #[true, true, true, false, false, false, false, false, false, false, false, false, false, false, false, false, false, false, false, false, false, false, false, false, false, false, false, false, false, false] rfl rfl (any_of HT_.out zK) (fun _ _ _ h => h) (Or.inl ⟨by rfl, ?_⟩) ?_ ?_
             rotate_left
             ·intro w'
              go_simp
              with_reducible rfl
             rotate_left
             ·simp only [Act.put, List.setIfInBounds_toArray, List.set_cons_zero, List.set_cons_succ, i64_w, i32_w]
              rfl
             refine pure_ (i := 3) (N := some 39) (v := ?_) (a' := ?_) #[true, true, true, true, false, false, false, false, false, false, false, false, false, false, false, false, false, false, false, false, false, false, false, false, false, false, false, false, false, false] rfl rfl (any_of HT_.out zK) (fun _ _ _ h => h) (Or.inl ⟨by rfl, ?_⟩) ?_ ?_
             rotate_left
             ·intro w'
              go_simp
              with_reducible rfl
             rotate_left
             ·simp only [Act.put, List.setIfInBounds_toArray, List.set_cons_zero, List.set_cons_succ, i64_w, i32_w]
              rfl
             refine pure_ (i := 4) (N := some 40) (v := ?_) (a' := ?_) #[true, true, true, true, true, false, false, false, false, false, false, false, false, false, false, false, false, false, false, false, false, false, false, false, false, false, false, false, false, false] rfl rfl (any_of HT_.out zK) (fun _ _ _ h => h) (Or.inl ⟨by rfl, ?_⟩) ?_ ?_
             rotate_left
             ·intro w'
              go_simp
              with_reducible rfl
             rotate_left
             ·simp only [Act.put, List.setIfInBounds_toArray, List.set_cons_zero, List.set_cons_succ, i64_w, i32_w]
              rfl
             refine take_ (i := 5) (N := some 41) (v := ?_) (a' := ?_) #[true, true, true, true, true, true, false, false, false, false, false, false, false, false, false, false, false, false, false, false, false, false, false, false, false, false, false, false, false, false] rfl rfl (take_ofW HT_.out HW_.out zK) (fun _ _ _ h => h) (Or.inl ⟨by rfl, ?_⟩) hHeld ?_ ?_
             rotate_left
             ·rintro w' ⟨s0, s1, s2, s3, s4, s5, s6, s7⟩
              go_simp
              with_reducible rfl
             rotate_left
             ·simp only [Act.put, List.setIfInBounds_toArray, List.set_cons_zero, List.set_cons_succ, i64_w, i32_w]
              rfl
             refine pure_ (i := 6) (N := some 42) (v := ?_) (a' := ?_) #[true, true, true, true, true, true, true, false, false, false, false, false, false, false, false, false, false, false, false, false, false, false, false, false, false, false, false, false, false, false] rfl rfl (any_of HT_.out zK) (fun _ _ _ h => h) (Or.inl ⟨by rfl, ?_⟩) ?_ ?_
             rotate_left
             ·intro w'
              go_simp
              with_reducible rfl
             rotate_left
             ·simp only [Act.put, List.setIfInBounds_toArray, List.set_cons_zero, List.set_cons_succ, i64_w, i32_w]
              rfl
             refine pure_ (i := 7) (N := some 43) (v := ?_) (a' := ?_) #[true, true, true, true, true, true, true, true, false, false, false, false, false, false, false, false, false, false, false, false, false, false, false, false, false, false, false, false, false, false] rfl rfl (any_of HT_.out zK) (fun _ _ _ h => h) (Or.inl ⟨by rfl, ?_⟩) ?_ ?_
             rotate_left
             ·intro w'
              go_simp
              with_reducible rfl
             rotate_left
             ·simp only [Act.put, List.setIfInBounds_toArray, List.set_cons_zero, List.set_cons_succ, i64_w, i32_w]
              rfl
             refine pure_ (i := 8) (N := some 44) (v := ?_) (a' := ?_) #[true, true, true, true, true, true, true, true, true, false, false, false, false, false, false, false, false, false, false, false, false, false, false, false, false, false, false, false, false, false] rfl rfl (any_of HT_.out zK) (fun _ _ _ h => h) (Or.inl ⟨by rfl, ?_⟩) ?_ ?_
             rotate_left
             ·intro w'
              go_simp
              with_reducible rfl
             rotate_left
             ·simp only [Act.put, List.setIfInBounds_toArray, List.set_cons_zero, List.set_cons_succ, i64_w, i32_w]
              rfl
             refine pure_ (i := 9) (N := some 45) (v := ?_) (a' := ?_) #[true, true, true, true, true, true, true, true, true, true, false, false, false, false, false, false, false, false, false, false, false, false, false, false, false, false, false, false, false, false] rfl rfl (any_of HT_.out zK) (fun _ _ _ h => h) (Or.inl ⟨by rfl, ?_⟩) ?_ ?_
             rotate_left
             ·intro w'
              go_simp
              with_reducible rfl
             rotate_left
             ·simp only [Act.put, List.setIfInBounds_toArray, List.set_cons_zero, List.set_cons_succ, i64_w, i32_w]
              rfl
             refine take_ (i := 10) (N := some 46) (v := ?_) (a' := ?_) #[true, true, true, true, true, true, true, true, true, true, true, false, false, false, false, false, false, false, false, false, false, false, false, false, false, false, false, false, false, false] rfl rfl (take_ofW HT_.out HW_.out zK) (fun _ _ _ h => h) (Or.inl ⟨by rfl, ?_⟩) hHeld ?_ ?_
             rotate_left
             ·rintro w' ⟨s0, s1, s2, s3, s4, s5, s6, s7⟩
              go_simp
              with_reducible rfl
             rotate_left
             ·simp only [Act.put, List.setIfInBounds_toArray, List.set_cons_zero, List.set_cons_succ, i64_w, i32_w]
              rfl
             refine pure_ (i := 11) (N := some 47) (v := ?_) (a' := ?_) #[true, true, true, true, true, true, true, true, true, true, true, true, false, false, false, false, false, false, false, false, false, false, false, false, false, false, false, false, false, false] rfl rfl (any_of HT_.out zK) (fun _ _ _ h => h) (Or.inl ⟨by rfl, ?_⟩) ?_ ?_
             rotate_left
             ·intro w'
              go_simp
              with_reducible rfl
             rotate_left
             ·simp only [Act.put, List.setIfInBounds_toArray, List.set_cons_zero, List.set_cons_succ, i64_w, i32_w]
              rfl
             refine pure_ (i := 12) (N := some 48) (v := ?_) (a' := ?_) #[true, true, true, true, true, true, true, true, true, true, true, true, true, false, false, false, false, false, false, false, false, false, false, false, false, false, false, false, false, false] rfl rfl (any_of HT_.out zK) (fun _ _ _ h => h) (Or.inl ⟨by rfl, ?_⟩) ?_ ?_
             rotate_left
             ·intro w'
              go_simp
              with_reducible rfl
             rotate_left
             ·simp only [Act.put, List.setIfInBounds_toArray, List.set_cons_zero, List.set_cons_succ, i64_w, i32_w]
              rfl
             refine pure_ (i := 13) (N := some 49) (v := ?_) (a' := ?_) #[true, true, true, true, true, true, true, true, true, true, true, true, true, true, false, false, false, false, false, false, false, false, false, false, false, false, false, false, false, false] rfl rfl (any_of HT_.out zK) (fun _ _ _ h => h) (Or.inl ⟨by rfl, ?_⟩) ?_ ?_
             rotate_left
             ·intro w'
              go_simp
              with_reducible rfl
             rotate_left
             ·simp only [Act.put, List.setIfInBounds_toArray, List.set_cons_zero, List.set_cons_succ, i64_w, i32_w]
              rfl
             refine pure_ (i := 14) (N := some 50) (v := ?_) (a' := ?_) #[true, true, true, true, true, true, true, true, true, true, true, true, true, true, true, false, false, false, false, false, false, false, false, false, false, false, false, false, false, false] rfl rfl (any_of HT_.out zK) (fun _ _ _ h => h) (Or.inl ⟨by rfl, ?_⟩) ?_ ?_
             rotate_left
             ·intro w'
              go_simp
              with_reducible rfl
             rotate_left
             ·simp only [Act.put, List.setIfInBounds_toArray, List.set_cons_zero, List.set_cons_succ, i64_w, i32_w]
              rfl
             refine pure_ (i := 16) (N := some 52) (v := ?_) (a' := ?_) #[true, true, true, true, true, true, true, true, true, true, true, true, true, true, true, false, true, false, false, false, false, false, false, false, false, false, false, false, false, false] rfl rfl (any_of HT_.out zK) (fun _ _ _ h => h) (Or.inl ⟨by rfl, ?_⟩) ?_ ?_
             rotate_left
             ·intro w'
              go_simp
              with_reducible rfl
             rotate_left
             ·simp only [Act.put, List.setIfInBounds_toArray, List.set_cons_zero, List.set_cons_succ, i64_w, i32_w]
              rfl
             refine pure_ (i := 17) (N := some 53) (v := ?_) (a' := ?_) #[true, true, true, true, true, true, true, true, true, true, true, true, true, true, true, false, true, true, false, false, false, false, false, false, false, false, false, false, false, false] rfl rfl (any_of HT_.out zK) (fun _ _ _ h => h) (Or.inl ⟨by rfl, ?_⟩) ?_ ?_
             rotate_left
             ·intro w'
              go_simp
              with_reducible rfl
             rotate_left
             ·simp only [Act.put, List.setIfInBounds_toArray, List.set_cons_zero, List.set_cons_succ, i64_w, i32_w]
              rfl
             refine take_ (i := 15) (N := some 51) (v := ?_) (a' := ?_) #[true, true, true, true, true, true, true, true, true, true, true, true, true, true, true, true, true, true, false, false, false, false, false, false, false, false, false, false, false, false] rfl rfl (take_ofW HT_.out HW_.out zK) (fun _ _ _ h => h) (Or.inl ⟨by rfl, ?_⟩) hHeld ?_ ?_
             rotate_left
             ·rintro w' ⟨s0, s1, s2, s3, s4, s5, s6, s7⟩
              go_simp
              with_reducible rfl
             rotate_left
             ·simp only [Act.put, List.setIfInBounds_toArray, List.set_cons_zero, List.set_cons_succ, i64_w, i32_w]
              rfl
             refine pure_ (i := 18) (N := some 54) (v := ?_) (a' := ?_) #[true, true, true, true, true, true, true, true, true, true, true, true, true, true, true, true, true, true, true, false, false, false, false, false, false, false, false, false, false, false] rfl rfl (any_of HT_.out zK) (fun _ _ _ h => h) (Or.inl ⟨by rfl, ?_⟩) ?_ ?_
             rotate_left
             ·intro w'
              go_simp
              with_reducible rfl
             rotate_left
             ·simp only [Act.put, List.setIfInBounds_toArray, List.set_cons_zero, List.set_cons_succ, i64_w, i32_w]
              rfl
             refine pure_ (i := 19) (N := some 55) (v := ?_) (a' := ?_) #[true, true, true, true, true, true, true, true, true, true, true, true, true, true, true, true, true, true, true, true, false, false, false, false, false, false, false, false, false, false] rfl rfl (any_of HT_.out zK) (fun _ _ _ h => h) (Or.inl ⟨by rfl, ?_⟩) ?_ ?_
             rotate_left
             ·intro w'
              go_simp
              with_reducible rfl
             rotate_left
             ·simp only [Act.put, List.setIfInBounds_toArray, List.set_cons_zero, List.set_cons_succ, i64_w, i32_w]
              rfl
             refine pure_ (i := 20) (N := some 56) (v := ?_) (a' := ?_) #[true, true, true, true, true, true, true, true, true, true, true, true, true, true, true, true, true, true, true, true, true, false, false, false, false, false, false, false, false, false] rfl rfl (any_of HT_.out zK) (fun _ _ _ h => h) (Or.inl ⟨by rfl, ?_⟩) ?_ ?_
             rotate_left
             ·intro w'
              go_simp
              with_reducible rfl
             rotate_left
             ·simp only [Act.put, List.setIfInBounds_toArray, List.set_cons_zero, List.set_cons_succ, i64_w, i32_w]
              rfl
             refine pure_ (i := 21) (N := some 57) (v := ?_) (a' := ?_) #[true, true, true, true, true, true, true, true, true, true, true, true, true, true, true, true, true, true, true, true, true, true, false, false, false, false, false, false, false, false] rfl rfl (any_of HT_.out zK) (fun _ _ _ h => h) (Or.inl ⟨by rfl, ?_⟩) ?_ ?_
             rotate_left
             ·intro w'
              go_simp
              with_reducible rfl
             rotate_left
             ·simp only [Act.put, List.setIfInBounds_toArray, List.set_cons_zero, List.set_cons_succ, i64_w, i32_w]
              rfl
             refine pure_ (i := 22) (N := some 58) (v := ?_) (a' := ?_) #[true, true, true, true, true, true, true, true, true, true, true, true, true, true, true, true, true, true, true, true, true, true, true, false, false, false, false, false, false, false] rfl rfl (any_of HT_.out zK) (fun _ _ _ h => h) (Or.inl ⟨by rfl, ?_⟩) ?_ ?_
             rotate_left
             ·intro w'
              go_simp
              with_reducible rfl
             rotate_left
             ·simp only [Act.put, List.setIfInBounds_toArray, List.set_cons_zero, List.set_cons_succ, i64_w, i32_w]
              rfl
             refine take_ (i := 23) (N := some 59) (v := ?_) (a' := ?_) #[true, true, true, true, true, true, true, true, true, true, true, true, true, true, true, true, true, true, true, true, true, true, true, true, false, false, false, false, false, false] rfl rfl (take_ofW HT_.out HW_.out zK) (fun _ _ _ h => h) (Or.inl ⟨by rfl, ?_⟩) hHeld ?_ ?_
             rotate_left
             ·rintro w' ⟨s0, s1, s2, s3, s4, s5, s6, s7⟩
              go_simp
              with_reducible rfl
             rotate_left
             ·simp only [Act.put, List.setIfInBounds_toArray, List.set_cons_zero, List.set_cons_succ, i64_w, i32_w]
              rfl
             refine pure_ (i := 24) (N := some 60) (v := ?_) (a' := ?_) #[true, true, true, true, true, true, true, true, true, true, true, true, true, true, true, true, true, true, true, true, true, true, true, true, true, false, false, false, false, false] rfl rfl (any_of HT_.out zK) (fun _ _ _ h => h) (Or.inl ⟨by rfl, ?_⟩) ?_ ?_
             rotate_left
             ·intro w'
              go_simp
              with_reducible rfl
             rotate_left
             ·simp only [Act.put, List.setIfInBounds_toArray, List.set_cons_zero, List.set_cons_succ, i64_w, i32_w]
              rfl
             refine take_ (i := 25) (N := some 61) (v := ?_) (a' := ?_) #[true, true, true, true, true, true, true, true, true, true, true, true, true, true, true, true, true, true, true, true, true, true, true, true, true, true, false, false, false, false] rfl rfl (take_ofW HT_.out HW_.out zK) (fun _ _ _ h => h) (Or.inl ⟨by rfl, ?_⟩) hHeld ?_ ?_
             rotate_left
             ·rintro w' ⟨s0, s1, s2, s3, s4, s5, s6, s7⟩
              go_simp
              with_reducible rfl
             rotate_left
             ·simp only [Act.put, List.setIfInBounds_toArray, List.set_cons_zero, List.set_cons_succ, i64_w, i32_w]
              rfl
             refine take_ (i := 26) (N := some 62) (v := ?_) (a' := ?_) #[true, true, true, true, true, true, true, true, true, true, true, true, true, true, true, true, true, true, true, true, true, true, true, true, true, true, true, false, false, false] rfl rfl (take_ofW HT_.out HW_.out zK) (fun _ _ _ h => h) (Or.inl ⟨by rfl, ?_⟩) hHeld ?_ ?_
             rotate_left
             ·rintro w' ⟨s0, s1, s2, s3, s4, s5, s6, s7⟩
              go_simp
              with_reducible rfl
             rotate_left
             ·simp only [Act.put, List.setIfInBounds_toArray, List.set_cons_zero, List.set_cons_succ, i64_w, i32_w]
              rfl
             refine one_ (i := 27) (N := some 63) #[true, true, true, true, true, true, true, true, true, true, true, true, true, true, true, true, true, true, true, true, true, true, true, true, true, true, true, true, false, false] rfl rfl (one_of HT_.out zK) (by decide) (fun K hK => ?_)
             refine goes_ Try.func89 zK rfl #[.agg #[.slice A585_0 ((rd_T61 l0 ((rd_T35 l1 a2).f3)).f0).length c585_0, .slice A585_1 ((rd_T61 l0 ((rd_T35 l1 a2).f3)).f1).length c585_1], .agg #[.int .i64 a3_0, .int .i64 a3_1]] (by rfl) rfl rfl zM ?_
             with_reducible refine (ancepsref40_fails.calls kj5 _ _ ((rd_T61 l0 ((rd_T35 l1 a2).f3)).f0) _ _ ((rd_T61 l0 ((rd_T35 l1 a2).f3)).f1) a3_0 a3_1 t586 _ ?side1 ?side2 ?side3 ?side4 A30.out).mono ?_
             (case side1 => repeat (first | exact (by repeat (first | (with_reducible exact HR585_0.out) | (with_reducible refine Kd.C_alloc ?_ _) | (with_reducible refine Kd.C_drewN ?_ _) | (with_reducible refine Kd.C_drew ?_) | exact HR585_0.out)) | (with_reducible refine Kd.C_alloc ?_ _) | (with_reducible refine Kd.C_drewN ?_ _) | (with_reducible refine Kd.C_drew ?_)))
             (case side2 => exact HC585_0.out)
             (case side3 => repeat (first | exact (by repeat (first | (with_reducible exact HR585_1.out) | (with_reducible refine Kd.C_alloc ?_ _) | (with_reducible refine Kd.C_drewN ?_ _) | (with_reducible refine Kd.C_drew ?_) | exact HR585_1.out)) | (with_reducible refine Kd.C_alloc ?_ _) | (with_reducible refine Kd.C_drewN ?_ _) | (with_reducible refine Kd.C_drew ?_)))
             (case side4 => exact HC585_1.out)
             rintro e w33 ⟨rfl, hb⟩
             have HS6_ := (hb.cell (World.block_lt_of_cell? _ _ (hHeld.2.2.2.2.2.2.1))).trans (hHeld.2.2.2.2.2.2.1)
             have HS7_ := (hb.cell (World.block_lt_of_cell? _ _ (hHeld.2.2.2.2.2.2.2))).trans (hHeld.2.2.2.2.2.2.2)
             refine ⟨_, rfl, ?_⟩
             have n0_ := Aside0.mk (Kd.R_below (zR HO_4) hb)
             have n1_ := Aside0.mk (blk_below (g := gb580) (o := .cells #[.int .i64 a3_0, .int .i64 a3_1] 74 (0, 0)) (zk BK580) hb)
             have n2_ := Aside0.mk (blk_below (g := gb584) (o := .cells #[.int .i64 ((rd_T35 l1 a2).f0), .int .i64 ((rd_T35 l1 a2).f1), .int .i64 ((rd_T35 l1 a2).f2), .int .i64 ((rd_T35 l1 a2).f3)] 35 (0, 0)) (zk BK584) hb)
             have n3_ := Aside0.mk (Kd.C_below (by repeat (first | (with_reducible exact HR585_0.out) | (with_reducible refine Kd.C_alloc ?_ _) | (with_reducible refine Kd.C_drewN ?_ _) | (with_reducible refine Kd.C_drew ?_) | exact HR585_0.out)) hb)
             have n4_ := Aside0.mk (Kd.C_below (by repeat (first | (with_reducible exact HR585_1.out) | (with_reducible refine Kd.C_alloc ?_ _) | (with_reducible refine Kd.C_drewN ?_ _) | (with_reducible refine Kd.C_drew ?_) | exact HR585_1.out)) hb)
             have n5_ := Aside0.mk (Kept.below (S := (fun k_ => P4_ k_)) (by repeat (first | (with_reducible first | exact HK.out | apply Kept.alloc | apply Kept.drewN | apply Kept.drew | refine Kept.setCell ?_ (.inr GW580.out) _ | refine Kept.setCell ?_ (.inr GW584.out) _) | exact HK.out)) hb)
             have n6_ := Aside0.mk (below_step zB hb)
             clear HO_4
             clear BK580
             clear BK584
             clear HR585_0
             clear HR585_1
             clear HK
             clear HB
             have HO_4 := n0_
             have BK580 := n1_
             have BK584 := n2_
             have HR585_0 := n3_
             have HR585_1 := n4_
             have HK := n5_
             have HB := n6_
             clear n0_ n1_ n2_ n3_ n4_ n5_ n6_
             (try clear hb)
             (try clear hb2)
             (try clear hk)
             (try clear hi)
             refine hK.out _ _ ⟨(blk_cell BK584.out 0).trans rfl, (blk_cell BK584.out 1).trans rfl, (blk_cell BK584.out 2).trans rfl, (blk_cell BK584.out 3).trans rfl, (blk_cell BK580.out 0).trans rfl, (blk_cell BK580.out 1).trans rfl, HS6_, HS7_⟩ (fun hHeld => ?_)
             clear hK K
             refine norm_ (a' := ?_) ?_ ?_
             rotate_left
             ·show Act.put _ (some 63) _ = _
              simp only [Act.put, List.setIfInBounds_toArray, List.set_cons_zero, List.set_cons_succ, i64_w, i32_w]
              rfl
             refine pure_ (i := 28) (N := some 64) (v := ?_) (a' := ?_) #[true, true, true, true, true, true, true, true, true, true, true, true, true, true, true, true, true, true, true, true, true, true, true, true, true, true, true, true, true, false] rfl rfl (any_of HT_.out zK) (fun _ _ _ h => h) (Or.inl ⟨by rfl, ?_⟩) ?_ ?_
             rotate_left
             ·intro w'
              go_simp
              with_reducible rfl
             rotate_left
             ·simp only [Act.put, List.setIfInBounds_toArray, List.set_cons_zero, List.set_cons_succ, i64_w, i32_w]
              rfl
             refine pure_ (i := 29) (N := some 10) (v := ?_) (a' := ?_) #[true, true, true, true, true, true, true, true, true, true, true, true, true, true, true, true, true, true, true, true, true, true, true, true, true, true, true, true, true, true] rfl rfl (any_of HT_.out zK) (fun _ _ _ h => h) (Or.inl ⟨by rfl, ?_⟩) ?_ ?_
             rotate_left
             ·intro w'
              go_simp
              with_reducible rfl
             rotate_left
             ·simp only [Act.put, List.setIfInBounds_toArray, List.set_cons_zero, List.set_cons_succ, i64_w, i32_w]
              rfl
             refine done_ (done_of HT_.out zK) ?_
             try go_wp2
             go_ret
             exact ⟨by first | rfl | (simp [errW_none, errW_some] <;> rfl) | (simp [*, errW_none, errW_some] <;> rfl), by (with_reducible repeat (first | apply Kd.R_alloc | apply Kd.R_drewN | apply Kd.R_drew)); exact HO_4.out, by repeat (first | (with_reducible first | exact HB.out | apply below_alloc | apply pw_below_drewN | apply below_drew1 | refine below_set ?_ GE580.out | refine below_set ?_ GE584.out) | exact HB.out), by repeat (first | (with_reducible first | exact HK.out | apply Kept.alloc | apply Kept.drewN | apply Kept.drew | refine Kept.setCell ?_ (.inr GW580.out) _ | refine Kept.setCell ?_ (.inr GW584.out) _) | exact HK.out)⟩
            ·rw [if_neg c29] at H
             exact absurd H (by simp)
           ·rw [if_neg c28] at H
            have c28b0 : decide (((rd_T35 l1 a2).f3) < (l0.length : Int)) = false := decide_eq_false c28
            clear c28
            simp only [Option.some.injEq, Prod.mk.injEq] at H
            obtain ⟨rfl, rfl⟩ := H
            try go_wp2
            have n0_ : Aside0 (Kd.R Kd.bool 4 ((((w21.setCell ⟨gb584, 0, none⟩ (.int .i64 ((rd_T35 l1 a2).f0))).setCell ⟨gb584, 1, none⟩ (.int .i64 ((rd_T35 l1 a2).f1))).setCell ⟨gb584, 2, none⟩ (.int .i64 ((rd_T35 l1 a2).f2))).setCell ⟨gb584, 3, none⟩ (.int .i64 ((rd_T35 l1 a2).f3))) w0.heap.size (fun k_ => (P4_ k_ ∨ w.heap.size ≤ k_)) (.slice (some ⟨go16, 0, none⟩) l4.length co16) y582) := ⟨by (with_reducible repeat (first | apply Kd.R_alloc | apply Kd.R_drewN | apply Kd.R_drew)); exact Kd.R_mono (Kd.R_far (p := ⟨gb584, 3, none⟩) (Kd.R_far (p := ⟨gb584, 2, none⟩) (Kd.R_far (p := ⟨gb584, 1, none⟩) (Kd.R_far (p := ⟨gb584, 0, none⟩) (Kd.R_types HO_4.out BK584.out (by decide)) (fun _ hk => hk.2) (.int .i64 ((rd_T35 l1 a2).f0))) (fun _ hk => hk.2) (.int .i64 ((rd_T35 l1 a2).f1))) (fun _ hk => hk.2) (.int .i64 ((rd_T35 l1 a2).f2))) (fun _ hk => hk.2) (.int .i64 ((rd_T35 l1 a2).f3))) (fun _ hk => hk.1)⟩
            have n1_ : Aside0 (((((w21.setCell ⟨gb584, 0, none⟩ (.int .i64 ((rd_T35 l1 a2).f0))).setCell ⟨gb584, 1, none⟩ (.int .i64 ((rd_T35 l1 a2).f1))).setCell ⟨gb584, 2, none⟩ (.int .i64 ((rd_T35 l1 a2).f2))).setCell ⟨gb584, 3, none⟩ (.int .i64 ((rd_T35 l1 a2).f3))).heap[gb580]? = some (.cells #[.int .i64 a3_0, .int .i64 a3_1] 74 (0, 0))) := ⟨by (with_reducible repeat (first | refine blk_drewN ?_ _ | refine blk_drew ?_ | refine blk_alloc ?_ _)); refine blk_far ?_ NB580_584.out _; (with_reducible repeat (first | refine blk_drewN ?_ _ | refine blk_drew ?_ | refine blk_alloc ?_ _)); refine blk_far ?_ NB580_584.out _; (with_reducible repeat (first | refine blk_drewN ?_ _ | refine blk_drew ?_ | refine blk_alloc ?_ _)); refine blk_far ?_ NB580_584.out _; (with_reducible repeat (first | refine blk_drewN ?_ _ | refine blk_drew ?_ | refine blk_alloc ?_ _)); refine blk_far ?_ NB580_584.out _; (with_reducible repeat (first | refine blk_drewN ?_ _ | refine blk_drew ?_ | refine blk_alloc ?_ _)); exact BK580.out⟩
            have n2_ : Aside0 (((((w21.setCell ⟨gb584, 0, none⟩ (.int .i64 ((rd_T35 l1 a2).f0))).setCell ⟨gb584, 1, none⟩ (.int .i64 ((rd_T35 l1 a2).f1))).setCell ⟨gb584, 2, none⟩ (.int .i64 ((rd_T35 l1 a2).f2))).setCell ⟨gb584, 3, none⟩ (.int .i64 ((rd_T35 l1 a2).f3))).heap[gb584]? = some (.cells #[.int .i64 ((rd_T35 l1 a2).f0), .int .i64 ((rd_T35 l1 a2).f1), .int .i64 ((rd_T35 l1 a2).f2), .int .i64 ((rd_T35 l1 a2).f3)] 35 (0, 0))) := ⟨by (with_reducible repeat (first | refine blk_drewN ?_ _ | refine blk_drew ?_ | refine blk_alloc ?_ _)); refine blk_put (cs := #[.int .i64 ((rd_T35 l1 a2).f0), .int .i64 ((rd_T35 l1 a2).f1), .int .i64 ((rd_T35 l1 a2).f2), .int .i64 0]) ?_ 3 _ rfl; (with_reducible repeat (first | refine blk_drewN ?_ _ | refine blk_drew ?_ | refine blk_alloc ?_ _)); refine blk_put (cs := #[.int .i64 ((rd_T35 l1 a2).f0), .int .i64 ((rd_T35 l1 a2).f1), .int .i64 0, .int .i64 0]) ?_ 2 _ rfl; (with_reducible repeat (first | refine blk_drewN ?_ _ | refine blk_drew ?_ | refine blk_alloc ?_ _)); refine blk_put (cs := #[.int .i64 ((rd_T35 l1 a2).f0), .int .i64 0, .int .i64 0, .int .i64 0]) ?_ 1 _ rfl; (with_reducible repeat (first | refine blk_drewN ?_ _ | refine blk_drew ?_ | refine blk_alloc ?_ _)); refine blk_put (cs := #[.int .i64 0, .int .i64 0, .int .i64 0, .int .i64 0]) ?_ 0 _ rfl; (with_reducible repeat (first | refine blk_drewN ?_ _ | refine blk_drew ?_ | refine blk_alloc ?_ _)); exact BK584.out⟩
            have n3_ : Aside0 (Kept w ((((w21.setCell ⟨gb584, 0, none⟩ (.int .i64 ((rd_T35 l1 a2).f0))).setCell ⟨gb584, 1, none⟩ (.int .i64 ((rd_T35 l1 a2).f1))).setCell ⟨gb584, 2, none⟩ (.int .i64 ((rd_T35 l1 a2).f2))).setCell ⟨gb584, 3, none⟩ (.int .i64 ((rd_T35 l1 a2).f3))) (fun k_ => P4_ k_)) := ⟨by repeat (first | (with_reducible first | exact HK.out | apply Kept.alloc | apply Kept.drewN | apply Kept.drew | refine Kept.setCell ?_ (.inr GW580.out) _ | refine Kept.setCell ?_ (.inr GW584.out) _) | exact HK.out)⟩
            have n4_ : Aside0 (Below w0.heap.size w0 ((((w21.setCell ⟨gb584, 0, none⟩ (.int .i64 ((rd_T35 l1 a2).f0))).setCell ⟨gb584, 1, none⟩ (.int .i64 ((rd_T35 l1 a2).f1))).setCell ⟨gb584, 2, none⟩ (.int .i64 ((rd_T35 l1 a2).f2))).setCell ⟨gb584, 3, none⟩ (.int .i64 ((rd_T35 l1 a2).f3)))) := ⟨by repeat (first | (with_reducible first | exact HB.out | apply below_alloc | apply pw_below_drewN | apply below_drew1 | refine below_set ?_ GE580.out | refine below_set ?_ GE584.out) | exact HB.out)⟩
            (try clear HO_4)
            (try clear BK580)
            (try clear BK584)
            (try clear HK)
            (try clear HB)
            generalize ((((w21.setCell ⟨gb584, 0, none⟩ (.int .i64 ((rd_T35 l1 a2).f0))).setCell ⟨gb584, 1, none⟩ (.int .i64 ((rd_T35 l1 a2).f1))).setCell ⟨gb584, 2, none⟩ (.int .i64 ((rd_T35 l1 a2).f2))).setCell ⟨gb584, 3, none⟩ (.int .i64 ((rd_T35 l1 a2).f3))) = w34 at n0_ n1_ n2_ n3_ n4_ ⊢
            have HO_4 := n0_
            have BK580 := n1_
            have BK584 := n2_
            have HK := n3_
            have HB := n4_
            clear n0_ n1_ n2_ n3_ n4_
            have n0_ := Aside0.mk (Kd.R_drew HO_4.out)
            have n1_ := Aside0.mk (blk_drew BK580.out)
            have n2_ := Aside0.mk (blk_drew BK584.out)
            have n3_ := Aside0.mk (Kept.drew HK.out)
            have n4_ := Aside0.mk (below_drew1 HB.out)
            clear HO_4
            clear BK580
            clear BK584
            clear HK
            clear HB
            have HO_4 := n0_
            have BK580 := n1_
            have BK584 := n2_
            have HK := n3_
            have HB := n4_
            clear n0_ n1_ n2_ n3_ n4_
            refine start_ (n := 30) (S := fun w' => w'.cell? ⟨gb584, 0, none⟩ = some (.int .i64 ((rd_T35 l1 a2).f0)) ∧ w'.cell? ⟨gb584, 1, none⟩ = some (.int .i64 ((rd_T35 l1 a2).f1)) ∧ w'.cell? ⟨gb584, 2, none⟩ = some (.int .i64 ((rd_T35 l1 a2).f2)) ∧ w'.cell? ⟨gb584, 3, none⟩ = some (.int .i64 ((rd_T35 l1 a2).f3))) (ds := []) #[false, false, false, false, false, false, false, false, false, false, false, false, false, false, false, false, false, false, false, false, false, false, false, false, false, false, false, false, false, false] zK rfl rfl ⟨(blk_cell BK584.out 0).trans rfl, (blk_cell BK584.out 1).trans rfl, (blk_cell BK584.out 2).trans rfl, (blk_cell BK584.out 3).trans rfl⟩ (fun hHeld => ?_); refine with_tabW ancepsref40_below.tab6 ancepsref40_below.bits6 (fun HT_ HW_ => ?_)
            generalize w34.drew = w35 at HO_4 BK580 BK584 HK HB hHeld ⊢
            refine pure_ (i := 0) (N := some 36) (v := ?_) (a' := ?_) #[true, false, false, false, false, false, false, false, false, false, false, false, false, false, false, false, false, false, false, false, false, false, false, false, false, false, false, false, false, false] rfl rfl (any_of HT_.out zK) (fun _ _ _ h => h) (Or.inl ⟨by rfl, ?_⟩) ?_ ?_
            rotate_left
            ·intro w'
             go_simp
             with_reducible rfl
            rotate_left
            ·simp only [Act.put, List.setIfInBounds_toArray, List.set_cons_zero, List.set_cons_succ, i64_w, i32_w]
             rfl
            refine take_ (i := 1) (N := some 37) (v := ?_) (a' := ?_) #[true, true, false, false, false, false, false, false, false, false, false, false, false, false, false, false, false, false, false, false, false, false, false, false, false, false, false, false, false, false] rfl rfl (take_ofW HT_.out HW_.out zK) (fun _ _ _ h => h) (Or.inl ⟨by rfl, ?_⟩) hHeld ?_ ?_
            rotate_left
            ·rintro w' ⟨s0, s1, s2, s3⟩
             go_simp
             with_reducible rfl
            rotate_left
            ·simp only [Act.put, List.setIfInBounds_toArray, List.set_cons_zero, List.set_cons_succ, i64_w, i32_w]
             rfl
            refine pure_ (i := 2) (N := some 38) (v := ?_) (a' := ?_) #[true, true, true, false, false, false, false, false, false, false, false, false, false, false, false, false, false, false, false, false, false, false, false, false, false, false, false, false, false, false] rfl rfl (any_of HT_.out zK) (fun _ _ _ h => h) (Or.inl ⟨by rfl, ?_⟩) ?_ ?_
            rotate_left
            ·intro w'
             go_simp
             with_reducible rfl
            rotate_left
            ·simp only [Act.put, List.setIfInBounds_toArray, List.set_cons_zero, List.set_cons_succ, i64_w, i32_w]
             rfl
            refine pure_ (i := 3) (N := some 39) (v := ?_) (a' := ?_) #[true, true, true, true, false, false, false, false, false, false, false, false, false, false, false, false, false, false, false, false, false, false, false, false, false, false, false, false, false, false] rfl rfl (any_of HT_.out zK) (fun _ _ _ h => h) (Or.inl ⟨by rfl, ?_⟩) ?_ ?_
            rotate_left
            ·intro w'
             go_simp
             with_reducible rfl
            rotate_left
            ·simp only [Act.put, List.setIfInBounds_toArray, List.set_cons_zero, List.set_cons_succ, i64_w, i32_w]
             rfl
            refine pure_ (i := 4) (N := some 40) (v := ?_) (a' := ?_) #[true, true, true, true, true, false, false, false, false, false, false, false, false, false, false, false, false, false, false, false, false, false, false, false, false, false, false, false, false, false] rfl rfl (any_of HT_.out zK) (fun _ _ _ h => h) (Or.inl ⟨by rfl, ?_⟩) ?_ ?_
            rotate_left
            ·intro w'
             go_simp
             with_reducible rfl
            rotate_left
            ·simp only [Act.put, List.setIfInBounds_toArray, List.set_cons_zero, List.set_cons_succ, i64_w, i32_w]
             rfl
            refine take_ (i := 5) (N := some 41) (v := ?_) (a' := ?_) #[true, true, true, true, true, true, false, false, false, false, false, false, false, false, false, false, false, false, false, false, false, false, false, false, false, false, false, false, false, false] rfl rfl (take_ofW HT_.out HW_.out zK) (fun _ _ _ h => h) (Or.inl ⟨by rfl, ?_⟩) hHeld ?_ ?_
            rotate_left
            ·rintro w' ⟨s0, s1, s2, s3⟩
             go_simp
             with_reducible rfl
            rotate_left
            ·simp only [Act.put, List.setIfInBounds_toArray, List.set_cons_zero, List.set_cons_succ, i64_w, i32_w]
             rfl
            refine pure_ (i := 6) (N := some 42) (v := ?_) (a' := ?_) #[true, true, true, true, true, true, true, false, false, false, false, false, false, false, false, false, false, false, false, false, false, false, false, false, false, false, false, false, false, false] rfl rfl (any_of HT_.out zK) (fun _ _ _ h => h) (Or.inl ⟨by rfl, ?_⟩) ?_ ?_
            rotate_left
            ·intro w'
             go_simp
             with_reducible rfl
            rotate_left
            ·simp only [Act.put, List.setIfInBounds_toArray, List.set_cons_zero, List.set_cons_succ, i64_w, i32_w]
             rfl
            refine pure_ (i := 7) (N := some 43) (v := ?_) (a' := ?_) #[true, true, true, true, true, true, true, true, false, false, false, false, false, false, false, false, false, false, false, false, false, false, false, false, false, false, false, false, false, false] rfl rfl (any_of HT_.out zK) (fun _ _ _ h => h) (Or.inl ⟨by rfl, ?_⟩) ?_ ?_
            rotate_left
            ·intro w'
             go_simp
             with_reducible rfl
            rotate_left
            ·simp only [Act.put, List.setIfInBounds_toArray, List.set_cons_zero, List.set_cons_succ, i64_w, i32_w]
             rfl
            refine pure_ (i := 8) (N := some 44) (v := ?_) (a' := ?_) #[true, true, true, true, true, true, true, true, true, false, false, false, false, false, false, false, false, false, false, false, false, false, false, false, false, false, false, false, false, false] rfl rfl (any_of HT_.out zK) (fun _ _ _ h => h) (Or.inl ⟨by rfl, ?_⟩) ?_ ?_
            rotate_left
            ·intro w'
             go_simp
             with_reducible rfl
            rotate_left
            ·simp only [Act.put, List.setIfInBounds_toArray, List.set_cons_zero, List.set_cons_succ, i64_w, i32_w]
             rfl
            refine pure_ (i := 9) (N := some 45) (v := ?_) (a' := ?_) #[true, true, true, true, true, true, true, true, true, true, false, false, false, false, false, false, false, false, false, false, false, false, false, false, false, false, false, false, false, false] rfl rfl (any_of HT_.out zK) (fun _ _ _ h => h) (Or.inl ⟨by rfl, ?_⟩) ?_ ?_
            rotate_left
            ·intro w'
             go_simp
             with_reducible rfl
            rotate_left
            ·simp only [Act.put, List.setIfInBounds_toArray, List.set_cons_zero, List.set_cons_succ, i64_w, i32_w]
             rfl
            refine take_ (i := 10) (N := some 46) (v := ?_) (a' := ?_) #[true, true, true, true, true, true, true, true, true, true, true, false, false, false, false, false, false, false, false, false, false, false, false, false, false, false, false, false, false, false] rfl rfl (take_ofW HT_.out HW_.out zK) (fun _ _ _ h => h) (Or.inl ⟨by rfl, ?_⟩) hHeld ?_ ?_
            rotate_left
            ·rintro w' ⟨s0, s1, s2, s3⟩
             go_simp
             with_reducible rfl
            rotate_left
            ·simp only [Act.put, List.setIfInBounds_toArray, List.set_cons_zero, List.set_cons_succ, i64_w, i32_w]
             rfl
            refine pure_ (i := 11) (N := some 47) (v := ?_) (a' := ?_) #[true, true, true, true, true, true, true, true, true, true, true, true, false, false, false, false, false, false, false, false, false, false, false, false, false, false, false, false, false, false] rfl rfl (any_of HT_.out zK) (fun _ _ _ h => h) (Or.inl ⟨by rfl, ?_⟩) ?_ ?_
            rotate_left
            ·intro w'
             go_simp
             with_reducible rfl
            rotate_left
            ·simp only [Act.put, List.setIfInBounds_toArray, List.set_cons_zero, List.set_cons_succ, i64_w, i32_w]
             rfl
            refine pure_ (i := 12) (N := some 48) (v := ?_) (a' := ?_) #[true, true, true, true, true, true, true, true, true, true, true, true, true, false, false, false, false, false, false, false, false, false, false, false, false, false, false, false, false, false] rfl rfl (any_of HT_.out zK) (fun _ _ _ h => h) (Or.inl ⟨by rfl, ?_⟩) ?_ ?_
            rotate_left
            ·intro w'
             go_simp
             with_reducible rfl
            rotate_left
            ·simp only [Act.put, List.setIfInBounds_toArray, List.set_cons_zero, List.set_cons_succ, i64_w, i32_w]
             rfl
            refine pure_ (i := 13) (N := some 49) (v := ?_) (a' := ?_) #[true, true, true, true, true, true, true, true, true, true, true, true, true, true, false, false, false, false, false, false, false, false, false, false, false, false, false, false, false, false] rfl rfl (any_of HT_.out zK) (fun _ _ _ h => h) (Or.inl ⟨by rfl, ?_⟩) ?_ ?_
            rotate_left
            ·intro w'
             go_simp
             with_reducible rfl
            rotate_left
            ·simp only [Act.put, List.setIfInBounds_toArray, List.set_cons_zero, List.set_cons_succ, i64_w, i32_w]
             rfl
            refine pure_ (i := 14) (N := some 50) (v := ?_) (a' := ?_) #[true, true, true, true, true, true, true, true, true, true, true, true, true, true, true, false, false, false, false, false, false, false, false, false, false, false, false, false, false, false] rfl rfl (any_of HT_.out zK) (fun _ _ _ h => h) (Or.inl ⟨by rfl, ?_⟩) ?_ ?_
            rotate_left
            ·intro w'
             go_simp
             with_reducible rfl
            rotate_left
            ·simp only [Act.put, List.setIfInBounds_toArray, List.set_cons_zero, List.set_cons_succ, i64_w, i32_w]
             rfl
            refine pure_ (i := 16) (N := some 52) (v := ?_) (a' := ?_) #[true, true, true, true, true, true, true, true, true, true, true, true, true, true, true, false, true, false, false, false, false, false, false, false, false, false, false, false, false, false] rfl rfl (any_of HT_.out zK) (fun _ _ _ h => h) (Or.inl ⟨by rfl, ?_⟩) ?_ ?_
            rotate_left
            ·intro w'
             go_simp
             with_reducible rfl
            rotate_left
            ·simp only [Act.put, List.setIfInBounds_toArray, List.set_cons_zero, List.set_cons_succ, i64_w, i32_w]
             rfl
            refine pure_ (i := 17) (N := some 53) (v := ?_) (a' := ?_) #[true, true, true, true, true, true, true, true, true, true, true, true, true, true, true, false, true, true, false, false, false, false, false, false, false, false, false, false, false, false] rfl rfl (any_of HT_.out zK) (fun _ _ _ h => h) (Or.inl ⟨by rfl, ?_⟩) ?_ ?_
            rotate_left
            ·intro w'
             go_simp
             with_reducible rfl
            rotate_left
            ·simp only [Act.put, List.setIfInBounds_toArray, List.set_cons_zero, List.set_cons_succ, i64_w, i32_w]
             rfl
            refine take_ (i := 15) (N := some 51) (v := ?_) (a' := ?_) #[true, true, true, true, true, true, true, true, true, true, true, true, true, true, true, true, true, true, false, false, false, false, false, false, false, false, false, false, false, false] rfl rfl (take_ofW HT_.out HW_.out zK) (fun _ _ _ h => h) (Or.inl ⟨by rfl, ?_⟩) hHeld ?_ ?_
            rotate_left
            ·rintro w' ⟨s0, s1, s2, s3⟩
             go_simp
             with_reducible rfl
            rotate_left
            ·simp only [Act.put, List.setIfInBounds_toArray, List.set_cons_zero, List.set_cons_succ, i64_w, i32_w]
             rfl
            refine pure_ (i := 18) (N := some 54) (v := ?_) (a' := ?_) #[true, true, true, true, true, true, true, true, true, true, true, true, true, true, true, true, true, true, true, false, false, false, false, false, false, false, false, false, false, false] rfl rfl (any_of HT_.out zK) (fun _ _ _ h => h) (Or.inl ⟨by rfl, ?_⟩) ?_ ?_
            rotate_left
            ·intro w'
             go_simp
             with_reducible rfl
            rotate_left
            ·simp only [Act.put, List.setIfInBounds_toArray, List.set_cons_zero, List.set_cons_succ, i64_w, i32_w]
             rfl
            refine pure_ (i := 19) (N := some 55) (v := ?_) (a' := ?_) #[true, true, true, true, true, true, true, true, true, true, true, true, true, true, true, true, true, true, true, true, false, false, false, false, false, false, false, false, false, false] rfl rfl (any_of HT_.out zK) (fun _ _ _ h => h) (Or.inl ⟨by rfl, ?_⟩) ?_ ?_
            rotate_left
            ·intro w'
             go_simp
             with_reducible rfl
            rotate_left
            ·simp only [Act.put, List.setIfInBounds_toArray, List.set_cons_zero, List.set_cons_succ, i64_w, i32_w]
             rfl
            refine pure_ (i := 20) (N := some 56) (v := ?_) (a' := ?_) #[true, true, true, true, true, true, true, true, true, true, true, true, true, true, true, true, true, true, true, true, true, false, false, false, false, false, false, false, false, false] rfl rfl (any_of HT_.out zK) (fun _ _ _ h => h) (Or.inl ⟨by rfl, ?_⟩) ?_ ?_
            rotate_left
            ·intro w'
             go_simp
             with_reducible rfl
            rotate_left
            ·simp only [Act.put, List.setIfInBounds_toArray, List.set_cons_zero, List.set_cons_succ, i64_w, i32_w]
             rfl
            refine pure_ (i := 21) (N := some 57) (v := undef) (a' := ?_) #[true, true, true, true, true, true, true, true, true, true, true, true, true, true, true, true, true, true, true, true, true, true, false, false, false, false, false, false, false, false] rfl rfl (any_of HT_.out zK) (fun _ _ _ h => h) (Or.inr ⟨by rfl, rfl⟩) ?_ ?_
            rotate_left
            ·simp only [Act.put, List.setIfInBounds_toArray, List.set_cons_zero, List.set_cons_succ, i64_w, i32_w]
             rfl
            refine pure_ (i := 22) (N := some 58) (v := undef) (a' := ?_) #[true, true, true, true, true, true, true, true, true, true, true, true, true, true, true, true, true, true, true, true, true, true, true, false, false, false, false, false, false, false] rfl rfl (any_of HT_.out zK) (fun _ _ _ h => h) (Or.inr ⟨by rfl, rfl⟩) ?_ ?_
            rotate_left
            ·simp only [Act.put, List.setIfInBounds_toArray, List.set_cons_zero, List.set_cons_succ, i64_w, i32_w]
             rfl
            refine pure_ (i := 23) (N := some 59) (v := undef) (a' := ?_) #[true, true, true, true, true, true, true, true, true, true, true, true, true, true, true, true, true, true, true, true, true, true, true, true, false, false, false, false, false, false] rfl rfl (any_of HT_.out zK) (fun _ _ _ h => h) (Or.inr ⟨by rfl, rfl⟩) ?_ ?_
            rotate_left
            ·simp only [Act.put, List.setIfInBounds_toArray, List.set_cons_zero, List.set_cons_succ, i64_w, i32_w]
             rfl
            refine pure_ (i := 24) (N := some 60) (v := undef) (a' := ?_) #[true, true, true, true, true, true, true, true, true, true, true, true, true, true, true, true, true, true, true, true, true, true, true, true, true, false, false, false, false, false] rfl rfl (any_of HT_.out zK) (fun _ _ _ h => h) (Or.inr ⟨by rfl, rfl⟩) ?_ ?_
            rotate_left
            ·simp only [Act.put, List.setIfInBounds_toArray, List.set_cons_zero, List.set_cons_succ, i64_w, i32_w]
             rfl
            refine pure_ (i := 25) (N := some 61) (v := undef) (a' := ?_) #[true, true, true, true, true, true, true, true, true, true, true, true, true, true, true, true, true, true, true, true, true, true, true, true, true, true, false, false, false, false] rfl rfl (any_of HT_.out zK) (fun _ _ _ h => h) (Or.inr ⟨by rfl, rfl⟩) ?_ ?_
            rotate_left
            ·simp only [Act.put, List.setIfInBounds_toArray, List.set_cons_zero, List.set_cons_succ, i64_w, i32_w]
             rfl
            refine pure_ (i := 26) (N := some 62) (v := undef) (a' := ?_) #[true, true, true, true, true, true, true, true, true, true, true, true, true, true, true, true, true, true, true, true, true, true, true, true, true, true, true, false, false, false] rfl rfl (any_of HT_.out zK) (fun _ _ _ h => h) (Or.inr ⟨by rfl, rfl⟩) ?_ ?_
            rotate_left
            ·simp only [Act.put, List.setIfInBounds_toArray, List.set_cons_zero, List.set_cons_succ, i64_w, i32_w]
             rfl
            refine pure_ (i := 27) (N := some 63) (v := undef) (a' := ?_) #[true, true, true, true, true, true, true, true, true, true, true, true, true, true, true, true, true, true, true, true, true, true, true, true, true, true, true, true, false, false] rfl rfl (any_of HT_.out zK) (fun _ _ _ h => h) (Or.inr ⟨by rfl, rfl⟩) ?_ ?_
            rotate_left
            ·simp only [Act.put, List.setIfInBounds_toArray, List.set_cons_zero, List.set_cons_succ, i64_w, i32_w]
             rfl
            refine pure_ (i := 28) (N := some 64) (v := ?_) (a' := ?_) #[true, true, true, true, true, true, true, true, true, true, true, true, true, true, true, true, true, true, true, true, true, true, true, true, true, true, true, true, true, false] rfl rfl (any_of HT_.out zK) (fun _ _ _ h => h) (Or.inl ⟨by rfl, ?_⟩) ?_ ?_
            rotate_left
            ·intro w'
             go_simp
             with_reducible rfl
            rotate_left
            ·simp only [Act.put, List.setIfInBounds_toArray, List.set_cons_zero, List.set_cons_succ, i64_w, i32_w]
             rfl
            refine pure_ (i := 29) (N := some 10) (v := ?_) (a' := ?_) #[true, true, true, true, true, true, true, true, true, true, true, true, true, true, true, true, true, true, true, true, true, true, true, true, true, true, true, true, true, true] rfl rfl (any_of HT_.out zK) (fun _ _ _ h => h) (Or.inl ⟨by rfl, ?_⟩) ?_ ?_
            rotate_left
            ·intro w'
             go_simp
             with_reducible rfl
            rotate_left
            ·simp only [Act.put, List.setIfInBounds_toArray, List.set_cons_zero, List.set_cons_succ, i64_w, i32_w]
             rfl
            refine done_ (done_of HT_.out zK) ?_
            try go_wp2
            go_ret
            exact ⟨by first | rfl | (simp [errW_none, errW_some] <;> rfl) | (simp [*, errW_none, errW_some] <;> rfl), by (with_reducible repeat (first | apply Kd.R_alloc | apply Kd.R_drewN | apply Kd.R_drew)); exact HO_4.out, by repeat (first | (with_reducible first | exact HB.out | apply below_alloc | apply pw_below_drewN | apply below_drew1 | refine below_set ?_ GE580.out | refine below_set ?_ GE584.out) | exact HB.out), by repeat (first | (with_reducible first | exact HK.out | apply Kept.alloc | apply Kept.drewN | apply Kept.drew | refine Kept.setCell ?_ (.inr GW580.out) _ | refine Kept.setCell ?_ (.inr GW584.out) _) | exact HK.out)⟩
          ·rw [if_neg c27] at H
           have c27b0 : decide (0 ≤ ((rd_T35 l1 a2).f3)) = false := decide_eq_false c27
           clear c27
           simp only [Option.some.injEq, Prod.mk.injEq] at H
           obtain ⟨rfl, rfl⟩ := H
           try go_wp2
           have n0_ : Aside0 (Kd.R Kd.bool 4 ((((w21.setCell ⟨gb584, 0, none⟩ (.int .i64 ((rd_T35 l1 a2).f0))).setCell ⟨gb584, 1, none⟩ (.int .i64 ((rd_T35 l1 a2).f1))).setCell ⟨gb584, 2, none⟩ (.int .i64 ((rd_T35 l1 a2).f2))).setCell ⟨gb584, 3, none⟩ (.int .i64 ((rd_T35 l1 a2).f3))) w0.heap.size (fun k_ => (P4_ k_ ∨ w.heap.size ≤ k_)) (.slice (some ⟨go16, 0, none⟩) l4.length co16) y582) := ⟨by (with_reducible repeat (first | apply Kd.R_alloc | apply Kd.R_drewN | apply Kd.R_drew)); exact Kd.R_mono (Kd.R_far (p := ⟨gb584, 3, none⟩) (Kd.R_far (p := ⟨gb584, 2, none⟩) (Kd.R_far (p := ⟨gb584, 1, none⟩) (Kd.R_far (p := ⟨gb584, 0, none⟩) (Kd.R_types HO_4.out BK584.out (by decide)) (fun _ hk => hk.2) (.int .i64 ((rd_T35 l1 a2).f0))) (fun _ hk => hk.2) (.int .i64 ((rd_T35 l1 a2).f1))) (fun _ hk => hk.2) (.int .i64 ((rd_T35 l1 a2).f2))) (fun _ hk => hk.2) (.int .i64 ((rd_T35 l1 a2).f3))) (fun _ hk => hk.1)⟩
           have n1_ : Aside0 (((((w21.setCell ⟨gb584, 0, none⟩ (.int .i64 ((rd_T35 l1 a2).f0))).setCell ⟨gb584, 1, none⟩ (.int .i64 ((rd_T35 l1 a2).f1))).setCell ⟨gb584, 2, none⟩ (.int .i64 ((rd_T35 l1 a2).f2))).setCell ⟨gb584, 3, none⟩ (.int .i64 ((rd_T35 l1 a2).f3))).heap[gb580]? = some (.cells #[.int .i64 a3_0, .int .i64 a3_1] 74 (0, 0))) := ⟨by (with_reducible repeat (first | refine blk_drewN ?_ _ | refine blk_drew ?_ | refine blk_alloc ?_ _)); refine blk_far ?_ NB580_584.out _; (with_reducible repeat (first | refine blk_drewN ?_ _ | refine blk_drew ?_ | refine blk_alloc ?_ _)); refine blk_far ?_ NB580_584.out _; (with_reducible repeat (first | refine blk_drewN ?_ _ | refine blk_drew ?_ | refine blk_alloc ?_ _)); refine blk_far ?_ NB580_584.out _; (with_reducible repeat (first | refine blk_drewN ?_ _ | refine blk_drew ?_ | refine blk_alloc ?_ _)); refine blk_far ?_ NB580_584.out _; (with_reducible repeat (first | refine blk_drewN ?_ _ | refine blk_drew ?_ | refine blk_alloc ?_ _)); exact BK580.out⟩
           have n2_ : Aside0 (((((w21.setCell ⟨gb584, 0, none⟩ (.int .i64 ((rd_T35 l1 a2).f0))).setCell ⟨gb584, 1, none⟩ (.int .i64 ((rd_T35 l1 a2).f1))).setCell ⟨gb584, 2, none⟩ (.int .i64 ((rd_T35 l1 a2).f2))).setCell ⟨gb584, 3, none⟩ (.int .i64 ((rd_T35 l1 a2).f3))).heap[gb584]? = some (.cells #[.int .i64 ((rd_T35 l1 a2).f0), .int .i64 ((rd_T35 l1 a2).f1), .int .i64 ((rd_T35 l1 a2).f2), .int .i64 ((rd_T35 l1 a2).f3)] 35 (0, 0))) := ⟨by (with_reducible repeat (first | refine blk_drewN ?_ _ | refine blk_drew ?_ | refine blk_alloc ?_ _)); refine blk_put (cs := #[.int .i64 ((rd_T35 l1 a2).f0), .int .i64 ((rd_T35 l1 a2).f1), .int .i64 ((rd_T35 l1 a2).f2), .int .i64 0]) ?_ 3 _ rfl; (with_reducible repeat (first | refine blk_drewN ?_ _ | refine blk_drew ?_ | refine blk_alloc ?_ _)); refine blk_put (cs := #[.int .i64 ((rd_T35 l1 a2).f0), .int .i64 ((rd_T35 l1 a2).f1), .int .i64 0, .int .i64 0]) ?_ 2 _ rfl; (with_reducible repeat (first | refine blk_drewN ?_ _ | refine blk_drew ?_ | refine blk_alloc ?_ _)); refine blk_put (cs := #[.int .i64 ((rd_T35 l1 a2).f0), .int .i64 0, .int .i64 0, .int .i64 0]) ?_ 1 _ rfl; (with_reducible repeat (first | refine blk_drewN ?_ _ | refine blk_drew ?_ | refine blk_alloc ?_ _)); refine blk_put (cs := #[.int .i64 0, .int .i64 0, .int .i64 0, .int .i64 0]) ?_ 0 _ rfl; (with_reducible repeat (first | refine blk_drewN ?_ _ | refine blk_drew ?_ | refine blk_alloc ?_ _)); exact BK584.out⟩
           have n3_ : Aside0 (Kept w ((((w21.setCell ⟨gb584, 0, none⟩ (.int .i64 ((rd_T35 l1 a2).f0))).setCell ⟨gb584, 1, none⟩ (.int .i64 ((rd_T35 l1 a2).f1))).setCell ⟨gb584, 2, none⟩ (.int .i64 ((rd_T35 l1 a2).f2))).setCell ⟨gb584, 3, none⟩ (.int .i64 ((rd_T35 l1 a2).f3))) (fun k_ => P4_ k_)) := ⟨by repeat (first | (with_reducible first | exact HK.out | apply Kept.alloc | apply Kept.drewN | apply Kept.drew | refine Kept.setCell ?_ (.inr GW580.out) _ | refine Kept.setCell ?_ (.inr GW584.out) _) | exact HK.out)⟩
           have n4_ : Aside0 (Below w0.heap.size w0 ((((w21.setCell ⟨gb584, 0, none⟩ (.int .i64 ((rd_T35 l1 a2).f0))).setCell ⟨gb584, 1, none⟩ (.int .i64 ((rd_T35 l1 a2).f1))).setCell ⟨gb584, 2, none⟩ (.int .i64 ((rd_T35 l1 a2).f2))).setCell ⟨gb584, 3, none⟩ (.int .i64 ((rd_T35 l1 a2).f3)))) := ⟨by repeat (first | (with_reducible first | exact HB.out | apply below_alloc | apply pw_below_drewN | apply below_drew1 | refine below_set ?_ GE580.out | refine below_set ?_ GE584.out) | exact HB.out)⟩
           (try clear HO_4)
           (try clear BK580)
           (try clear BK584)
           (try clear HK)
           (try clear HB)
           generalize ((((w21.setCell ⟨gb584, 0, none⟩ (.int .i64 ((rd_T35 l1 a2).f0))).setCell ⟨gb584, 1, none⟩ (.int .i64 ((rd_T35 l1 a2).f1))).setCell ⟨gb584, 2, none⟩ (.int .i64 ((rd_T35 l1 a2).f2))).setCell ⟨gb584, 3, none⟩ (.int .i64 ((rd_T35 l1 a2).f3))) = w36 at n0_ n1_ n2_ n3_ n4_ ⊢
           have HO_4 := n0_
           have BK580 := n1_
           have BK584 := n2_
           have HK := n3_
           have HB := n4_
           clear n0_ n1_ n2_ n3_ n4_
           have n0_ := Aside0.mk (Kd.R_drew HO_4.out)
           have n1_ := Aside0.mk (blk_drew BK580.out)
           have n2_ := Aside0.mk (blk_drew BK584.out)
           have n3_ := Aside0.mk (Kept.drew HK.out)
           have n4_ := Aside0.mk (below_drew1 HB.out)
           clear HO_4
           clear BK580
           clear BK584
           clear HK
           clear HB
           have HO_4 := n0_
           have BK580 := n1_
           have BK584 := n2_
           have HK := n3_
           have HB := n4_
           clear n0_ n1_ n2_ n3_ n4_
           refine start_ (n := 30) (S := fun w' => w'.cell? ⟨gb584, 0, none⟩ = some (.int .i64 ((rd_T35 l1 a2).f0)) ∧ w'.cell? ⟨gb584, 1, none⟩ = some (.int .i64 ((rd_T35 l1 a2).f1)) ∧ w'.cell? ⟨gb584, 2, none⟩ = some (.int .i64 ((rd_T35 l1 a2).f2)) ∧ w'.cell? ⟨gb584, 3, none⟩ = some (.int .i64 ((rd_T35 l1 a2).f3))) (ds := []) #[false, false, false, false, false, false, false, false, false, false, false, false, false, false, false, false, false, false, false, false, false, false, false, false, false, false, false, false, false, false] zK rfl rfl ⟨(blk_cell BK584.out 0).trans rfl, (blk_cell BK584.out 1).trans rfl, (blk_cell BK584.out 2).trans rfl, (blk_cell BK584.out 3).trans rfl⟩ (fun hHeld => ?_); refine with_tabW ancepsref40_below.tab6 ancepsref40_below.bits6 (fun HT_ HW_ => ?_)
           generalize w36.drew = w37 at HO_4 BK580 BK584 HK HB hHeld ⊢
           refine pure_ (i := 0) (N := some 36) (v := ?_) (a' := ?_) #[true, false, false, false, false, false, false, false, false, false, false, false, false, false, false, false, false, false, false, false, false, false, false, false, false, false, false, false, false, false] rfl rfl (any_of HT_.out zK) (fun _ _ _ h => h) (Or.inl ⟨by rfl, ?_⟩) ?_ ?_
           rotate_left
           ·intro w'
            go_simp
            with_reducible rfl
           rotate_left
           ·simp only [Act.put, List.setIfInBounds_toArray, List.set_cons_zero, List.set_cons_succ, i64_w, i32_w]
            rfl
           refine take_ (i := 1) (N := some 37) (v := ?_) (a' := ?_) #[true, true, false, false, false, false, false, false, false, false, false, false, false, false, false, false, false, false, false, false, false, false, false, false, false, false, false, false, false, false] rfl rfl (take_ofW HT_.out HW_.out zK) (fun _ _ _ h => h) (Or.inl ⟨by rfl, ?_⟩) hHeld ?_ ?_
           rotate_left
           ·rintro w' ⟨s0, s1, s2, s3⟩
            go_simp
            with_reducible rfl
           rotate_left
           ·simp only [Act.put, List.setIfInBounds_toArray, List.set_cons_zero, List.set_cons_succ, i64_w, i32_w]
            rfl
           refine pure_ (i := 2) (N := some 38) (v := ?_) (a' := ?_) #[true, true, true, false, false, false, false, false, false, false, false, false, false, false, false, false, false, false, false, false, false, false, false, false, false, false, false, false, false, false] rfl rfl (any_of HT_.out zK) (fun _ _ _ h => h) (Or.inl ⟨by rfl, ?_⟩) ?_ ?_
           rotate_left
           ·intro w'
            go_simp
            with_reducible rfl
           rotate_left
           ·simp only [Act.put, List.setIfInBounds_toArray, List.set_cons_zero, List.set_cons_succ, i64_w, i32_w]
            rfl
           refine pure_ (i := 3) (N := some 39) (v := ?_) (a' := ?_) #[true, true, true, true, false, false, false, false, false, false, false, false, false, false, false, false, false, false, false, false, false, false, false, false, false, false, false, false, false, false] rfl rfl (any_of HT_.out zK) (fun _ _ _ h => h) (Or.inl ⟨by rfl, ?_⟩) ?_ ?_
           rotate_left
           ·intro w'
            go_simp
            with_reducible rfl
           rotate_left
           ·simp only [Act.put, List.setIfInBounds_toArray, List.set_cons_zero, List.set_cons_succ, i64_w, i32_w]
            rfl
           refine pure_ (i := 4) (N := some 40) (v := ?_) (a' := ?_) #[true, true, true, true, true, false, false, false, false, false, false, false, false, false, false, false, false, false, false, false, false, false, false, false, false, false, false, false, false, false] rfl rfl (any_of HT_.out zK) (fun _ _ _ h => h) (Or.inl ⟨by rfl, ?_⟩) ?_ ?_
           rotate_left
           ·intro w'
            go_simp
            with_reducible rfl
           rotate_left
           ·simp only [Act.put, List.setIfInBounds_toArray, List.set_cons_zero, List.set_cons_succ, i64_w, i32_w]
            rfl
           refine take_ (i := 5) (N := some 41) (v := ?_) (a' := ?_) #[true, true, true, true, true, true, false, false, false, false, false, false, false, false, false, false, false, false, false, false, false, false, false, false, false, false, false, false, false, false] rfl rfl (take_ofW HT_.out HW_.out zK) (fun _ _ _ h => h) (Or.inl ⟨by rfl, ?_⟩) hHeld ?_ ?_
           rotate_left
           ·rintro w' ⟨s0, s1, s2, s3⟩
            go_simp
            with_reducible rfl
           rotate_left
           ·simp only [Act.put, List.setIfInBounds_toArray, List.set_cons_zero, List.set_cons_succ, i64_w, i32_w]
            rfl
           refine pure_ (i := 6) (N := some 42) (v := ?_) (a' := ?_) #[true, true, true, true, true, true, true, false, false, false, false, false, false, false, false, false, false, false, false, false, false, false, false, false, false, false, false, false, false, false] rfl rfl (any_of HT_.out zK) (fun _ _ _ h => h) (Or.inl ⟨by rfl, ?_⟩) ?_ ?_
           rotate_left
           ·intro w'
            go_simp
            with_reducible rfl
           rotate_left
           ·simp only [Act.put, List.setIfInBounds_toArray, List.set_cons_zero, List.set_cons_succ, i64_w, i32_w]
            rfl
           refine pure_ (i := 7) (N := some 43) (v := ?_) (a' := ?_) #[true, true, true, true, true, true, true, true, false, false, false, false, false, false, false, false, false, false, false, false, false, false, false, false, false, false, false, false, false, false] rfl rfl (any_of HT_.out zK) (fun _ _ _ h => h) (Or.inl ⟨by rfl, ?_⟩) ?_ ?_
           rotate_left
           ·intro w'
            go_simp
            with_reducible rfl
           rotate_left
           ·simp only [Act.put, List.setIfInBounds_toArray, List.set_cons_zero, List.set_cons_succ, i64_w, i32_w]
            rfl
           refine pure_ (i := 8) (N := some 44) (v := ?_) (a' := ?_) #[true, true, true, true, true, true, true, true, true, false, false, false, false, false, false, false, false, false, false, false, false, false, false, false, false, false, false, false, false, false] rfl rfl (any_of HT_.out zK) (fun _ _ _ h => h) (Or.inl ⟨by rfl, ?_⟩) ?_ ?_
           rotate_left
           ·intro w'
            go_simp
            with_reducible rfl
           rotate_left
           ·simp only [Act.put, List.setIfInBounds_toArray, List.set_cons_zero, List.set_cons_succ, i64_w, i32_w]
            rfl
           refine pure_ (i := 9) (N := some 45) (v := ?_) (a' := ?_) #[true, true, true, true, true, true, true, true, true, true, false, false, false, false, false, false, false, false, false, false, false, false, false, false, false, false, false, false, false, false] rfl rfl (any_of HT_.out zK) (fun _ _ _ h => h) (Or.inl ⟨by rfl, ?_⟩) ?_ ?_
           rotate_left
           ·intro w'
            go_simp
            with_reducible rfl
           rotate_left
           ·simp only [Act.put, List.setIfInBounds_toArray, List.set_cons_zero, List.set_cons_succ, i64_w, i32_w]
            rfl
           refine take_ (i := 10) (N := some 46) (v := ?_) (a' := ?_) #[true, true, true, true, true, true, true, true, true, true, true, false, false, false, false, false, false, false, false, false, false, false, false, false, false, false, false, false, false, false] rfl rfl (take_ofW HT_.out HW_.out zK) (fun _ _ _ h => h) (Or.inl ⟨by rfl, ?_⟩) hHeld ?_ ?_
           rotate_left
           ·rintro w' ⟨s0, s1, s2, s3⟩
            go_simp
            with_reducible rfl
           rotate_left
           ·simp only [Act.put, List.setIfInBounds_toArray, List.set_cons_zero, List.set_cons_succ, i64_w, i32_w]
            rfl
           refine pure_ (i := 11) (N := some 47) (v := ?_) (a' := ?_) #[true, true, true, true, true, true, true, true, true, true, true, true, false, false, false, false, false, false, false, false, false, false, false, false, false, false, false, false, false, false] rfl rfl (any_of HT_.out zK) (fun _ _ _ h => h) (Or.inl ⟨by rfl, ?_⟩) ?_ ?_
           rotate_left
           ·intro w'
            go_simp
            with_reducible rfl
           rotate_left
           ·simp only [Act.put, List.setIfInBounds_toArray, List.set_cons_zero, List.set_cons_succ, i64_w, i32_w]
            rfl
           refine pure_ (i := 12) (N := some 48) (v := ?_) (a' := ?_) #[true, true, true, true, true, true, true, true, true, true, true, true, true, false, false, false, false, false, false, false, false, false, false, false, false, false, false, false, false, false] rfl rfl (any_of HT_.out zK) (fun _ _ _ h => h) (Or.inl ⟨by rfl, ?_⟩) ?_ ?_
           rotate_left
           ·intro w'
            go_simp
            with_reducible rfl
           rotate_left
           ·simp only [Act.put, List.setIfInBounds_toArray, List.set_cons_zero, List.set_cons_succ, i64_w, i32_w]
            rfl
           refine pure_ (i := 13) (N := some 49) (v := ?_) (a' := ?_) #[true, true, true, true, true, true, true, true, true, true, true, true, true, true, false, false, false, false, false, false, false, false, false, false, false, false, false, false, false, false] rfl rfl (any_of HT_.out zK) (fun _ _ _ h => h) (Or.inl ⟨by rfl, ?_⟩) ?_ ?_
           rotate_left
           ·intro w'
            go_simp
            with_reducible rfl
           rotate_left
           ·simp only [Act.put, List.setIfInBounds_toArray, List.set_cons_zero, List.set_cons_succ, i64_w, i32_w]
            rfl
           refine pure_ (i := 14) (N := some 50) (v := undef) (a' := ?_) #[true, true, true, true, true, true, true, true, true, true, true, true, true, true, true, false, false, false, false, false, false, false, false, false, false, false, false, false, false, false] rfl rfl (any_of HT_.out zK) (fun _ _ _ h => h) (Or.inr ⟨by rfl, rfl⟩) ?_ ?_
           rotate_left
           ·simp only [Act.put, List.setIfInBounds_toArray, List.set_cons_zero, List.set_cons_succ, i64_w, i32_w]
            rfl
           refine pure_ (i := 15) (N := some 51) (v := undef) (a' := ?_) #[true, true, true, true, true, true, true, true, true, true, true, true, true, true, true, true, false, false, false, false, false, false, false, false, false, false, false, false, false, false] rfl rfl (any_of HT_.out zK) (fun _ _ _ h => h) (Or.inr ⟨by rfl, rfl⟩) ?_ ?_
           rotate_left
           ·simp only [Act.put, List.setIfInBounds_toArray, List.set_cons_zero, List.set_cons_succ, i64_w, i32_w]
            rfl
           refine pure_ (i := 16) (N := some 52) (v := undef) (a' := ?_) #[true, true, true, true, true, true, true, true, true, true, true, true, true, true, true, true, true, false, false, false, false, false, false, false, false, false, false, false, false, false] rfl rfl (any_of HT_.out zK) (fun _ _ _ h => h) (Or.inr ⟨by rfl, rfl⟩) ?_ ?_
           rotate_left
           ·simp only [Act.put, List.setIfInBounds_toArray, List.set_cons_zero, List.set_cons_succ, i64_w, i32_w]
            rfl
           refine pure_ (i := 17) (N := some 53) (v := undef) (a' := ?_) #[true, true, true, true, true, true, true, true, true, true, true, true, true, true, true, true, true, true, false, false, false, false, false, false, false, false, false, false, false, false] rfl rfl (any_of HT_.out zK) (fun _ _ _ h => h) (Or.inr ⟨by rfl, rfl⟩) ?_ ?_
           rotate_left
           ·simp only [Act.put, List.setIfInBounds_toArray, List.set_cons_zero, List.set_cons_succ, i64_w, i32_w]
            rfl
           refine pure_ (i := 18) (N := some 54) (v := undef) (a' := ?_) #[true, true, true, true, true, true, true, true, true, true, true, true, true, true, true, true, true, true, true, false, false, false, false, false, false, false, false, false, false, false] rfl rfl (any_of HT_.out zK) (fun _ _ _ h => h) (Or.inr ⟨by rfl, rfl⟩) ?_ ?_
           rotate_left
           ·simp only [Act.put, List.setIfInBounds_toArray, List.set_cons_zero, List.set_cons_succ, i64_w, i32_w]
            rfl
           refine pure_ (i := 19) (N := some 55) (v := ?_) (a' := ?_) #[true, true, true, true, true, true, true, true, true, true, true, true, true, true, true, true, true, true, true, true, false, false, false, false, false, false, false, false, false, false] rfl rfl (any_of HT_.out zK) (fun _ _ _ h => h) (Or.inl ⟨by rfl, ?_⟩) ?_ ?_
           rotate_left
           ·intro w'
            go_simp
            with_reducible rfl
           rotate_left
           ·simp only [Act.put, List.setIfInBounds_toArray, List.set_cons_zero, List.set_cons_succ, i64_w, i32_w]
            rfl
           refine pure_ (i := 20) (N := some 56) (v := ?_) (a' := ?_) #[true, true, true, true, true, true, true, true, true, true, true, true, true, true, true, true, true, true, true, true, true, false, false, false, false, false, false, false, false, false] rfl rfl (any_of HT_.out zK) (fun _ _ _ h => h) (Or.inl ⟨by rfl, ?_⟩) ?_ ?_
           rotate_left
           ·intro w'
            go_simp
            with_reducible rfl
           rotate_left
           ·simp only [Act.put, List.setIfInBounds_toArray, List.set_cons_zero, List.set_cons_succ, i64_w, i32_w]
            rfl
           refine pure_ (i := 21) (N := some 57) (v := undef) (a' := ?_) #[true, true, true, true, true, true, true, true, true, true, true, true, true, true, true, true, true, true, true, true, true, true, false, false, false, false, false, false, false, false] rfl rfl (any_of HT_.out zK) (fun _ _ _ h => h) (Or.inr ⟨by rfl, rfl⟩) ?_ ?_
           rotate_left
           ·simp only [Act.put, List.setIfInBounds_toArray, List.set_cons_zero, List.set_cons_succ, i64_w, i32_w]
            rfl
           refine pure_ (i := 22) (N := some 58) (v := undef) (a' := ?_) #[true, true, true, true, true, true, true, true, true, true, true, true, true, true, true, true, true, true, true, true, true, true, true, false, false, false, false, false, false, false] rfl rfl (any_of HT_.out zK) (fun _ _ _ h => h) (Or.inr ⟨by rfl, rfl⟩) ?_ ?_
           rotate_left
           ·simp only [Act.put, List.setIfInBounds_toArray, List.set_cons_zero, List.set_cons_succ, i64_w, i32_w]
            rfl
           refine pure_ (i := 23) (N := some 59) (v := undef) (a' := ?_) #[true, true, true, true, true, true, true, true, true, true, true, true, true, true, true, true, true, true, true, true, true, true, true, true, false, false, false, false, false, false] rfl rfl (any_of HT_.out zK) (fun _ _ _ h => h) (Or.inr ⟨by rfl, rfl⟩) ?_ ?_
           rotate_left
           ·simp only [Act.put, List.setIfInBounds_toArray, List.set_cons_zero, List.set_cons_succ, i64_w, i32_w]
            rfl
           refine pure_ (i := 24) (N := some 60) (v := undef) (a' := ?_) #[true, true, true, true, true, true, true, true, true, true, true, true, true, true, true, true, true, true, true, true, true, true, true, true, true, false, false, false, false, false] rfl rfl (any_of HT_.out zK) (fun _ _ _ h => h) (Or.inr ⟨by rfl, rfl⟩) ?_ ?_
           rotate_left
           ·simp only [Act.put, List.setIfInBounds_toArray, List.set_cons_zero, List.set_cons_succ, i64_w, i32_w]
            rfl
           refine pure_ (i := 25) (N := some 61) (v := undef) (a' := ?_) #[true, true, true, true, true, true, true, true, true, true, true, true, true, true, true, true, true, true, true, true, true, true, true, true, true, true, false, false, false, false] rfl rfl (any_of HT_.out zK) (fun _ _ _ h => h) (Or.inr ⟨by rfl, rfl⟩) ?_ ?_
           rotate_left
           ·simp only [Act.put, List.setIfInBounds_toArray, List.set_cons_zero, List.set_cons_succ, i64_w, i32_w]
            rfl
           refine pure_ (i := 26) (N := some 62) (v := undef) (a' := ?_) #[true, true, true, true, true, true, true, true, true, true, true, true, true, true, true, true, true, true, true, true, true, true, true, true, true, true, true, false, false, false] rfl rfl (any_of HT_.out zK) (fun _ _ _ h => h) (Or.inr ⟨by rfl, rfl⟩) ?_ ?_
           rotate_left
           ·simp only [Act.put, List.setIfInBounds_toArray, List.set_cons_zero, List.set_cons_succ, i64_w, i32_w]
            rfl
           refine pure_ (i := 27) (N := some 63) (v := undef) (a' := ?_) #[true, true, true, true, true, true, true, true, true, true, true, true, true, true, true, true, true, true, true, true, true, true, true, true, true, true, true, true, false, false] rfl rfl (any_of HT_.out zK) (fun _ _ _ h => h) (Or.inr ⟨by rfl, rfl⟩) ?_ ?_
           rotate_left
           ·simp only [Act.put, List.setIfInBounds_toArray, List.set_cons_zero, List.set_cons_succ, i64_w, i32_w]
            rfl
           refine pure_ (i := 28) (N := some 64) (v := ?_) (a' := ?_) #[true, true, true, true, true, true, true, true, true, true, true, true, true, true, true, true, true, true, true, true, true, true, true, true, true, true, true, true, true, false] rfl rfl (any_of HT_.out zK) (fun _ _ _ h => h) (Or.inl ⟨by rfl, ?_⟩) ?_ ?_
           rotate_left
           ·intro w'
            go_simp
            with_reducible rfl
           rotate_left
           ·simp only [Act.put, List.setIfInBounds_toArray, List.set_cons_zero, List.set_cons_succ, i64_w, i32_w]
            rfl
           refine pure_ (i := 29) (N := some 10) (v := ?_) (a' := ?_) #[true, true, true, true, true, true, true, true, true, true, true, true, true, true, true, true, true, true, true, true, true, true, true, true, true, true, true, true, true, true] rfl rfl (any_of HT_.out zK) (fun _ _ _ h => h) (Or.inl ⟨by rfl, ?_⟩) ?_ ?_
           rotate_left
           ·intro w'
            go_simp
            with_reducible rfl
           rotate_left
           ·simp only [Act.put, List.setIfInBounds_toArray, List.set_cons_zero, List.set_cons_succ, i64_w, i32_w]
            rfl
           refine done_ (done_of HT_.out zK) ?_
           try go_wp2
           go_ret
           exact ⟨by first | rfl | (simp [errW_none, errW_some] <;> rfl) | (simp [*, errW_none, errW_some] <;> rfl), by (with_reducible repeat (first | apply Kd.R_alloc | apply Kd.R_drewN | apply Kd.R_drew)); exact HO_4.out, by repeat (first | (with_reducible first | exact HB.out | apply below_alloc | apply pw_below_drewN | apply below_drew1 | refine below_set ?_ GE580.out | refine below_set ?_ GE584.out) | exact HB.out), by repeat (first | (with_reducible first | exact HK.out | apply Kept.alloc | apply Kept.drewN | apply Kept.drew | refine Kept.setCell ?_ (.inr GW580.out) _ | refine Kept.setCell ?_ (.inr GW584.out) _) | exact HK.out)⟩
         ·rw [if_neg c26] at H
          have c26b0 : (((rd_T35 l1 a2).f2) == 0) = false := beq_eq_false_iff_ne.mpr c26
          have c26b1 : (((rd_T35 l1 a2).f2) != 0) = true := bne_iff_ne.mpr c26
          simp only [Option.some.injEq, Prod.mk.injEq] at H
          obtain ⟨rfl, rfl⟩ := H
          try go_wp2
          have n0_ : Aside0 (Kd.R Kd.bool 4 ((((w21.setCell ⟨gb584, 0, none⟩ (.int .i64 ((rd_T35 l1 a2).f0))).setCell ⟨gb584, 1, none⟩ (.int .i64 ((rd_T35 l1 a2).f1))).setCell ⟨gb584, 2, none⟩ (.int .i64 ((rd_T35 l1 a2).f2))).setCell ⟨gb584, 3, none⟩ (.int .i64 ((rd_T35 l1 a2).f3))) w0.heap.size (fun k_ => (P4_ k_ ∨ w.heap.size ≤ k_)) (.slice (some ⟨go16, 0, none⟩) l4.length co16) y582) := ⟨by (with_reducible repeat (first | apply Kd.R_alloc | apply Kd.R_drewN | apply Kd.R_drew)); exact Kd.R_mono (Kd.R_far (p := ⟨gb584, 3, none⟩) (Kd.R_far (p := ⟨gb584, 2, none⟩) (Kd.R_far (p := ⟨gb584, 1, none⟩) (Kd.R_far (p := ⟨gb584, 0, none⟩) (Kd.R_types HO_4.out BK584.out (by decide)) (fun _ hk => hk.2) (.int .i64 ((rd_T35 l1 a2).f0))) (fun _ hk => hk.2) (.int .i64 ((rd_T35 l1 a2).f1))) (fun _ hk => hk.2) (.int .i64 ((rd_T35 l1 a2).f2))) (fun _ hk => hk.2) (.int .i64 ((rd_T35 l1 a2).f3))) (fun _ hk => hk.1)⟩
          have n1_ : Aside0 (((((w21.setCell ⟨gb584, 0, none⟩ (.int .i64 ((rd_T35 l1 a2).f0))).setCell ⟨gb584, 1, none⟩ (.int .i64 ((rd_T35 l1 a2).f1))).setCell ⟨gb584, 2, none⟩ (.int .i64 ((rd_T35 l1 a2).f2))).setCell ⟨gb584, 3, none⟩ (.int .i64 ((rd_T35 l1 a2).f3))).heap[gb580]? = some (.cells #[.int .i64 a3_0, .int .i64 a3_1] 74 (0, 0))) := ⟨by (with_reducible repeat (first | refine blk_drewN ?_ _ | refine blk_drew ?_ | refine blk_alloc ?_ _)); refine blk_far ?_ NB580_584.out _; (with_reducible repeat (first | refine blk_drewN ?_ _ | refine blk_drew ?_ | refine blk_alloc ?_ _)); refine blk_far ?_ NB580_584.out _; (with_reducible repeat (first | refine blk_drewN ?_ _ | refine blk_drew ?_ | refine blk_alloc ?_ _)); refine blk_far ?_ NB580_584.out _; (with_reducible repeat (first | refine blk_drewN ?_ _ | refine blk_drew ?_ | refine blk_alloc ?_ _)); refine blk_far ?_ NB580_584.out _; (with_reducible repeat (first | refine blk_drewN ?_ _ | refine blk_drew ?_ | refine blk_alloc ?_ _)); exact BK580.out⟩
          have n2_ : Aside0 (((((w21.setCell ⟨gb584, 0, none⟩ (.int .i64 ((rd_T35 l1 a2).f0))).setCell ⟨gb584, 1, none⟩ (.int .i64 ((rd_T35 l1 a2).f1))).setCell ⟨gb584, 2, none⟩ (.int .i64 ((rd_T35 l1 a2).f2))).setCell ⟨gb584, 3, none⟩ (.int .i64 ((rd_T35 l1 a2).f3))).heap[gb584]? = some (.cells #[.int .i64 ((rd_T35 l1 a2).f0), .int .i64 ((rd_T35 l1 a2).f1), .int .i64 ((rd_T35 l1 a2).f2), .int .i64 ((rd_T35 l1 a2).f3)] 35 (0, 0))) := ⟨by (with_reducible repeat (first | refine blk_drewN ?_ _ | refine blk_drew ?_ | refine blk_alloc ?_ _)); refine blk_put (cs := #[.int .i64 ((rd_T35 l1 a2).f0), .int .i64 ((rd_T35 l1 a2).f1), .int .i64 ((rd_T35 l1 a2).f2), .int .i64 0]) ?_ 3 _ rfl; (with_reducible repeat (first | refine blk_drewN ?_ _ | refine blk_drew ?_ | refine blk_alloc ?_ _)); refine blk_put (cs := #[.int .i64 ((rd_T35 l1 a2).f0), .int .i64 ((rd_T35 l1 a2).f1), .int .i64 0, .int .i64 0]) ?_ 2 _ rfl; (with_reducible repeat (first | refine blk_drewN ?_ _ | refine blk_drew ?_ | refine blk_alloc ?_ _)); refine blk_put (cs := #[.int .i64 ((rd_T35 l1 a2).f0), .int .i64 0, .int .i64 0, .int .i64 0]) ?_ 1 _ rfl; (with_reducible repeat (first | refine blk_drewN ?_ _ | refine blk_drew ?_ | refine blk_alloc ?_ _)); refine blk_put (cs := #[.int .i64 0, .int .i64 0, .int .i64 0, .int .i64 0]) ?_ 0 _ rfl; (with_reducible repeat (first | refine blk_drewN ?_ _ | refine blk_drew ?_ | refine blk_alloc ?_ _)); exact BK584.out⟩
          have n3_ : Aside0 (Kept w ((((w21.setCell ⟨gb584, 0, none⟩ (.int .i64 ((rd_T35 l1 a2).f0))).setCell ⟨gb584, 1, none⟩ (.int .i64 ((rd_T35 l1 a2).f1))).setCell ⟨gb584, 2, none⟩ (.int .i64 ((rd_T35 l1 a2).f2))).setCell ⟨gb584, 3, none⟩ (.int .i64 ((rd_T35 l1 a2).f3))) (fun k_ => P4_ k_)) := ⟨by repeat (first | (with_reducible first | exact HK.out | apply Kept.alloc | apply Kept.drewN | apply Kept.drew | refine Kept.setCell ?_ (.inr GW580.out) _ | refine Kept.setCell ?_ (.inr GW584.out) _) | exact HK.out)⟩
          have n4_ : Aside0 (Below w0.heap.size w0 ((((w21.setCell ⟨gb584, 0, none⟩ (.int .i64 ((rd_T35 l1 a2).f0))).setCell ⟨gb584, 1, none⟩ (.int .i64 ((rd_T35 l1 a2).f1))).setCell ⟨gb584, 2, none⟩ (.int .i64 ((rd_T35 l1 a2).f2))).setCell ⟨gb584, 3, none⟩ (.int .i64 ((rd_T35 l1 a2).f3)))) := ⟨by repeat (first | (with_reducible first | exact HB.out | apply below_alloc | apply pw_below_drewN | apply below_drew1 | refine below_set ?_ GE580.out | refine below_set ?_ GE584.out) | exact HB.out)⟩
          (try clear HO_4)
          (try clear BK580)
          (try clear BK584)
          (try clear HK)
          (try clear HB)
          generalize ((((w21.setCell ⟨gb584, 0, none⟩ (.int .i64 ((rd_T35 l1 a2).f0))).setCell ⟨gb584, 1, none⟩ (.int .i64 ((rd_T35 l1 a2).f1))).setCell ⟨gb584, 2, none⟩ (.int .i64 ((rd_T35 l1 a2).f2))).setCell ⟨gb584, 3, none⟩ (.int .i64 ((rd_T35 l1 a2).f3))) = w38 at n0_ n1_ n2_ n3_ n4_ ⊢
          have HO_4 := n0_
          have BK580 := n1_
          have BK584 := n2_
          have HK := n3_
          have HB := n4_
          clear n0_ n1_ n2_ n3_ n4_
          have n0_ := Aside0.mk (Kd.R_drew HO_4.out)
          have n1_ := Aside0.mk (blk_drew BK580.out)
          have n2_ := Aside0.mk (blk_drew BK584.out)
          have n3_ := Aside0.mk (Kept.drew HK.out)
          have n4_ := Aside0.mk (below_drew1 HB.out)
          clear HO_4
          clear BK580
          clear BK584
          clear HK
          clear HB
          have HO_4 := n0_
          have BK580 := n1_
          have BK584 := n2_
          have HK := n3_
          have HB := n4_
          clear n0_ n1_ n2_ n3_ n4_
          refine start_ (n := 30) (S := fun w' => w'.cell? ⟨gb584, 0, none⟩ = some (.int .i64 ((rd_T35 l1 a2).f0)) ∧ w'.cell? ⟨gb584, 1, none⟩ = some (.int .i64 ((rd_T35 l1 a2).f1)) ∧ w'.cell? ⟨gb584, 2, none⟩ = some (.int .i64 ((rd_T35 l1 a2).f2)) ∧ w'.cell? ⟨gb584, 3, none⟩ = some (.int .i64 ((rd_T35 l1 a2).f3))) (ds := []) #[false, false, false, false, false, false, false, false, false, false, false, false, false, false, false, false, false, false, false, false, false, false, false, false, false, false, false, false, false, false] zK rfl rfl ⟨(blk_cell BK584.out 0).trans rfl, (blk_cell BK584.out 1).trans rfl, (blk_cell BK584.out 2).trans rfl, (blk_cell BK584.out 3).trans rfl⟩ (fun hHeld => ?_); refine with_tabW ancepsref40_below.tab6 ancepsref40_below.bits6 (fun HT_ HW_ => ?_)
          generalize w38.drew = w39 at HO_4 BK580 BK584 HK HB hHeld ⊢
          refine pure_ (i := 0) (N := some 36) (v := ?_) (a' := ?_) #[true, false, false, false, false, false, false, false, false, false, false, false, false, false, false, false, false, false, false, false, false, false, false, false, false, false, false, false, false, false] rfl rfl (any_of HT_.out zK) (fun _ _ _ h => h) (Or.inl ⟨by rfl, ?_⟩) ?_ ?_
          rotate_left
          ·intro w'
           go_simp
           with_reducible rfl
          rotate_left
          ·simp only [Act.put, List.setIfInBounds_toArray, List.set_cons_zero, List.set_cons_succ, i64_w, i32_w]
           rfl
          refine take_ (i := 1) (N := some 37) (v := ?_) (a' := ?_) #[true, true, false, false, false, false, false, false, false, false, false, false, false, false, false, false, false, false, false, false, false, false, false, false, false, false, false, false, false, false] rfl rfl (take_ofW HT_.out HW_.out zK) (fun _ _ _ h => h) (Or.inl ⟨by rfl, ?_⟩) hHeld ?_ ?_
          rotate_left
          ·rintro w' ⟨s0, s1, s2, s3⟩
           go_simp
           with_reducible rfl
          rotate_left
          ·simp only [Act.put, List.setIfInBounds_toArray, List.set_cons_zero, List.set_cons_succ, i64_w, i32_w]
           rfl
          refine pure_ (i := 2) (N := some 38) (v := ?_) (a' := ?_) #[true, true, true, false, false, false, false, false, false, false, false, false, false, false, false, false, false, false, false, false, false, false, false, false, false, false, false, false, false, false] rfl rfl (any_of HT_.out zK) (fun _ _ _ h => h) (Or.inl ⟨by rfl, ?_⟩) ?_ ?_
          rotate_left
          ·intro w'
           go_simp
           with_reducible rfl
          rotate_left
          ·simp only [Act.put, List.setIfInBounds_toArray, List.set_cons_zero, List.set_cons_succ, i64_w, i32_w]
           rfl
          refine pure_ (i := 3) (N := some 39) (v := ?_) (a' := ?_) #[true, true, true, true, false, false, false, false, false, false, false, false, false, false, false, false, false, false, false, false, false, false, false, false, false, false, false, false, false, false] rfl rfl (any_of HT_.out zK) (fun _ _ _ h => h) (Or.inl ⟨by rfl, ?_⟩) ?_ ?_
          rotate_left
          ·intro w'
           go_simp
           with_reducible rfl
          rotate_left
          ·simp only [Act.put, List.setIfInBounds_toArray, List.set_cons_zero, List.set_cons_succ, i64_w, i32_w]
           rfl
          refine pure_ (i := 4) (N := some 40) (v := ?_) (a' := ?_) #[true, true, true, true, true, false, false, false, false, false, false, false, false, false, false, false, false, false, false, false, false, false, false, false, false, false, false, false, false, false] rfl rfl (any_of HT_.out zK) (fun _ _ _ h => h) (Or.inl ⟨by rfl, ?_⟩) ?_ ?_
          rotate_left
          ·intro w'
           go_simp
           with_reducible rfl
          rotate_left
          ·simp only [Act.put, List.setIfInBounds_toArray, List.set_cons_zero, List.set_cons_succ, i64_w, i32_w]
           rfl
          refine take_ (i := 5) (N := some 41) (v := ?_) (a' := ?_) #[true, true, true, true, true, true, false, false, false, false, false, false, false, false, false, false, false, false, false, false, false, false, false, false, false, false, false, false, false, false] rfl rfl (take_ofW HT_.out HW_.out zK) (fun _ _ _ h => h) (Or.inl ⟨by rfl, ?_⟩) hHeld ?_ ?_
          rotate_left
          ·rintro w' ⟨s0, s1, s2, s3⟩
           go_simp
           with_reducible rfl
          rotate_left
          ·simp only [Act.put, List.setIfInBounds_toArray, List.set_cons_zero, List.set_cons_succ, i64_w, i32_w]
           rfl
          refine pure_ (i := 6) (N := some 42) (v := ?_) (a' := ?_) #[true, true, true, true, true, true, true, false, false, false, false, false, false, false, false, false, false, false, false, false, false, false, false, false, false, false, false, false, false, false] rfl rfl (any_of HT_.out zK) (fun _ _ _ h => h) (Or.inl ⟨by rfl, ?_⟩) ?_ ?_
          rotate_left
          ·intro w'
           go_simp
           with_reducible rfl
          rotate_left
          ·simp only [Act.put, List.setIfInBounds_toArray, List.set_cons_zero, List.set_cons_succ, i64_w, i32_w]
           rfl
          refine pure_ (i := 7) (N := some 43) (v := ?_) (a' := ?_) #[true, true, true, true, true, true, true, true, false, false, false, false, false, false, false, false, false, false, false, false, false, false, false, false, false, false, false, false, false, false] rfl rfl (any_of HT_.out zK) (fun _ _ _ h => h) (Or.inl ⟨by rfl, ?_⟩) ?_ ?_
          rotate_left
          ·intro w'
           go_simp
           with_reducible rfl
          rotate_left
          ·simp only [Act.put, List.setIfInBounds_toArray, List.set_cons_zero, List.set_cons_succ, i64_w, i32_w]
           rfl
          refine pure_ (i := 8) (N := some 44) (v := ?_) (a' := ?_) #[true, true, true, true, true, true, true, true, true, false, false, false, false, false, false, false, false, false, false, false, false, false, false, false, false, false, false, false, false, false] rfl rfl (any_of HT_.out zK) (fun _ _ _ h => h) (Or.inl ⟨by rfl, ?_⟩) ?_ ?_
          rotate_left
          ·intro w'
           go_simp
           with_reducible rfl
          rotate_left
          ·simp only [Act.put, List.setIfInBounds_toArray, List.set_cons_zero, List.set_cons_succ, i64_w, i32_w]
           rfl
          refine pure_ (i := 9) (N := some 45) (v := undef) (a' := ?_) #[true, true, true, true, true, true, true, true, true, true, false, false, false, false, false, false, false, false, false, false, false, false, false, false, false, false, false, false, false, false] rfl rfl (any_of HT_.out zK) (fun _ _ _ h => h) (Or.inr ⟨by rfl, rfl⟩) ?_ ?_
          rotate_left
          ·simp only [Act.put, List.setIfInBounds_toArray, List.set_cons_zero, List.set_cons_succ, i64_w, i32_w]
           rfl
          refine pure_ (i := 10) (N := some 46) (v := undef) (a' := ?_) #[true, true, true, true, true, true, true, true, true, true, true, false, false, false, false, false, false, false, false, false, false, false, false, false, false, false, false, false, false, false] rfl rfl (any_of HT_.out zK) (fun _ _ _ h => h) (Or.inr ⟨by rfl, rfl⟩) ?_ ?_
          rotate_left
          ·simp only [Act.put, List.setIfInBounds_toArray, List.set_cons_zero, List.set_cons_succ, i64_w, i32_w]
           rfl
          refine pure_ (i := 11) (N := some 47) (v := undef) (a' := ?_) #[true, true, true, true, true, true, true, true, true, true, true, true, false, false, false, false, false, false, false, false, false, false, false, false, false, false, false, false, false, false] rfl rfl (any_of HT_.out zK) (fun _ _ _ h => h) (Or.inr ⟨by rfl, rfl⟩) ?_ ?_
          rotate_left
          ·simp only [Act.put, List.setIfInBounds_toArray, List.set_cons_zero, List.set_cons_succ, i64_w, i32_w]
           rfl
          refine pure_ (i := 12) (N := some 48) (v := ?_) (a' := ?_) #[true, true, true, true, true, true, true, true, true, true, true, true, true, false, false, false, false, false, false, false, false, false, false, false, false, false, false, false, false, false] rfl rfl (any_of HT_.out zK) (fun _ _ _ h => h) (Or.inl ⟨by rfl, ?_⟩) ?_ ?_
          rotate_left
          ·intro w'
           go_simp
           with_reducible rfl
          rotate_left
          ·simp only [Act.put, List.setIfInBounds_toArray, List.set_cons_zero, List.set_cons_succ, i64_w, i32_w]
           rfl
          refine pure_ (i := 13) (N := some 49) (v := ?_) (a' := ?_) #[true, true, true, true, true, true, true, true, true, true, true, true, true, true, false, false, false, false, false, false, false, false, false, false, false, false, false, false, false, false] rfl rfl (any_of HT_.out zK) (fun _ _ _ h => h) (Or.inl ⟨by rfl, ?_⟩) ?_ ?_
          rotate_left
          ·intro w'
           go_simp
           with_reducible rfl
          rotate_left
          ·simp only [Act.put, List.setIfInBounds_toArray, List.set_cons_zero, List.set_cons_succ, i64_w, i32_w]
           rfl
          refine pure_ (i := 14) (N := some 50) (v := undef) (a' := ?_) #[true, true, true, true, true, true, true, true, true, true, true, true, true, true, true, false, false, false, false, false, false, false, false, false, false, false, false, false, false, false] rfl rfl (any_of HT_.out zK) (fun _ _ _ h => h) (Or.inr ⟨by rfl, rfl⟩) ?_ ?_
          rotate_left
          ·simp only [Act.put, List.setIfInBounds_toArray, List.set_cons_zero, List.set_cons_succ, i64_w, i32_w]
           rfl
          refine pure_ (i := 15) (N := some 51) (v := undef) (a' := ?_) #[true, true, true, true, true, true, true, true, true, true, true, true, true, true, true, true, false, false, false, false, false, false, false, false, false, false, false, false, false, false] rfl rfl (any_of HT_.out zK) (fun _ _ _ h => h) (Or.inr ⟨by rfl, rfl⟩) ?_ ?_
          rotate_left
          ·simp only [Act.put, List.setIfInBounds_toArray, List.set_cons_zero, List.set_cons_succ, i64_w, i32_w]
           rfl
          refine pure_ (i := 16) (N := some 52) (v := undef) (a' := ?_) #[true, true, true, true, true, true, true, true, true, true, true, true, true, true, true, true, true, false, false, false, false, false, false, false, false, false, false, false, false, false] rfl rfl (any_of HT_.out zK) (fun _ _ _ h => h) (Or.inr ⟨by rfl, rfl⟩) ?_ ?_
          rotate_left
          ·simp only [Act.put, List.setIfInBounds_toArray, List.set_cons_zero, List.set_cons_succ, i64_w, i32_w]
           rfl
          refine pure_ (i := 17) (N := some 53) (v := undef) (a' := ?_) #[true, true, true, true, true, true, true, true, true, true, true, true, true, true, true, true, true, true, false, false, false, false, false, false, false, false, false, false, false, false] rfl rfl (any_of HT_.out zK) (fun _ _ _ h => h) (Or.inr ⟨by rfl, rfl⟩) ?_ ?_
          rotate_left
          ·simp only [Act.put, List.setIfInBounds_toArray, List.set_cons_zero, List.set_cons_succ, i64_w, i32_w]
           rfl
          refine pure_ (i := 18) (N := some 54) (v := undef) (a' := ?_) #[true, true, true, true, true, true, true, true, true, true, true, true, true, true, true, true, true, true, true, false, false, false, false, false, false, false, false, false, false, false] rfl rfl (any_of HT_.out zK) (fun _ _ _ h => h) (Or.inr ⟨by rfl, rfl⟩) ?_ ?_
          rotate_left
          ·simp only [Act.put, List.setIfInBounds_toArray, List.set_cons_zero, List.set_cons_succ, i64_w, i32_w]
           rfl
          refine pure_ (i := 19) (N := some 55) (v := ?_) (a' := ?_) #[true, true, true, true, true, true, true, true, true, true, true, true, true, true, true, true, true, true, true, true, false, false, false, false, false, false, false, false, false, false] rfl rfl (any_of HT_.out zK) (fun _ _ _ h => h) (Or.inl ⟨by rfl, ?_⟩) ?_ ?_
          rotate_left
          ·intro w'
           go_simp
           with_reducible rfl
          rotate_left
          ·simp only [Act.put, List.setIfInBounds_toArray, List.set_cons_zero, List.set_cons_succ, i64_w, i32_w]
           rfl
          refine pure_ (i := 20) (N := some 56) (v := ?_) (a' := ?_) #[true, true, true, true, true, true, true, true, true, true, true, true, true, true, true, true, true, true, true, true, true, false, false, false, false, false, false, false, false, false] rfl rfl (any_of HT_.out zK) (fun _ _ _ h => h) (Or.inl ⟨by rfl, ?_⟩) ?_ ?_
          rotate_left
          ·intro w'
           go_simp
           with_reducible rfl
          rotate_left
          ·simp only [Act.put, List.setIfInBounds_toArray, List.set_cons_zero, List.set_cons_succ, i64_w, i32_w]
           rfl
          refine pure_ (i := 21) (N := some 57) (v := undef) (a' := ?_) #[true, true, true, true, true, true, true, true, true, true, true, true, true, true, true, true, true, true, true, true, true, true, false, false, false, false, false, false, false, false] rfl rfl (any_of HT_.out zK) (fun _ _ _ h => h) (Or.inr ⟨by rfl, rfl⟩) ?_ ?_
          rotate_left
          ·simp only [Act.put, List.setIfInBounds_toArray, List.set_cons_zero, List.set_cons_succ, i64_w, i32_w]
           rfl
          refine pure_ (i := 22) (N := some 58) (v := undef) (a' := ?_) #[true, true, true, true, true, true, true, true, true, true, true, true, true, true, true, true, true, true, true, true, true, true, true, false, false, false, false, false, false, false] rfl rfl (any_of HT_.out zK) (fun _ _ _ h => h) (Or.inr ⟨by rfl, rfl⟩) ?_ ?_
          rotate_left
          ·simp only [Act.put, List.setIfInBounds_toArray, List.set_cons_zero, List.set_cons_succ, i64_w, i32_w]
           rfl
          refine pure_ (i := 23) (N := some 59) (v := undef) (a' := ?_) #[true, true, true, true, true, true, true, true, true, true, true, true, true, true, true, true, true, true, true, true, true, true, true, true, false, false, false, false, false, false] rfl rfl (any_of HT_.out zK) (fun _ _ _ h => h) (Or.inr ⟨by rfl, rfl⟩) ?_ ?_
          rotate_left
          ·simp only [Act.put, List.setIfInBounds_toArray, List.set_cons_zero, List.set_cons_succ, i64_w, i32_w]
           rfl
          refine pure_ (i := 24) (N := some 60) (v := undef) (a' := ?_) #[true, true, true, true, true, true, true, true, true, true, true, true, true, true, true, true, true, true, true, true, true, true, true, true, true, false, false, false, false, false] rfl rfl (any_of HT_.out zK) (fun _ _ _ h => h) (Or.inr ⟨by rfl, rfl⟩) ?_ ?_
          rotate_left
          ·simp only [Act.put, List.setIfInBounds_toArray, List.set_cons_zero, List.set_cons_succ, i64_w, i32_w]
           rfl
          refine pure_ (i := 25) (N := some 61) (v := undef) (a' := ?_) #[true, true, true, true, true, true, true, true, true, true, true, true, true, true, true, true, true, true, true, true, true, true, true, true, true, true, false, false, false, false] rfl rfl (any_of HT_.out zK) (fun _ _ _ h => h) (Or.inr ⟨by rfl, rfl⟩) ?_ ?_
          rotate_left
          ·simp only [Act.put, List.setIfInBounds_toArray, List.set_cons_zero, List.set_cons_succ, i64_w, i32_w]
           rfl
          refine pure_ (i := 26) (N := some 62) (v := undef) (a' := ?_) #[true, true, true, true, true, true, true, true, true, true, true, true, true, true, true, true, true, true, true, true, true, true, true, true, true, true, true, false, false, false] rfl rfl (any_of HT_.out zK) (fun _ _ _ h => h) (Or.inr ⟨by rfl, rfl⟩) ?_ ?_
          rotate_left
          ·simp only [Act.put, List.setIfInBounds_toArray, List.set_cons_zero, List.set_cons_succ, i64_w, i32_w]
           rfl
          refine pure_ (i := 27) (N := some 63) (v := undef) (a' := ?_) #[true, true, true, true, true, true, true, true, true, true, true, true, true, true, true, true, true, true, true, true, true, true, true, true, true, true, true, true, false, false] rfl rfl (any_of HT_.out zK) (fun _ _ _ h => h) (Or.inr ⟨by rfl, rfl⟩) ?_ ?_
          rotate_left
          ·simp only [Act.put, List.setIfInBounds_toArray, List.set_cons_zero, List.set_cons_succ, i64_w, i32_w]
           rfl
          refine pure_ (i := 28) (N := some 64) (v := ?_) (a' := ?_) #[true, true, true, true, true, true, true, true, true, true, true, true, true, true, true, true, true, true, true, true, true, true, true, true, true, true, true, true, true, false] rfl rfl (any_of HT_.out zK) (fun _ _ _ h => h) (Or.inl ⟨by rfl, ?_⟩) ?_ ?_
          rotate_left
          ·intro w'
           go_simp
           with_reducible rfl
          rotate_left
          ·simp only [Act.put, List.setIfInBounds_toArray, List.set_cons_zero, List.set_cons_succ, i64_w, i32_w]
           rfl
          refine pure_ (i := 29) (N := some 10) (v := ?_) (a' := ?_) #[true, true, true, true, true, true, true, true, true, true, true, true, true, true, true, true, true, true, true, true, true, true, true, true, true, true, true, true, true, true] rfl rfl (any_of HT_.out zK) (fun _ _ _ h => h) (Or.inl ⟨by rfl, ?_⟩) ?_ ?_
          rotate_left
          ·intro w'
           go_simp
           with_reducible rfl
          rotate_left
          ·simp only [Act.put, List.setIfInBounds_toArray, List.set_cons_zero, List.set_cons_succ, i64_w, i32_w]
           rfl
          refine done_ (done_of HT_.out zK) ?_
          try go_wp2
          go_ret
          exact ⟨by first | rfl | (simp [errW_none, errW_some] <;> rfl) | (simp [*, errW_none, errW_some] <;> rfl), by (with_reducible repeat (first | apply Kd.R_alloc | apply Kd.R_drewN | apply Kd.R_drew)); exact HO_4.out, by repeat (first | (with_reducible first | exact HB.out | apply below_alloc | apply pw_below_drewN | apply below_drew1 | refine below_set ?_ GE580.out | refine below_set ?_ GE584.out) | exact HB.out), by repeat (first | (with_reducible first | exact HK.out | apply Kept.alloc | apply Kept.drewN | apply Kept.drew | refine Kept.setCell ?_ (.inr GW580.out) _ | refine Kept.setCell ?_ (.inr GW584.out) _) | exact HK.out)⟩
        ·rw [if_neg c25] at H
         have c25b0 : (((rd_T35 l1 a2).f1) == 0) = false := beq_eq_false_iff_ne.mpr c25
         have c25b1 : (((rd_T35 l1 a2).f1) != 0) = true := bne_iff_ne.mpr c25
         simp only [Option.some.injEq, Prod.mk.injEq] at H
         obtain ⟨rfl, rfl⟩ := H
         try go_wp2
         have n0_ : Aside0 (Kd.R Kd.bool 4 ((((w21.setCell ⟨gb584, 0, none⟩ (.int .i64 ((rd_T35 l1 a2).f0))).setCell ⟨gb584, 1, none⟩ (.int .i64 ((rd_T35 l1 a2).f1))).setCell ⟨gb584, 2, none⟩ (.int .i64 ((rd_T35 l1 a2).f2))).setCell ⟨gb584, 3, none⟩ (.int .i64 ((rd_T35 l1 a2).f3))) w0.heap.size (fun k_ => (P4_ k_ ∨ w.heap.size ≤ k_)) (.slice (some ⟨go16, 0, none⟩) l4.length co16) y582) := ⟨by (with_reducible repeat (first | apply Kd.R_alloc | apply Kd.R_drewN | apply Kd.R_drew)); exact Kd.R_mono (Kd.R_far (p := ⟨gb584, 3, none⟩) (Kd.R_far (p := ⟨gb584, 2, none⟩) (Kd.R_far (p := ⟨gb584, 1, none⟩) (Kd.R_far (p := ⟨gb584, 0, none⟩) (Kd.R_types HO_4.out BK584.out (by decide)) (fun _ hk => hk.2) (.int .i64 ((rd_T35 l1 a2).f0))) (fun _ hk => hk.2) (.int .i64 ((rd_T35 l1 a2).f1))) (fun _ hk => hk.2) (.int .i64 ((rd_T35 l1 a2).f2))) (fun _ hk => hk.2) (.int .i64 ((rd_T35 l1 a2).f3))) (fun _ hk => hk.1)⟩
         have n1_ : Aside0 (((((w21.setCell ⟨gb584, 0, none⟩ (.int .i64 ((rd_T35 l1 a2).f0))).setCell ⟨gb584, 1, none⟩ (.int .i64 ((rd_T35 l1 a2).f1))).setCell ⟨gb584, 2, none⟩ (.int .i64 ((rd_T35 l1 a2).f2))).setCell ⟨gb584, 3, none⟩ (.int .i64 ((rd_T35 l1 a2).f3))).heap[gb580]? = some (.cells #[.int .i64 a3_0, .int .i64 a3_1] 74 (0, 0))) := ⟨by (with_reducible repeat (first | refine blk_drewN ?_ _ | refine blk_drew ?_ | refine blk_alloc ?_ _)); refine blk_far ?_ NB580_584.out _; (with_reducible repeat (first | refine blk_drewN ?_ _ | refine blk_drew ?_ | refine blk_alloc ?_ _)); refine blk_far ?_ NB580_584.out _; (with_reducible repeat (first | refine blk_drewN ?_ _ | refine blk_drew ?_ | refine blk_alloc ?_ _)); refine blk_far ?_ NB580_584.out _; (with_reducible repeat (first | refine blk_drewN ?_ _ | refine blk_drew ?_ | refine blk_alloc ?_ _)); refine blk_far ?_ NB580_584.out _; (with_reducible repeat (first | refine blk_drewN ?_ _ | refine blk_drew ?_ | refine blk_alloc ?_ _)); exact BK580.out⟩
         have n2_ : Aside0 (((((w21.setCell ⟨gb584, 0, none⟩ (.int .i64 ((rd_T35 l1 a2).f0))).setCell ⟨gb584, 1, none⟩ (.int .i64 ((rd_T35 l1 a2).f1))).setCell ⟨gb584, 2, none⟩ (.int .i64 ((rd_T35 l1 a2).f2))).setCell ⟨gb584, 3, none⟩ (.int .i64 ((rd_T35 l1 a2).f3))).heap[gb584]? = some (.cells #[.int .i64 ((rd_T35 l1 a2).f0), .int .i64 ((rd_T35 l1 a2).f1), .int .i64 ((rd_T35 l1 a2).f2), .int .i64 ((rd_T35 l1 a2).f3)] 35 (0, 0))) := ⟨by (with_reducible repeat (first | refine blk_drewN ?_ _ | refine blk_drew ?_ | refine blk_alloc ?_ _)); refine blk_put (cs := #[.int .i64 ((rd_T35 l1 a2).f0), .int .i64 ((rd_T35 l1 a2).f1), .int .i64 ((rd_T35 l1 a2).f2), .int .i64 0]) ?_ 3 _ rfl; (with_reducible repeat (first | refine blk_drewN ?_ _ | refine blk_drew ?_ | refine blk_alloc ?_ _)); refine blk_put (cs := #[.int .i64 ((rd_T35 l1 a2).f0), .int .i64 ((rd_T35 l1 a2).f1), .int .i64 0, .int .i64 0]) ?_ 2 _ rfl; (with_reducible repeat (first | refine blk_drewN ?_ _ | refine blk_drew ?_ | refine blk_alloc ?_ _)); refine blk_put (cs := #[.int .i64 ((rd_T35 l1 a2).f0), .int .i64 0, .int .i64 0, .int .i64 0]) ?_ 1 _ rfl; (with_reducible repeat (first | refine blk_drewN ?_ _ | refine blk_drew ?_ | refine blk_alloc ?_ _)); refine blk_put (cs := #[.int .i64 0, .int .i64 0, .int .i64 0, .int .i64 0]) ?_ 0 _ rfl; (with_reducible repeat (first | refine blk_drewN ?_ _ | refine blk_drew ?_ | refine blk_alloc ?_ _)); exact BK584.out⟩
         have n3_ : Aside0 (Kept w ((((w21.setCell ⟨gb584, 0, none⟩ (.int .i64 ((rd_T35 l1 a2).f0))).setCell ⟨gb584, 1, none⟩ (.int .i64 ((rd_T35 l1 a2).f1))).setCell ⟨gb584, 2, none⟩ (.int .i64 ((rd_T35 l1 a2).f2))).setCell ⟨gb584, 3, none⟩ (.int .i64 ((rd_T35 l1 a2).f3))) (fun k_ => P4_ k_)) := ⟨by repeat (first | (with_reducible first | exact HK.out | apply Kept.alloc | apply Kept.drewN | apply Kept.drew | refine Kept.setCell ?_ (.inr GW580.out) _ | refine Kept.setCell ?_ (.inr GW584.out) _) | exact HK.out)⟩
         have n4_ : Aside0 (Below w0.heap.size w0 ((((w21.setCell ⟨gb584, 0, none⟩ (.int .i64 ((rd_T35 l1 a2).f0))).setCell ⟨gb584, 1, none⟩ (.int .i64 ((rd_T35 l1 a2).f1))).setCell ⟨gb584, 2, none⟩ (.int .i64 ((rd_T35 l1 a2).f2))).setCell ⟨gb584, 3, none⟩ (.int .i64 ((rd_T35 l1 a2).f3)))) := ⟨by repeat (first | (with_reducible first | exact HB.out | apply below_alloc | apply pw_below_drewN | apply below_drew1 | refine below_set ?_ GE580.out | refine below_set ?_ GE584.out) | exact HB.out)⟩
         (try clear HO_4)
         (try clear BK580)
         (try clear BK584)
         (try clear HK)
         (try clear HB)
         generalize ((((w21.setCell ⟨gb584, 0, none⟩ (.int .i64 ((rd_T35 l1 a2).f0))).setCell ⟨gb584, 1, none⟩ (.int .i64 ((rd_T35 l1 a2).f1))).setCell ⟨gb584, 2, none⟩ (.int .i64 ((rd_T35 l1 a2).f2))).setCell ⟨gb584, 3, none⟩ (.int .i64 ((rd_T35 l1 a2).f3))) = w40 at n0_ n1_ n2_ n3_ n4_ ⊢
         have HO_4 := n0_
         have BK580 := n1_
         have BK584 := n2_
         have HK := n3_
         have HB := n4_
         clear n0_ n1_ n2_ n3_ n4_
         have n0_ := Aside0.mk (Kd.R_drew HO_4.out)
         have n1_ := Aside0.mk (blk_drew BK580.out)
         have n2_ := Aside0.mk (blk_drew BK584.out)
         have n3_ := Aside0.mk (Kept.drew HK.out)
         have n4_ := Aside0.mk (below_drew1 HB.out)
         clear HO_4
         clear BK580
         clear BK584
         clear HK
         clear HB
         have HO_4 := n0_
         have BK580 := n1_
         have BK584 := n2_
         have HK := n3_
         have HB := n4_
         clear n0_ n1_ n2_ n3_ n4_
         refine start_ (n := 30) (S := fun w' => w'.cell? ⟨gb584, 0, none⟩ = some (.int .i64 ((rd_T35 l1 a2).f0)) ∧ w'.cell? ⟨gb584, 1, none⟩ = some (.int .i64 ((rd_T35 l1 a2).f1)) ∧ w'.cell? ⟨gb584, 2, none⟩ = some (.int .i64 ((rd_T35 l1 a2).f2)) ∧ w'.cell? ⟨gb584, 3, none⟩ = some (.int .i64 ((rd_T35 l1 a2).f3))) (ds := []) #[false, false, false, false, false, false, false, false, false, false, false, false, false, false, false, false, false, false, false, false, false, false, false, false, false, false, false, false, false, false] zK rfl rfl ⟨(blk_cell BK584.out 0).trans rfl, (blk_cell BK584.out 1).trans rfl, (blk_cell BK584.out 2).trans rfl, (blk_cell BK584.out 3).trans rfl⟩ (fun hHeld => ?_); refine with_tabW ancepsref40_below.tab6 ancepsref40_below.bits6 (fun HT_ HW_ => ?_)
         generalize w40.drew = w41 at HO_4 BK580 BK584 HK HB hHeld ⊢
         refine pure_ (i := 0) (N := some 36) (v := ?_) (a' := ?_) #[true, false, false, false, false, false, false, false, false, false, false, false, false, false, false, false, false, false, false, false, false, false, false, false, false, false, false, false, false, false] rfl rfl (any_of HT_.out zK) (fun _ _ _ h => h) (Or.inl ⟨by rfl, ?_⟩) ?_ ?_
         rotate_left
         ·intro w'
          go_simp
          with_reducible rfl
         rotate_left
         ·simp only [Act.put, List.setIfInBounds_toArray, List.set_cons_zero, List.set_cons_succ, i64_w, i32_w]
          rfl
         refine take_ (i := 1) (N := some 37) (v := ?_) (a' := ?_) #[true, true, false, false, false, false, false, false, false, false, false, false, false, false, false, false, false, false, false, false, false, false, false, false, false, false, false, false, false, false] rfl rfl (take_ofW HT_.out HW_.out zK) (fun _ _ _ h => h) (Or.inl ⟨by rfl, ?_⟩) hHeld ?_ ?_
         rotate_left
         ·rintro w' ⟨s0, s1, s2, s3⟩
          go_simp
          with_reducible rfl
         rotate_left
         ·simp only [Act.put, List.setIfInBounds_toArray, List.set_cons_zero, List.set_cons_succ, i64_w, i32_w]
          rfl
         refine pure_ (i := 2) (N := some 38) (v := ?_) (a' := ?_) #[true, true, true, false, false, false, false, false, false, false, false, false, false, false, false, false, false, false, false, false, false, false, false, false, false, false, false, false, false, false] rfl rfl (any_of HT_.out zK) (fun _ _ _ h => h) (Or.inl ⟨by rfl, ?_⟩) ?_ ?_
         rotate_left
         ·intro w'
          go_simp
          with_reducible rfl
         rotate_left
         ·simp only [Act.put, List.setIfInBounds_toArray, List.set_cons_zero, List.set_cons_succ, i64_w, i32_w]
          rfl
         refine pure_ (i := 3) (N := some 39) (v := ?_) (a' := ?_) #[true, true, true, true, false, false, false, false, false, false, false, false, false, false, false, false, false, false, false, false, false, false, false, false, false, false, false, false, false, false] rfl rfl (any_of HT_.out zK) (fun _ _ _ h => h) (Or.inl ⟨by rfl, ?_⟩) ?_ ?_
         rotate_left
         ·intro w'
          go_simp
          with_reducible rfl
         rotate_left
         ·simp only [Act.put, List.setIfInBounds_toArray, List.set_cons_zero, List.set_cons_succ, i64_w, i32_w]
          rfl
         refine pure_ (i := 4) (N := some 40) (v := undef) (a' := ?_) #[true, true, true, true, true, false, false, false, false, false, false, false, false, false, false, false, false, false, false, false, false, false, false, false, false, false, false, false, false, false] rfl rfl (any_of HT_.out zK) (fun _ _ _ h => h) (Or.inr ⟨by rfl, rfl⟩) ?_ ?_
         rotate_left
         ·simp only [Act.put, List.setIfInBounds_toArray, List.set_cons_zero, List.set_cons_succ, i64_w, i32_w]
          rfl
         refine pure_ (i := 5) (N := some 41) (v := undef) (a' := ?_) #[true, true, true, true, true, true, false, false, false, false, false, false, false, false, false, false, false, false, false, false, false, false, false, false, false, false, false, false, false, false] rfl rfl (any_of HT_.out zK) (fun _ _ _ h => h) (Or.inr ⟨by rfl, rfl⟩) ?_ ?_
         rotate_left
         ·simp only [Act.put, List.setIfInBounds_toArray, List.set_cons_zero, List.set_cons_succ, i64_w, i32_w]
          rfl
         refine pure_ (i := 6) (N := some 42) (v := undef) (a' := ?_) #[true, true, true, true, true, true, true, false, false, false, false, false, false, false, false, false, false, false, false, false, false, false, false, false, false, false, false, false, false, false] rfl rfl (any_of HT_.out zK) (fun _ _ _ h => h) (Or.inr ⟨by rfl, rfl⟩) ?_ ?_
         rotate_left
         ·simp only [Act.put, List.setIfInBounds_toArray, List.set_cons_zero, List.set_cons_succ, i64_w, i32_w]
          rfl
         refine pure_ (i := 7) (N := some 43) (v := ?_) (a' := ?_) #[true, true, true, true, true, true, true, true, false, false, false, false, false, false, false, false, false, false, false, false, false, false, false, false, false, false, false, false, false, false] rfl rfl (any_of HT_.out zK) (fun _ _ _ h => h) (Or.inl ⟨by rfl, ?_⟩) ?_ ?_
         rotate_left
         ·intro w'
          go_simp
          with_reducible rfl
         rotate_left
         ·simp only [Act.put, List.setIfInBounds_toArray, List.set_cons_zero, List.set_cons_succ, i64_w, i32_w]
          rfl
         refine pure_ (i := 8) (N := some 44) (v := ?_) (a' := ?_) #[true, true, true, true, true, true, true, true, true, false, false, false, false, false, false, false, false, false, false, false, false, false, false, false, false, false, false, false, false, false] rfl rfl (any_of HT_.out zK) (fun _ _ _ h => h) (Or.inl ⟨by rfl, ?_⟩) ?_ ?_
         rotate_left
         ·intro w'
          go_simp
          with_reducible rfl
         rotate_left
         ·simp only [Act.put, List.setIfInBounds_toArray, List.set_cons_zero, List.set_cons_succ, i64_w, i32_w]
          rfl
         refine pure_ (i := 9) (N := some 45) (v := undef) (a' := ?_) #[true, true, true, true, true, true, true, true, true, true, false, false, false, false, false, false, false, false, false, false, false, false, false, false, false, false, false, false, false, false] rfl rfl (any_of HT_.out zK) (fun _ _ _ h => h) (Or.inr ⟨by rfl, rfl⟩) ?_ ?_
         rotate_left
         ·simp only [Act.put, List.setIfInBounds_toArray, List.set_cons_zero, List.set_cons_succ, i64_w, i32_w]
          rfl
         refine pure_ (i := 10) (N := some 46) (v := undef) (a' := ?_) #[true, true, true, true, true, true, true, true, true, true, true, false, false, false, false, false, false, false, false, false, false, false, false, false, false, false, false, false, false, false] rfl rfl (any_of HT_.out zK) (fun _ _ _ h => h) (Or.inr ⟨by rfl, rfl⟩) ?_ ?_
         rotate_left
         ·simp only [Act.put, List.setIfInBounds_toArray, List.set_cons_zero, List.set_cons_succ, i64_w, i32_w]
          rfl
         refine pure_ (i := 11) (N := some 47) (v := undef) (a' := ?_) #[true, true, true, true, true, true, true, true, true, true, true, true, false, false, false, false, false, false, false, false, false, false, false, false, false, false, false, false, false, false] rfl rfl (any_of HT_.out zK) (fun _ _ _ h => h) (Or.inr ⟨by rfl, rfl⟩) ?_ ?_
         rotate_left
         ·simp only [Act.put, List.setIfInBounds_toArray, List.set_cons_zero, List.set_cons_succ, i64_w, i32_w]
          rfl
         refine pure_ (i := 12) (N := some 48) (v := ?_) (a' := ?_) #[true, true, true, true, true, true, true, true, true, true, true, true, true, false, false, false, false, false, false, false, false, false, false, false, false, false, false, false, false, false] rfl rfl (any_of HT_.out zK) (fun _ _ _ h => h) (Or.inl ⟨by rfl, ?_⟩) ?_ ?_
         rotate_left
         ·intro w'
          go_simp
          with_reducible rfl
         rotate_left
         ·simp only [Act.put, List.setIfInBounds_toArray, List.set_cons_zero, List.set_cons_succ, i64_w, i32_w]
          rfl
         refine pure_ (i := 13) (N := some 49) (v := ?_) (a' := ?_) #[true, true, true, true, true, true, true, true, true, true, true, true, true, true, false, false, false, false, false, false, false, false, false, false, false, false, false, false, false, false] rfl rfl (any_of HT_.out zK) (fun _ _ _ h => h) (Or.inl ⟨by rfl, ?_⟩) ?_ ?_
         rotate_left
         ·intro w'
          go_simp
          with_reducible rfl
         rotate_left
         ·simp only [Act.put, List.setIfInBounds_toArray, List.set_cons_zero, List.set_cons_succ, i64_w, i32_w]
          rfl
         refine pure_ (i := 14) (N := some 50) (v := undef) (a' := ?_) #[true, true, true, true, true, true, true, true, true, true, true, true, true, true, true, false, false, false, false, false, false, false, false, false, false, false, false, false, false, false] rfl rfl (any_of HT_.out zK) (fun _ _ _ h => h) (Or.inr ⟨by rfl, rfl⟩) ?_ ?_
         rotate_left
         ·simp only [Act.put, List.setIfInBounds_toArray, List.set_cons_zero, List.set_cons_succ, i64_w, i32_w]
          rfl
         refine pure_ (i := 15) (N := some 51) (v := undef) (a' := ?_) #[true, true, true, true, true, true, true, true, true, true, true, true, true, true, true, true, false, false, false, false, false, false, false, false, false, false, false, false, false, false] rfl rfl (any_of HT_.out zK) (fun _ _ _ h => h) (Or.inr ⟨by rfl, rfl⟩) ?_ ?_
         rotate_left
         ·simp only [Act.put, List.setIfInBounds_toArray, List.set_cons_zero, List.set_cons_succ, i64_w, i32_w]
          rfl
         refine pure_ (i := 16) (N := some 52) (v := undef) (a' := ?_) #[true, true, true, true, true, true, true, true, true, true, true, true, true, true, true, true, true, false, false, false, false, false, false, false, false, false, false, false, false, false] rfl rfl (any_of HT_.out zK) (fun _ _ _ h => h) (Or.inr ⟨by rfl, rfl⟩) ?_ ?_
         rotate_left
         ·simp only [Act.put, List.setIfInBounds_toArray, List.set_cons_zero, List.set_cons_succ, i64_w, i32_w]
          rfl
         refine pure_ (i := 17) (N := some 53) (v := undef) (a' := ?_) #[true, true, true, true, true, true, true, true, true, true, true, true, true, true, true, true, true, true, false, false, false, false, false, false, false, false, false, false, false, false] rfl rfl (any_of HT_.out zK) (fun _ _ _ h => h) (Or.inr ⟨by rfl, rfl⟩) ?_ ?_
         rotate_left
         ·simp only [Act.put, List.setIfInBounds_toArray, List.set_cons_zero, List.set_cons_succ, i64_w, i32_w]
          rfl
         refine pure_ (i := 18) (N := some 54) (v := undef) (a' := ?_) #[true, true, true, true, true, true, true, true, true, true, true, true, true, true, true, true, true, true, true, false, false, false, false, false, false, false, false, false, false, false] rfl rfl (any_of HT_.out zK) (fun _ _ _ h => h) (Or.inr ⟨by rfl, rfl⟩) ?_ ?_
         rotate_left
         ·simp only [Act.put, List.setIfInBounds_toArray, List.set_cons_zero, List.set_cons_succ, i64_w, i32_w]
          rfl
         refine pure_ (i := 19) (N := some 55) (v := ?_) (a' := ?_) #[true, true, true, true, true, true, true, true, true, true, true, true, true, true, true, true, true, true, true, true, false, false, false, false, false, false, false, false, false, false] rfl rfl (any_of HT_.out zK) (fun _ _ _ h => h) (Or.inl ⟨by rfl, ?_⟩) ?_ ?_
         rotate_left
         ·intro w'
          go_simp
          with_reducible rfl
         rotate_left
         ·simp only [Act.put, List.setIfInBounds_toArray, List.set_cons_zero, List.set_cons_succ, i64_w, i32_w]
          rfl
         refine pure_ (i := 20) (N := some 56) (v := ?_) (a' := ?_) #[true, true, true, true, true, true, true, true, true, true, true, true, true, true, true, true, true, true, true, true, true, false, false, false, false, false, false, false, false, false] rfl rfl (any_of HT_.out zK) (fun _ _ _ h => h) (Or.inl ⟨by rfl, ?_⟩) ?_ ?_
         rotate_left
         ·intro w'
          go_simp
          with_reducible rfl
         rotate_left
         ·simp only [Act.put, List.setIfInBounds_toArray, List.set_cons_zero, List.set_cons_succ, i64_w, i32_w]
          rfl
         refine pure_ (i := 21) (N := some 57) (v := undef) (a' := ?_) #[true, true, true, true, true, true, true, true, true, true, true, true, true, true, true, true, true, true, true, true, true, true, false, false, false, false, false, false, false, false] rfl rfl (any_of HT_.out zK) (fun _ _ _ h => h) (Or.inr ⟨by rfl, rfl⟩) ?_ ?_
         rotate_left
         ·simp only [Act.put, List.setIfInBounds_toArray, List.set_cons_zero, List.set_cons_succ, i64_w, i32_w]
          rfl
         refine pure_ (i := 22) (N := some 58) (v := undef) (a' := ?_) #[true, true, true, true, true, true, true, true, true, true, true, true, true, true, true, true, true, true, true, true, true, true, true, false, false, false, false, false, false, false] rfl rfl (any_of HT_.out zK) (fun _ _ _ h => h) (Or.inr ⟨by rfl, rfl⟩) ?_ ?_
         rotate_left
         ·simp only [Act.put, List.setIfInBounds_toArray, List.set_cons_zero, List.set_cons_succ, i64_w, i32_w]
          rfl
         refine pure_ (i := 23) (N := some 59) (v := undef) (a' := ?_) #[true, true, true, true, true, true, true, true, true, true, true, true, true, true, true, true, true, true, true, true, true, true, true, true, false, false, false, false, false, false] rfl rfl (any_of HT_.out zK) (fun _ _ _ h => h) (Or.inr ⟨by rfl, rfl⟩) ?_ ?_
         rotate_left
         ·simp only [Act.put, List.setIfInBounds_toArray, List.set_cons_zero, List.set_cons_succ, i64_w, i32_w]
          rfl
         refine pure_ (i := 24) (N := some 60) (v := undef) (a' := ?_) #[true, true, true, true, true, true, true, true, true, true, true, true, true, true, true, true, true, true, true, true, true, true, true, true, true, false, false, false, false, false] rfl rfl (any_of HT_.out zK) (fun _ _ _ h => h) (Or.inr ⟨by rfl, rfl⟩) ?_ ?_
         rotate_left
         ·simp only [Act.put, List.setIfInBounds_toArray, List.set_cons_zero, List.set_cons_succ, i64_w, i32_w]
          rfl
         refine pure_ (i := 25) (N := some 61) (v := undef) (a' := ?_) #[true, true, true, true, true, true, true, true, true, true, true, true, true, true, true, true, true, true, true, true, true, true, true, true, true, true, false, false, false, false] rfl rfl (any_of HT_.out zK) (fun _ _ _ h => h) (Or.inr ⟨by rfl, rfl⟩) ?_ ?_
         rotate_left
         ·simp only [Act.put, List.setIfInBounds_toArray, List.set_cons_zero, List.set_cons_succ, i64_w, i32_w]
          rfl
         refine pure_ (i := 26) (N := some 62) (v := undef) (a' := ?_) #[true, true, true, true, true, true, true, true, true, true, true, true, true, true, true, true, true, true, true, true, true, true, true, true, true, true, true, false, false, false] rfl rfl (any_of HT_.out zK) (fun _ _ _ h => h) (Or.inr ⟨by rfl, rfl⟩) ?_ ?_
         rotate_left
         ·simp only [Act.put, List.setIfInBounds_toArray, List.set_cons_zero, List.set_cons_succ, i64_w, i32_w]
          rfl
         refine pure_ (i := 27) (N := some 63) (v := undef) (a' := ?_) #[true, true, true, true, true, true, true, true, true, true, true, true, true, true, true, true, true, true, true, true, true, true, true, true, true, true, true, true, false, false] rfl rfl (any_of HT_.out zK) (fun _ _ _ h => h) (Or.inr ⟨by rfl, rfl⟩) ?_ ?_
         rotate_left
         ·simp only [Act.put, List.setIfInBounds_toArray, List.set_cons_zero, List.set_cons_succ, i64_w, i32_w]
          rfl
         refine pure_ (i := 28) (N := some 64) (v := ?_) (a' := ?_) #[true, true, true, true, true, true, true, true, true, true, true, true, true, true, true, true, true, true, true, true, true, true, true, true, true, true, true, true, true, false] rfl rfl (any_of HT_.out zK) (fun _ _ _ h => h) (Or.inl ⟨by rfl, ?_⟩) ?_ ?_
         rotate_left
         ·intro w'
          go_simp
          with_reducible rfl
         rotate_left
         ·simp only [Act.put, List.setIfInBounds_toArray, List.set_cons_zero, List.set_cons_succ, i64_w, i32_w]
          rfl
         refine pure_ (i := 29) (N := some 10) (v := ?_) (a' := ?_) #[true, true, true, true, true, true, true, true, true, true, true, true, true, true, true, true, true, true, true, true, true, true, true, true, true, true, true, true, true, true] rfl rfl (any_of HT_.out zK) (fun _ _ _ h => h) (Or.inl ⟨by rfl, ?_⟩) ?_ ?_
         rotate_left
         ·intro w'
          go_simp
          with_reducible rfl
         rotate_left
         ·simp only [Act.put, List.setIfInBounds_toArray, List.set_cons_zero, List.set_cons_succ, i64_w, i32_w]
          rfl
         refine done_ (done_of HT_.out zK) ?_
         try go_wp2
         go_ret
         exact ⟨by first | rfl | (simp [errW_none, errW_some] <;> rfl) | (simp [*, errW_none, errW_some] <;> rfl), by (with_reducible repeat (first | apply Kd.R_alloc | apply Kd.R_drewN | apply Kd.R_drew)); exact HO_4.out, by repeat (first | (with_reducible first | exact HB.out | apply below_alloc | apply pw_below_drewN | apply below_drew1 | refine below_set ?_ GE580.out | refine below_set ?_ GE584.out) | exact HB.out), by repeat (first | (with_reducible first | exact HK.out | apply Kept.alloc | apply Kept.drewN | apply Kept.drew | refine Kept.setCell ?_ (.inr GW580.out) _ | refine Kept.setCell ?_ (.inr GW584.out) _) | exact HK.out)⟩
       ·rw [if_neg c24] at H
        have c24b0 : (((rd_T35 l1 a2).f0) == (-1)) = false := beq_eq_false_iff_ne.mpr c24
        have c24b1 : (((rd_T35 l1 a2).f0) != (-1)) = true := bne_iff_ne.mpr c24
        (first | rw [c24b0] | (simp only [i64_w, i32_w]; rw [c24b0]) | skip)
        (try rw [c24b1])
        have HC42 := Aside0.mk H
        clear H
        go_upto_region 7 with (fail)
        go_cut [98] (fun v98 wc => ∃ (kq : Nat) (x98_41 : Bool), v98 = .bool x98_41 ∧ Aside0 (ancepsref40_below.j1 kq l0 l1 y582 x98_41 a3_0 a3_1 ((rd_T35 l1 a2).f0) ((rd_T35 l1 a2).f1) ((rd_T35 l1 a2).f2) ((rd_T35 l1 a2).f3) = some (r1, r2)) ∧ Aside0 (kq ≤ kj5) ∧ Aside0 (Kd.R Kd.bool 4 wc w0.heap.size (fun k_ => (P4_ k_ ∨ w.heap.size ≤ k_)) (.slice (some ⟨go16, 0, none⟩) l4.length co16) y582) ∧ Aside0 (wc.heap[gb580]? = some (.cells #[.int .i64 a3_0, .int .i64 a3_1] 74 (0, 0))) ∧ Aside0 (wc.heap[gb584]? = some (.cells #[.int .i64 ((rd_T35 l1 a2).f0), .int .i64 ((rd_T35 l1 a2).f1), .int .i64 ((rd_T35 l1 a2).f2), .int .i64 ((rd_T35 l1 a2).f3)] 35 (0, 0))) ∧ Aside0 (Kept w wc (fun k_ => P4_ k_)) ∧ Aside0 (Below w0.heap.size w0 wc))
        case first =>
         have H := HC42.out
         clear HC42
         by_cases c43 : ((rd_T35 l1 a2).f0) < 0
         ·rw [if_pos c43] at H
          have c43b0 : decide (((rd_T35 l1 a2).f0) < 0) = true := decide_eq_true c43
          clear c43
          (first | rw [c43b0] | (simp only [i64_w, i32_w]; rw [c43b0]) | skip)
          have H' := Aside0.mk H
          clear H
          have hnb44 := NB584_580.out
          have hnc44 := NB580_584.out
          have hcz45_0 : w21.cell? ⟨gb584, 0, none⟩ = some (.int .i64 0) := (blk_cell BK584.out 0).trans rfl
          have hcz45_1 : w21.cell? ⟨gb584, 1, none⟩ = some (.int .i64 0) := (blk_cell BK584.out 1).trans rfl
          have hcz45_2 : w21.cell? ⟨gb584, 2, none⟩ = some (.int .i64 0) := (blk_cell BK584.out 2).trans rfl
          have hcz45_3 : w21.cell? ⟨gb584, 3, none⟩ = some (.int .i64 0) := (blk_cell BK584.out 3).trans rfl
          have hfz45_0 := blk_frozen BK584.out 0
          have hfz45_1 := blk_frozen BK584.out 1
          have hfz45_2 := blk_frozen BK584.out 2
          have hfz45_3 := blk_frozen BK584.out 3
          go_wp2
          go_meet
          case rel => exact ⟨_, (true), zT, H', ⟨by have := HJ5.out; first | omega | exact Nat.le_refl _⟩, ⟨by (with_reducible repeat (first | apply Kd.R_alloc | apply Kd.R_drewN | apply Kd.R_drew)); exact Kd.R_mono (Kd.R_far (p := ⟨gb584, 3, none⟩) (Kd.R_far (p := ⟨gb584, 2, none⟩) (Kd.R_far (p := ⟨gb584, 1, none⟩) (Kd.R_far (p := ⟨gb584, 0, none⟩) (Kd.R_types HO_4.out BK584.out (by decide)) (fun _ hk => hk.2) (.int .i64 ((rd_T35 l1 a2).f0))) (fun _ hk => hk.2) (.int .i64 ((rd_T35 l1 a2).f1))) (fun _ hk => hk.2) (.int .i64 ((rd_T35 l1 a2).f2))) (fun _ hk => hk.2) (.int .i64 ((rd_T35 l1 a2).f3))) (fun _ hk => hk.1)⟩, ⟨by (with_reducible repeat (first | refine blk_drewN ?_ _ | refine blk_drew ?_ | refine blk_alloc ?_ _)); refine blk_far ?_ NB580_584.out _; (with_reducible repeat (first | refine blk_drewN ?_ _ | refine blk_drew ?_ | refine blk_alloc ?_ _)); refine blk_far ?_ NB580_584.out _; (with_reducible repeat (first | refine blk_drewN ?_ _ | refine blk_drew ?_ | refine blk_alloc ?_ _)); refine blk_far ?_ NB580_584.out _; (with_reducible repeat (first | refine blk_drewN ?_ _ | refine blk_drew ?_ | refine blk_alloc ?_ _)); refine blk_far ?_ NB580_584.out _; (with_reducible repeat (first | refine blk_drewN ?_ _ | refine blk_drew ?_ | refine blk_alloc ?_ _)); exact BK580.out⟩, ⟨by (with_reducible repeat (first | refine blk_drewN ?_ _ | refine blk_drew ?_ | refine blk_alloc ?_ _)); refine blk_put (cs := #[.int .i64 ((rd_T35 l1 a2).f0), .int .i64 ((rd_T35 l1 a2).f1), .int .i64 ((rd_T35 l1 a2).f2), .int .i64 0]) ?_ 3 _ rfl; (with_reducible repeat (first | refine blk_drewN ?_ _ | refine blk_drew ?_ | refine blk_alloc ?_ _)); refine blk_put (cs := #[.int .i64 ((rd_T35 l1 a2).f0), .int .i64 ((rd_T35 l1 a2).f1), .int .i64 0, .int .i64 0]) ?_ 2 _ rfl; (with_reducible repeat (first | refine blk_drewN ?_ _ | refine blk_drew ?_ | refine blk_alloc ?_ _)); refine blk_put (cs := #[.int .i64 ((rd_T35 l1 a2).f0), .int .i64 0, .int .i64 0, .int .i64 0]) ?_ 1 _ rfl; (with_reducible repeat (first | refine blk_drewN ?_ _ | refine blk_drew ?_ | refine blk_alloc ?_ _)); refine blk_put (cs := #[.int .i64 0, .int .i64 0, .int .i64 0, .int .i64 0]) ?_ 0 _ rfl; (with_reducible repeat (first | refine blk_drewN ?_ _ | refine blk_drew ?_ | refine blk_alloc ?_ _)); exact BK584.out⟩, ⟨by repeat (first | (with_reducible first | exact HK.out | apply Kept.alloc | apply Kept.drewN | apply Kept.drew | refine Kept.setCell ?_ (.inr GW580.out) _ | refine Kept.setCell ?_ (.inr GW584.out) _) | exact HK.out)⟩, ⟨by repeat (first | (with_reducible first | exact HB.out | apply below_alloc | apply pw_below_drewN | apply below_drew1 | refine below_set ?_ GE580.out | refine below_set ?_ GE584.out) | exact HB.out)⟩⟩
         ·rw [if_neg c43] at H
          have c43b0 : decide (((rd_T35 l1 a2).f0) < 0) = false := decide_eq_false c43
          clear c43
          (first | rw [c43b0] | (simp only [i64_w, i32_w]; rw [c43b0]) | skip)
          by_cases c46 : ((rd_T35 l1 a2).f0) > 23
          ·rw [if_pos c46] at H
           have c46b0 : decide (23 < ((rd_T35 l1 a2).f0)) = true := decide_eq_true c46
           clear c46
           have H' := Aside0.mk H
           clear H
           have hnb47 := NB584_580.out
           have hnc47 := NB580_584.out
           have hcz48_0 : w21.cell? ⟨gb584, 0, none⟩ = some (.int .i64 0) := (blk_cell BK584.out 0).trans rfl
           have hcz48_1 : w21.cell? ⟨gb584, 1, none⟩ = some (.int .i64 0) := (blk_cell BK584.out 1).trans rfl
           have hcz48_2 : w21.cell? ⟨gb584, 2, none⟩ = some (.int .i64 0) := (blk_cell BK584.out 2).trans rfl
           have hcz48_3 : w21.cell? ⟨gb584, 3, none⟩ = some (.int .i64 0) := (blk_cell BK584.out 3).trans rfl
           have hfz48_0 := blk_frozen BK584.out 0
           have hfz48_1 := blk_frozen BK584.out 1
           have hfz48_2 := blk_frozen BK584.out 2
           have hfz48_3 := blk_frozen BK584.out 3
           go_wp2
           go_meet
           case rel => exact ⟨_, (true), zT, H', ⟨by have := HJ5.out; first | omega | exact Nat.le_refl _⟩, ⟨by (with_reducible repeat (first | apply Kd.R_alloc | apply Kd.R_drewN | apply Kd.R_drew)); exact Kd.R_mono (Kd.R_far (p := ⟨gb584, 3, none⟩) (Kd.R_far (p := ⟨gb584, 2, none⟩) (Kd.R_far (p := ⟨gb584, 1, none⟩) (Kd.R_far (p := ⟨gb584, 0, none⟩) (Kd.R_types HO_4.out BK584.out (by decide)) (fun _ hk => hk.2) (.int .i64 ((rd_T35 l1 a2).f0))) (fun _ hk => hk.2) (.int .i64 ((rd_T35 l1 a2).f1))) (fun _ hk => hk.2) (.int .i64 ((rd_T35 l1 a2).f2))) (fun _ hk => hk.2) (.int .i64 ((rd_T35 l1 a2).f3))) (fun _ hk => hk.1)⟩, ⟨by (with_reducible repeat (first | refine blk_drewN ?_ _ | refine blk_drew ?_ | refine blk_alloc ?_ _)); refine blk_far ?_ NB580_584.out _; (with_reducible repeat (first | refine blk_drewN ?_ _ | refine blk_drew ?_ | refine blk_alloc ?_ _)); refine blk_far ?_ NB580_584.out _; (with_reducible repeat (first | refine blk_drewN ?_ _ | refine blk_drew ?_ | refine blk_alloc ?_ _)); refine blk_far ?_ NB580_584.out _; (with_reducible repeat (first | refine blk_drewN ?_ _ | refine blk_drew ?_ | refine blk_alloc ?_ _)); refine blk_far ?_ NB580_584.out _; (with_reducible repeat (first | refine blk_drewN ?_ _ | refine blk_drew ?_ | refine blk_alloc ?_ _)); exact BK580.out⟩, ⟨by (with_reducible repeat (first | refine blk_drewN ?_ _ | refine blk_drew ?_ | refine blk_alloc ?_ _)); refine blk_put (cs := #[.int .i64 ((rd_T35 l1 a2).f0), .int .i64 ((rd_T35 l1 a2).f1), .int .i64 ((rd_T35 l1 a2).f2), .int .i64 0]) ?_ 3 _ rfl; (with_reducible repeat (first | refine blk_drewN ?_ _ | refine blk_drew ?_ | refine blk_alloc ?_ _)); refine blk_put (cs := #[.int .i64 ((rd_T35 l1 a2).f0), .int .i64 ((rd_T35 l1 a2).f1), .int .i64 0, .int .i64 0]) ?_ 2 _ rfl; (with_reducible repeat (first | refine blk_drewN ?_ _ | refine blk_drew ?_ | refine blk_alloc ?_ _)); refine blk_put (cs := #[.int .i64 ((rd_T35 l1 a2).f0), .int .i64 0, .int .i64 0, .int .i64 0]) ?_ 1 _ rfl; (with_reducible repeat (first | refine blk_drewN ?_ _ | refine blk_drew ?_ | refine blk_alloc ?_ _)); refine blk_put (cs := #[.int .i64 0, .int .i64 0, .int .i64 0, .int .i64 0]) ?_ 0 _ rfl; (with_reducible repeat (first | refine blk_drewN ?_ _ | refine blk_drew ?_ | refine blk_alloc ?_ _)); exact BK584.out⟩, ⟨by repeat (first | (with_reducible first | exact HK.out | apply Kept.alloc | apply Kept.drewN | apply Kept.drew | refine Kept.setCell ?_ (.inr GW580.out) _ | refine Kept.setCell ?_ (.inr GW584.out) _) | exact HK.out)⟩, ⟨by repeat (first | (with_reducible first | exact HB.out | apply below_alloc | apply pw_below_drewN | apply below_drew1 | refine below_set ?_ GE580.out | refine below_set ?_ GE584.out) | exact HB.out)⟩⟩
          ·rw [if_neg c46] at H
           have c46b0 : decide (23 < ((rd_T35 l1 a2).f0)) = false := decide_eq_false c46
           clear c46
           by_cases c49 : ((rd_T35 l1 a2).f3) = 0
           ·rw [if_pos c49] at H
            have c49b0 : (((rd_T35 l1 a2).f3) == 0) = true := beq_iff_eq.mpr c49
            have c49b1 : (((rd_T35 l1 a2).f3) != 0) = false := bne_eq_false_iff_eq.mpr c49
            clear c49
            by_cases c50 : ((rd_T35 l1 a2).f1) ≤ a2
            ·rw [if_pos c50] at H
             have c50b0 : decide (((rd_T35 l1 a2).f1) ≤ a2) = true := decide_eq_true c50
             clear c50
             have H' := Aside0.mk H
             clear H
             have hnb51 := NB584_580.out
             have hnc51 := NB580_584.out
             have hcz52_0 : w21.cell? ⟨gb584, 0, none⟩ = some (.int .i64 0) := (blk_cell BK584.out 0).trans rfl
             have hcz52_1 : w21.cell? ⟨gb584, 1, none⟩ = some (.int .i64 0) := (blk_cell BK584.out 1).trans rfl
             have hcz52_2 : w21.cell? ⟨gb584, 2, none⟩ = some (.int .i64 0) := (blk_cell BK584.out 2).trans rfl
             have hcz52_3 : w21.cell? ⟨gb584, 3, none⟩ = some (.int .i64 0) := (blk_cell BK584.out 3).trans rfl
             have hfz52_0 := blk_frozen BK584.out 0
             have hfz52_1 := blk_frozen BK584.out 1
             have hfz52_2 := blk_frozen BK584.out 2
             have hfz52_3 := blk_frozen BK584.out 3
             go_wp2
             go_meet
             case rel => exact ⟨_, (true), zT, H', ⟨by have := HJ5.out; first | omega | exact Nat.le_refl _⟩, ⟨by (with_reducible repeat (first | apply Kd.R_alloc | apply Kd.R_drewN | apply Kd.R_drew)); exact Kd.R_mono (Kd.R_far (p := ⟨gb584, 3, none⟩) (Kd.R_far (p := ⟨gb584, 2, none⟩) (Kd.R_far (p := ⟨gb584, 1, none⟩) (Kd.R_far (p := ⟨gb584, 0, none⟩) (Kd.R_types HO_4.out BK584.out (by decide)) (fun _ hk => hk.2) (.int .i64 ((rd_T35 l1 a2).f0))) (fun _ hk => hk.2) (.int .i64 ((rd_T35 l1 a2).f1))) (fun _ hk => hk.2) (.int .i64 ((rd_T35 l1 a2).f2))) (fun _ hk => hk.2) (.int .i64 ((rd_T35 l1 a2).f3))) (fun _ hk => hk.1)⟩, ⟨by (with_reducible repeat (first | refine blk_drewN ?_ _ | refine blk_drew ?_ | refine blk_alloc ?_ _)); refine blk_far ?_ NB580_584.out _; (with_reducible repeat (first | refine blk_drewN ?_ _ | refine blk_drew ?_ | refine blk_alloc ?_ _)); refine blk_far ?_ NB580_584.out _; (with_reducible repeat (first | refine blk_drewN ?_ _ | refine blk_drew ?_ | refine blk_alloc ?_ _)); refine blk_far ?_ NB580_584.out _; (with_reducible repeat (first | refine blk_drewN ?_ _ | refine blk_drew ?_ | refine blk_alloc ?_ _)); refine blk_far ?_ NB580_584.out _; (with_reducible repeat (first | refine blk_drewN ?_ _ | refine blk_drew ?_ | refine blk_alloc ?_ _)); exact BK580.out⟩, ⟨by (with_reducible repeat (first | refine blk_drewN ?_ _ | refine blk_drew ?_ | refine blk_alloc ?_ _)); refine blk_put (cs := #[.int .i64 ((rd_T35 l1 a2).f0), .int .i64 ((rd_T35 l1 a2).f1), .int .i64 ((rd_T35 l1 a2).f2), .int .i64 0]) ?_ 3 _ rfl; (with_reducible repeat (first | refine blk_drewN ?_ _ | refine blk_drew ?_ | refine blk_alloc ?_ _)); refine blk_put (cs := #[.int .i64 ((rd_T35 l1 a2).f0), .int .i64 ((rd_T35 l1 a2).f1), .int .i64 0, .int .i64 0]) ?_ 2 _ rfl; (with_reducible repeat (first | refine blk_drewN ?_ _ | refine blk_drew ?_ | refine blk_alloc ?_ _)); refine blk_put (cs := #[.int .i64 ((rd_T35 l1 a2).f0), .int .i64 0, .int .i64 0, .int .i64 0]) ?_ 1 _ rfl; (with_reducible repeat (first | refine blk_drewN ?_ _ | refine blk_drew ?_ | refine blk_alloc ?_ _)); refine blk_put (cs := #[.int .i64 0, .int .i64 0, .int .i64 0, .int .i64 0]) ?_ 0 _ rfl; (with_reducible repeat (first | refine blk_drewN ?_ _ | refine blk_drew ?_ | refine blk_alloc ?_ _)); exact BK584.out⟩, ⟨by repeat (first | (with_reducible first | exact HK.out | apply Kept.alloc | apply Kept.drewN | apply Kept.drew | refine Kept.setCell ?_ (.inr GW580.out) _ | refine Kept.setCell ?_ (.inr GW584.out) _) | exact HK.out)⟩, ⟨by repeat (first | (with_reducible first | exact HB.out | apply below_alloc | apply pw_below_drewN | apply below_drew1 | refine below_set ?_ GE580.out | refine below_set ?_ GE584.out) | exact HB.out)⟩⟩
            ·rw [if_neg c50] at H
             have c50b0 : decide (((rd_T35 l1 a2).f1) ≤ a2) = false := decide_eq_false c50
             clear c50
             by_cases c53 : ((rd_T35 l1 a2).f2) ≤ a2
             ·rw [if_pos c53] at H
              have c53b0 : decide (((rd_T35 l1 a2).f2) ≤ a2) = true := decide_eq_true c53
              clear c53
              have H' := Aside0.mk H
              clear H
              have hnb54 := NB584_580.out
              have hnc54 := NB580_584.out
              have hcz55_0 : w21.cell? ⟨gb584, 0, none⟩ = some (.int .i64 0) := (blk_cell BK584.out 0).trans rfl
              have hcz55_1 : w21.cell? ⟨gb584, 1, none⟩ = some (.int .i64 0) := (blk_cell BK584.out 1).trans rfl
              have hcz55_2 : w21.cell? ⟨gb584, 2, none⟩ = some (.int .i64 0) := (blk_cell BK584.out 2).trans rfl
              have hcz55_3 : w21.cell? ⟨gb584, 3, none⟩ = some (.int .i64 0) := (blk_cell BK584.out 3).trans rfl
              have hfz55_0 := blk_frozen BK584.out 0
              have hfz55_1 := blk_frozen BK584.out 1
              have hfz55_2 := blk_frozen BK584.out 2
              have hfz55_3 := blk_frozen BK584.out 3
              go_wp2
              go_meet
              case rel => exact ⟨_, (true), zT, H', ⟨by have := HJ5.out; first | omega | exact Nat.le_refl _⟩, ⟨by (with_reducible repeat (first | apply Kd.R_alloc | apply Kd.R_drewN | apply Kd.R_drew)); exact Kd.R_mono (Kd.R_far (p := ⟨gb584, 3, none⟩) (Kd.R_far (p := ⟨gb584, 2, none⟩) (Kd.R_far (p := ⟨gb584, 1, none⟩) (Kd.R_far (p := ⟨gb584, 0, none⟩) (Kd.R_types HO_4.out BK584.out (by decide)) (fun _ hk => hk.2) (.int .i64 ((rd_T35 l1 a2).f0))) (fun _ hk => hk.2) (.int .i64 ((rd_T35 l1 a2).f1))) (fun _ hk => hk.2) (.int .i64 ((rd_T35 l1 a2).f2))) (fun _ hk => hk.2) (.int .i64 ((rd_T35 l1 a2).f3))) (fun _ hk => hk.1)⟩, ⟨by (with_reducible repeat (first | refine blk_drewN ?_ _ | refine blk_drew ?_ | refine blk_alloc ?_ _)); refine blk_far ?_ NB580_584.out _; (with_reducible repeat (first | refine blk_drewN ?_ _ | refine blk_drew ?_ | refine blk_alloc ?_ _)); refine blk_far ?_ NB580_584.out _; (with_reducible repeat (first | refine blk_drewN ?_ _ | refine blk_drew ?_ | refine blk_alloc ?_ _)); refine blk_far ?_ NB580_584.out _; (with_reducible repeat (first | refine blk_drewN ?_ _ | refine blk_drew ?_ | refine blk_alloc ?_ _)); refine blk_far ?_ NB580_584.out _; (with_reducible repeat (first | refine blk_drewN ?_ _ | refine blk_drew ?_ | refine blk_alloc ?_ _)); exact BK580.out⟩, ⟨by (with_reducible repeat (first | refine blk_drewN ?_ _ | refine blk_drew ?_ | refine blk_alloc ?_ _)); refine blk_put (cs := #[.int .i64 ((rd_T35 l1 a2).f0), .int .i64 ((rd_T35 l1 a2).f1), .int .i64 ((rd_T35 l1 a2).f2), .int .i64 0]) ?_ 3 _ rfl; (with_reducible repeat (first | refine blk_drewN ?_ _ | refine blk_drew ?_ | refine blk_alloc ?_ _)); refine blk_put (cs := #[.int .i64 ((rd_T35 l1 a2).f0), .int .i64 ((rd_T35 l1 a2).f1), .int .i64 0, .int .i64 0]) ?_ 2 _ rfl; (with_reducible repeat (first | refine blk_drewN ?_ _ | refine blk_drew ?_ | refine blk_alloc ?_ _)); refine blk_put (cs := #[.int .i64 ((rd_T35 l1 a2).f0), .int .i64 0, .int .i64 0, .int .i64 0]) ?_ 1 _ rfl; (with_reducible repeat (first | refine blk_drewN ?_ _ | refine blk_drew ?_ | refine blk_alloc ?_ _)); refine blk_put (cs := #[.int .i64 0, .int .i64 0, .int .i64 0, .int .i64 0]) ?_ 0 _ rfl; (with_reducible repeat (first | refine blk_drewN ?_ _ | refine blk_drew ?_ | refine blk_alloc ?_ _)); exact BK584.out⟩, ⟨by repeat (first | (with_reducible first | exact HK.out | apply Kept.alloc | apply Kept.drewN | apply Kept.drew | refine Kept.setCell ?_ (.inr GW580.out) _ | refine Kept.setCell ?_ (.inr GW584.out) _) | exact HK.out)⟩, ⟨by repeat (first | (with_reducible first | exact HB.out | apply below_alloc | apply pw_below_drewN | apply below_drew1 | refine below_set ?_ GE580.out | refine below_set ?_ GE584.out) | exact HB.out)⟩⟩
             ·rw [if_neg c53] at H
              have c53b0 : decide (((rd_T35 l1 a2).f2) ≤ a2) = false := decide_eq_false c53
              clear c53
              by_cases c56 : 0 ≤ ((rd_T35 l1 a2).f0)
              ·rw [if_pos c56] at H
               have c56b0 := eq_true c56
               have c56b1 : decide (0 ≤ ((rd_T35 l1 a2).f0)) = true := decide_eq_true c56
               clear c56
               obtain ⟨ji57, hji57⟩ : ∃ j_ : Int, (shr .i64 a3_0 ((rd_T35 l1 a2).f0)) = j_ := ⟨_, rfl⟩
               replace H : (ancepsref40_below.j1 kj5 l0 l1 y582 ((Go.bits .and .i64 (ji57) 1) == 1) a3_0 a3_1 ((rd_T35 l1 a2).f0) ((rd_T35 l1 a2).f1) ((rd_T35 l1 a2).f2) ((rd_T35 l1 a2).f3)) = some (r1, r2) := by first | (rw [hji57] at H; exact H) | (simp only [hji57] at H ⊢; exact H)
               have hji57_ : (a3_0 / 2 ^ min ((rd_T35 l1 a2).f0).toNat 64) = ji57 := hji57
               have hji57z : ((rd_T35 l1 a2).f0) ≤ 64 → (a3_0 / 2 ^ ((rd_T35 l1 a2).f0).toNat) = ji57 := shr_small hji57
               have H' := Aside0.mk H
               clear H
               have hnb58 := NB584_580.out
               have hnc58 := NB580_584.out
               have hcz59_0 : w21.cell? ⟨gb584, 0, none⟩ = some (.int .i64 0) := (blk_cell BK584.out 0).trans rfl
               have hcz59_1 : w21.cell? ⟨gb584, 1, none⟩ = some (.int .i64 0) := (blk_cell BK584.out 1).trans rfl
               have hcz59_2 : w21.cell? ⟨gb584, 2, none⟩ = some (.int .i64 0) := (blk_cell BK584.out 2).trans rfl
               have hcz59_3 : w21.cell? ⟨gb584, 3, none⟩ = some (.int .i64 0) := (blk_cell BK584.out 3).trans rfl
               have hfz59_0 := blk_frozen BK584.out 0
               have hfz59_1 := blk_frozen BK584.out 1
               have hfz59_2 := blk_frozen BK584.out 2
               have hfz59_3 := blk_frozen BK584.out 3
               have hcz60_0 : w21.cell? ⟨gb580, 0, none⟩ = some (.int .i64 a3_0) := (blk_cell BK580.out 0).trans rfl
               have hcz60_1 : w21.cell? ⟨gb580, 1, none⟩ = some (.int .i64 a3_1) := (blk_cell BK580.out 1).trans rfl
               have hfz60_0 := blk_frozen BK580.out 0
               have hfz60_1 := blk_frozen BK580.out 1
               go_wp2
               go_meet
               case rel => exact ⟨_, (((Go.bits .and .i64 (ji57) 1) == 1)), (by first | rfl | (simp; done) | (simp only [← hji57] <;> (first | rfl | simp)) | (simp [*]; done)), H', ⟨by have := HJ5.out; first | omega | exact Nat.le_refl _⟩, ⟨by (with_reducible repeat (first | apply Kd.R_alloc | apply Kd.R_drewN | apply Kd.R_drew)); exact Kd.R_mono (Kd.R_far (p := ⟨gb584, 3, none⟩) (Kd.R_far (p := ⟨gb584, 2, none⟩) (Kd.R_far (p := ⟨gb584, 1, none⟩) (Kd.R_far (p := ⟨gb584, 0, none⟩) (Kd.R_types HO_4.out BK584.out (by decide)) (fun _ hk => hk.2) (.int .i64 ((rd_T35 l1 a2).f0))) (fun _ hk => hk.2) (.int .i64 ((rd_T35 l1 a2).f1))) (fun _ hk => hk.2) (.int .i64 ((rd_T35 l1 a2).f2))) (fun _ hk => hk.2) (.int .i64 ((rd_T35 l1 a2).f3))) (fun _ hk => hk.1)⟩, ⟨by (with_reducible repeat (first | refine blk_drewN ?_ _ | refine blk_drew ?_ | refine blk_alloc ?_ _)); refine blk_far ?_ NB580_584.out _; (with_reducible repeat (first | refine blk_drewN ?_ _ | refine blk_drew ?_ | refine blk_alloc ?_ _)); refine blk_far ?_ NB580_584.out _; (with_reducible repeat (first | refine blk_drewN ?_ _ | refine blk_drew ?_ | refine blk_alloc ?_ _)); refine blk_far ?_ NB580_584.out _; (with_reducible repeat (first | refine blk_drewN ?_ _ | refine blk_drew ?_ | refine blk_alloc ?_ _)); refine blk_far ?_ NB580_584.out _; (with_reducible repeat (first | refine blk_drewN ?_ _ | refine blk_drew ?_ | refine blk_alloc ?_ _)); exact BK580.out⟩, ⟨by (with_reducible repeat (first | refine blk_drewN ?_ _ | refine blk_drew ?_ | refine blk_alloc ?_ _)); refine blk_put (cs := #[.int .i64 ((rd_T35 l1 a2).f0), .int .i64 ((rd_T35 l1 a2).f1), .int .i64 ((rd_T35 l1 a2).f2), .int .i64 0]) ?_ 3 _ rfl; (with_reducible repeat (first | refine blk_drewN ?_ _ | refine blk_drew ?_ | refine blk_alloc ?_ _)); refine blk_put (cs := #[.int .i64 ((rd_T35 l1 a2).f0), .int .i64 ((rd_T35 l1 a2).f1), .int .i64 0, .int .i64 0]) ?_ 2 _ rfl; (with_reducible repeat (first | refine blk_drewN ?_ _ | refine blk_drew ?_ | refine blk_alloc ?_ _)); refine blk_put (cs := #[.int .i64 ((rd_T35 l1 a2).f0), .int .i64 0, .int .i64 0, .int .i64 0]) ?_ 1 _ rfl; (with_reducible repeat (first | refine blk_drewN ?_ _ | refine blk_drew ?_ | refine blk_alloc ?_ _)); refine blk_put (cs := #[.int .i64 0, .int .i64 0, .int .i64 0, .int .i64 0]) ?_ 0 _ rfl; (with_reducible repeat (first | refine blk_drewN ?_ _ | refine blk_drew ?_ | refine blk_alloc ?_ _)); exact BK584.out⟩, ⟨by repeat (first | (with_reducible first | exact HK.out | apply Kept.alloc | apply Kept.drewN | apply Kept.drew | refine Kept.setCell ?_ (.inr GW580.out) _ | refine Kept.setCell ?_ (.inr GW584.out) _) | exact HK.out)⟩, ⟨by repeat (first | (with_reducible first | exact HB.out | apply below_alloc | apply pw_below_drewN | apply below_drew1 | refine below_set ?_ GE580.out | refine below_set ?_ GE584.out) | exact HB.out)⟩⟩
              ·rw [if_neg c56] at H
               exact absurd H (by simp)
           ·rw [if_neg c49] at H
            have c49b0 : (((rd_T35 l1 a2).f3) == 0) = false := beq_eq_false_iff_ne.mpr c49
            have c49b1 : (((rd_T35 l1 a2).f3) != 0) = true := bne_iff_ne.mpr c49
            have H' := Aside0.mk H
            clear H
            have hnb61 := NB584_580.out
            have hnc61 := NB580_584.out
            have hcz62_0 : w21.cell? ⟨gb584, 0, none⟩ = some (.int .i64 0) := (blk_cell BK584.out 0).trans rfl
            have hcz62_1 : w21.cell? ⟨gb584, 1, none⟩ = some (.int .i64 0) := (blk_cell BK584.out 1).trans rfl
            have hcz62_2 : w21.cell? ⟨gb584, 2, none⟩ = some (.int .i64 0) := (blk_cell BK584.out 2).trans rfl
            have hcz62_3 : w21.cell? ⟨gb584, 3, none⟩ = some (.int .i64 0) := (blk_cell BK584.out 3).trans rfl
            have hfz62_0 := blk_frozen BK584.out 0
            have hfz62_1 := blk_frozen BK584.out 1
            have hfz62_2 := blk_frozen BK584.out 2
            have hfz62_3 := blk_frozen BK584.out 3
            go_wp2
            go_meet
            case rel => exact ⟨_, (true), zT, H', ⟨by have := HJ5.out; first | omega | exact Nat.le_refl _⟩, ⟨by (with_reducible repeat (first | apply Kd.R_alloc | apply Kd.R_drewN | apply Kd.R_drew)); exact Kd.R_mono (Kd.R_far (p := ⟨gb584, 3, none⟩) (Kd.R_far (p := ⟨gb584, 2, none⟩) (Kd.R_far (p := ⟨gb584, 1, none⟩) (Kd.R_far (p := ⟨gb584, 0, none⟩) (Kd.R_types HO_4.out BK584.out (by decide)) (fun _ hk => hk.2) (.int .i64 ((rd_T35 l1 a2).f0))) (fun _ hk => hk.2) (.int .i64 ((rd_T35 l1 a2).f1))) (fun _ hk => hk.2) (.int .i64 ((rd_T35 l1 a2).f2))) (fun _ hk => hk.2) (.int .i64 ((rd_T35 l1 a2).f3))) (fun _ hk => hk.1)⟩, ⟨by (with_reducible repeat (first | refine blk_drewN ?_ _ | refine blk_drew ?_ | refine blk_alloc ?_ _)); refine blk_far ?_ NB580_584.out _; (with_reducible repeat (first | refine blk_drewN ?_ _ | refine blk_drew ?_ | refine blk_alloc ?_ _)); refine blk_far ?_ NB580_584.out _; (with_reducible repeat (first | refine blk_drewN ?_ _ | refine blk_drew ?_ | refine blk_alloc ?_ _)); refine blk_far ?_ NB580_584.out _; (with_reducible repeat (first | refine blk_drewN ?_ _ | refine blk_drew ?_ | refine blk_alloc ?_ _)); refine blk_far ?_ NB580_584.out _; (with_reducible repeat (first | refine blk_drewN ?_ _ | refine blk_drew ?_ | refine blk_alloc ?_ _)); exact BK580.out⟩, ⟨by (with_reducible repeat (first | refine blk_drewN ?_ _ | refine blk_drew ?_ | refine blk_alloc ?_ _)); refine blk_put (cs := #[.int .i64 ((rd_T35 l1 a2).f0), .int .i64 ((rd_T35 l1 a2).f1), .int .i64 ((rd_T35 l1 a2).f2), .int .i64 0]) ?_ 3 _ rfl; (with_reducible repeat (first | refine blk_drewN ?_ _ | refine blk_drew ?_ | refine blk_alloc ?_ _)); refine blk_put (cs := #[.int .i64 ((rd_T35 l1 a2).f0), .int .i64 ((rd_T35 l1 a2).f1), .int .i64 0, .int .i64 0]) ?_ 2 _ rfl; (with_reducible repeat (first | refine blk_drewN ?_ _ | refine blk_drew ?_ | refine blk_alloc ?_ _)); refine blk_put (cs := #[.int .i64 ((rd_T35 l1 a2).f0), .int .i64 0, .int .i64 0, .int .i64 0]) ?_ 1 _ rfl; (with_reducible repeat (first | refine blk_drewN ?_ _ | refine blk_drew ?_ | refine blk_alloc ?_ _)); refine blk_put (cs := #[.int .i64 0, .int .i64 0, .int .i64 0, .int .i64 0]) ?_ 0 _ rfl; (with_reducible repeat (first | refine blk_drewN ?_ _ | refine blk_drew ?_ | refine blk_alloc ?_ _)); exact BK584.out⟩, ⟨by repeat (first | (with_reducible first | exact HK.out | apply Kept.alloc | apply Kept.drewN | apply Kept.drew | refine Kept.setCell ?_ (.inr GW580.out) _ | refine Kept.setCell ?_ (.inr GW584.out) _) | exact HK.out)⟩, ⟨by repeat (first | (with_reducible first | exact HB.out | apply below_alloc | apply pw_below_drewN | apply below_drew1 | refine below_set ?_ GE580.out | refine below_set ?_ GE584.out) | exact HB.out)⟩⟩
        case rest =>
         clear HC42
         try clear c24
         try clear c24b0
         try clear c24b1
         obtain ⟨kq, x98_41, rfl, HA, HJ41, HO_4, BK580, BK584, HK, HB⟩ := hcut
         have hl4_41 := (Kd.R_reads' HO_4.out).1
         rw [hl4_41] at HO_4
         (try simp only [hl4_41])
         (try simp only [hl4_41] at BK580)
         (try simp only [hl4_41] at BK584)
         cases kq with
         | zero => exact absurd HA.out (by simp [ancepsref40_below.j1])
         | succ kj41 =>
          have H := HA.out
          clear HA
          simp only [ancepsref40_below.j1] at H
          by_cases c63 : x98_41 = true
          ·subst c63
           have H1 : (some (false, y582)) = some (r1, r2) := by rw [if_pos rfl] at H; exact H
           clear H
           have H := H1
           clear H1
           simp only [Option.some.injEq, Prod.mk.injEq] at H
           obtain ⟨rfl, rfl⟩ := H
           go_wp2
           go_ret
           exact ⟨by first | rfl | (simp [errW_none, errW_some] <;> rfl) | (simp [*, errW_none, errW_some] <;> rfl), (by first | exact (zR HO_4) | (simp only [hl4_41]; exact (zR HO_4))), by repeat (first | (with_reducible first | exact HB.out | apply below_alloc | apply pw_below_drewN | apply below_drew1 | refine below_set ?_ GE580.out | refine below_set ?_ GE584.out) | exact HB.out), by repeat (first | (with_reducible first | exact HK.out | apply Kept.alloc | apply Kept.drewN | apply Kept.drew | refine Kept.setCell ?_ (.inr GW580.out) _ | refine Kept.setCell ?_ (.inr GW584.out) _) | exact HK.out)⟩
          ·replace c63 := Bool.eq_false_iff.mpr c63
           subst c63
           have H1 : ((ancepsref40_choices_with.f a3_0 a3_1 ((rd_T35 l1 a2).f0) 0).bind fun bt587 => ((ancepsref40_below.f kj41 l0 l1 ((rd_T35 l1 a2).f1) bt587.1 bt587.2 y582).bind fun bt589 => (if bt589.1 = true then ((ancepsref40_choices_with.f a3_0 a3_1 ((rd_T35 l1 a2).f0) 1).bind fun bt591 => ((ancepsref40_below.f kj41 l0 l1 ((rd_T35 l1 a2).f2) bt591.1 bt591.2 bt589.2).bind fun bt593 => (some (bt593.1, bt593.2)))) else (some (false, bt589.2))))) = some (r1, r2) := by rw [if_neg (show ¬ (false = true) by decide)] at H; exact H
           clear H
           have H := H1
           clear H1
           replace H := Option.bind_eq_some_iff.mp H
           obtain ⟨⟨t587, t588⟩, A640, H⟩ := H
           replace H : ((ancepsref40_below.f kj41 l0 l1 ((rd_T35 l1 a2).f1) t587 t588 y582).bind fun bt589 => (if bt589.1 = true then ((ancepsref40_choices_with.f a3_0 a3_1 ((rd_T35 l1 a2).f0) 1).bind fun bt591 => ((ancepsref40_below.f kj41 l0 l1 ((rd_T35 l1 a2).f2) bt591.1 bt591.2 bt589.2).bind fun bt593 => (some (bt593.1, bt593.2)))) else (some (false, bt589.2)))) = some (r1, r2) := H
           have A64 := Aside0.mk A640
           clear A640
           replace H := Option.bind_eq_some_iff.mp H
           obtain ⟨⟨t589, t590⟩, A650, H⟩ := H
           replace H : (if t589 = true then ((ancepsref40_choices_with.f a3_0 a3_1 ((rd_T35 l1 a2).f0) 1).bind fun bt591 => ((ancepsref40_below.f kj41 l0 l1 ((rd_T35 l1 a2).f2) bt591.1 bt591.2 t590).bind fun bt593 => (some (bt593.1, bt593.2)))) else (some (false, t590))) = some (r1, r2) := H
           have A65 := Aside0.mk A650
           clear A650
           by_cases c66 : t589 = true
           ·subst c66
            have H1 : ((ancepsref40_choices_with.f a3_0 a3_1 ((rd_T35 l1 a2).f0) 1).bind fun bt591 => ((ancepsref40_below.f kj41 l0 l1 ((rd_T35 l1 a2).f2) bt591.1 bt591.2 t590).bind fun bt593 => (some (bt593.1, bt593.2)))) = some (r1, r2) := by rw [if_pos rfl] at H; exact H
            clear H
            have H := H1
            clear H1
            replace H := Option.bind_eq_some_iff.mp H
            obtain ⟨⟨t591, t592⟩, A670, H⟩ := H
            replace H : ((ancepsref40_below.f kj41 l0 l1 ((rd_T35 l1 a2).f2) t591 t592 t590).bind fun bt593 => (some (bt593.1, bt593.2))) = some (r1, r2) := H
            have A67 := Aside0.mk A670
            clear A670
            replace H := Option.bind_eq_some_iff.mp H
            obtain ⟨⟨t593, t594⟩, A680, H⟩ := H
            replace H : (some (t593, t594)) = some (r1, r2) := H
            have A68 := Aside0.mk A680
            clear A680
            simp only [Option.some.injEq, Prod.mk.injEq] at H
            obtain ⟨rfl, rfl⟩ := H
            try go_wp2
            have n0_ := Aside0.mk (Kd.R_drew HO_4.out)
            have n1_ := Aside0.mk (blk_drew BK580.out)
            have n2_ := Aside0.mk (blk_drew BK584.out)
            have n3_ := Aside0.mk (Kept.drew HK.out)
            have n4_ := Aside0.mk (below_drew1 HB.out)
            clear HO_4
            clear BK580
            clear BK584
            clear HK
            clear HB
            have HO_4 := n0_
            have BK580 := n1_
            have BK584 := n2_
            have HK := n3_
            have HB := n4_
            clear n0_ n1_ n2_ n3_ n4_
            refine start_ (n := 23) (S := fun w' => w'.cell? ⟨gb584, 0, none⟩ = some (.int .i64 ((rd_T35 l1 a2).f0)) ∧ w'.cell? ⟨gb584, 1, none⟩ = some (.int .i64 ((rd_T35 l1 a2).f1)) ∧ w'.cell? ⟨gb584, 2, none⟩ = some (.int .i64 ((rd_T35 l1 a2).f2)) ∧ w'.cell? ⟨gb584, 3, none⟩ = some (.int .i64 ((rd_T35 l1 a2).f3)) ∧ w'.cell? ⟨gb580, 0, none⟩ = some (.int .i64 a3_0) ∧ w'.cell? ⟨gb580, 1, none⟩ = some (.int .i64 a3_1)) (ds := []) #[false, false, false, false, false, false, false, false, false, false, false, false, false, false, false, false, false, false, false, false, false, false, false] zK rfl rfl ⟨(blk_cell BK584.out 0).trans rfl, (blk_cell BK584.out 1).trans rfl, (blk_cell BK584.out 2).trans rfl, (blk_cell BK584.out 3).trans rfl, (blk_cell BK580.out 0).trans rfl, (blk_cell BK580.out 1).trans rfl⟩ (fun hHeld => ?_); refine with_tabW ancepsref40_below.tab9 ancepsref40_below.bits9 (fun HT_ HW_ => ?_)
            generalize wc.drew = w69 at HO_4 BK580 BK584 HK HB hHeld ⊢
            refine pure_ (i := 0) (N := some 99) (v := ?_) (a' := ?_) #[true, false, false, false, false, false, false, false, false, false, false, false, false, false, false, false, false, false, false, false, false, false, false] rfl rfl (any_of HT_.out zK) (fun _ _ _ h => h) (Or.inl ⟨by rfl, ?_⟩) ?_ ?_
            rotate_left
            ·intro w'
             go_simp
             with_reducible rfl
            rotate_left
            ·simp only [Act.put, List.setIfInBounds_toArray, List.set_cons_zero, List.set_cons_succ, i64_w, i32_w]
             rfl
            refine pure_ (i := 1) (N := some 100) (v := ?_) (a' := ?_) #[true, true, false, false, false, false, false, false, false, false, false, false, false, false, false, false, false, false, false, false, false, false, false] rfl rfl (any_of HT_.out zK) (fun _ _ _ h => h) (Or.inl ⟨by rfl, ?_⟩) ?_ ?_
            rotate_left
            ·intro w'
             go_simp
             with_reducible rfl
            rotate_left
            ·simp only [Act.put, List.setIfInBounds_toArray, List.set_cons_zero, List.set_cons_succ, i64_w, i32_w]
             rfl
            refine pure_ (i := 2) (N := some 101) (v := ?_) (a' := ?_) #[true, true, true, false, false, false, false, false, false, false, false, false, false, false, false, false, false, false, false, false, false, false, false] rfl rfl (any_of HT_.out zK) (fun _ _ _ h => h) (Or.inl ⟨by rfl, ?_⟩) ?_ ?_
            rotate_left
            ·intro w'
             go_simp
             with_reducible rfl
            rotate_left
            ·simp only [Act.put, List.setIfInBounds_toArray, List.set_cons_zero, List.set_cons_succ, i64_w, i32_w]
             rfl
            refine pure_ (i := 5) (N := some 104) (v := ?_) (a' := ?_) #[true, true, true, false, false, true, false, false, false, false, false, false, false, false, false, false, false, false, false, false, false, false, false] rfl rfl (any_of HT_.out zK) (fun _ _ _ h => h) (Or.inl ⟨by rfl, ?_⟩) ?_ ?_
            rotate_left
            ·intro w'
             go_simp
             with_reducible rfl
            rotate_left
            ·simp only [Act.put, List.setIfInBounds_toArray, List.set_cons_zero, List.set_cons_succ, i64_w, i32_w]
             rfl
            refine pure_ (i := 8) (N := some 107) (v := ?_) (a' := ?_) #[true, true, true, false, false, true, false, false, true, false, false, false, false, false, false, false, false, false, false, false, false, false, false] rfl rfl (any_of HT_.out zK) (fun _ _ _ h => h) (Or.inl ⟨by rfl, ?_⟩) ?_ ?_
            rotate_left
            ·intro w'
             go_simp
             with_reducible rfl
            rotate_left
            ·simp only [Act.put, List.setIfInBounds_toArray, List.set_cons_zero, List.set_cons_succ, i64_w, i32_w]
             rfl
            refine take_ (i := 3) (N := some 102) (v := ?_) (a' := ?_) #[true, true, true, true, false, true, false, false, true, false, false, false, false, false, false, false, false, false, false, false, false, false, false] rfl rfl (take_ofW HT_.out HW_.out zK) (fun _ _ _ h => h) (Or.inl ⟨by rfl, ?_⟩) hHeld ?_ ?_
            rotate_left
            ·rintro w' ⟨s0, s1, s2, s3, s4, s5⟩
             go_simp
             with_reducible rfl
            rotate_left
            ·simp only [Act.put, List.setIfInBounds_toArray, List.set_cons_zero, List.set_cons_succ, i64_w, i32_w]
             rfl
            refine take_ (i := 4) (N := some 103) (v := ?_) (a' := ?_) #[true, true, true, true, true, true, false, false, true, false, false, false, false, false, false, false, false, false, false, false, false, false, false] rfl rfl (take_ofW HT_.out HW_.out zK) (fun _ _ _ h => h) (Or.inl ⟨by rfl, ?_⟩) hHeld ?_ ?_
            rotate_left
            ·rintro w' ⟨s0, s1, s2, s3, s4, s5⟩
             go_simp
             with_reducible rfl
            rotate_left
            ·simp only [Act.put, List.setIfInBounds_toArray, List.set_cons_zero, List.set_cons_succ, i64_w, i32_w]
             rfl
            refine take_ (i := 6) (N := some 105) (v := ?_) (a' := ?_) #[true, true, true, true, true, true, true, false, true, false, false, false, false, false, false, false, false, false, false, false, false, false, false] rfl rfl (take_ofW HT_.out HW_.out zK) (fun _ _ _ h => h) (Or.inl ⟨by rfl, ?_⟩) hHeld ?_ ?_
            rotate_left
            ·rintro w' ⟨s0, s1, s2, s3, s4, s5⟩
             go_simp
             with_reducible rfl
            rotate_left
            ·simp only [Act.put, List.setIfInBounds_toArray, List.set_cons_zero, List.set_cons_succ, i64_w, i32_w]
             rfl
            refine one_ (i := 7) (N := some 106) #[true, true, true, true, true, true, true, true, true, false, false, false, false, false, false, false, false, false, false, false, false, false, false] rfl rfl (one_of HT_.out zK) (by decide) (fun K hK => ?_)
            refine goes_ Try.func90 zK rfl #[.agg #[.int .i64 a3_0, .int .i64 a3_1], .int .i64 ((rd_T35 l1 a2).f0), .int .i64 0] (by rfl) rfl rfl zM ?_
            with_reducible refine (ancepsref40_choices_with.calls a3_0 a3_1 ((rd_T35 l1 a2).f0) 0 t587 t588 _ A64.out).mono ?_
            rintro e w70 ⟨rfl, hb⟩
            refine ⟨_, rfl, ?_⟩
            have n0_ := Aside0.mk (Kd.R_below (zR HO_4) hb)
            have n1_ := Aside0.mk (blk_below (g := gb580) (o := .cells #[.int .i64 a3_0, .int .i64 a3_1] 74 (0, 0)) (zk BK580) hb)
            have n2_ := Aside0.mk (blk_below (g := gb584) (o := .cells #[.int .i64 ((rd_T35 l1 a2).f0), .int .i64 ((rd_T35 l1 a2).f1), .int .i64 ((rd_T35 l1 a2).f2), .int .i64 ((rd_T35 l1 a2).f3)] 35 (0, 0)) (zk BK584) hb)
            have n3_ := Aside0.mk (Kept.below (S := (fun k_ => P4_ k_)) (by repeat (first | (with_reducible first | exact HK.out | apply Kept.alloc | apply Kept.drewN | apply Kept.drew | refine Kept.setCell ?_ (.inr GW580.out) _ | refine Kept.setCell ?_ (.inr GW584.out) _) | exact HK.out)) hb)
            have n4_ := Aside0.mk (below_step zB hb)
            clear HO_4
            clear BK580
            clear BK584
            clear HK
            clear HB
            have HO_4 := n0_
            have BK580 := n1_
            have BK584 := n2_
            have HK := n3_
            have HB := n4_
            clear n0_ n1_ n2_ n3_ n4_
            (try clear hb)
            (try clear hb2)
            (try clear hk)
            (try clear hi)
            refine hK.out _ _ ⟨(blk_cell BK584.out 0).trans rfl, (blk_cell BK584.out 1).trans rfl, (blk_cell BK584.out 2).trans rfl, (blk_cell BK584.out 3).trans rfl, (blk_cell BK580.out 0).trans rfl, (blk_cell BK580.out 1).trans rfl⟩ (fun hHeld => ?_)
            clear hK K
            refine norm_ (a' := ?_) ?_ ?_
            rotate_left
            ·show Act.put _ (some 106) _ = _
             simp only [Act.put, List.setIfInBounds_toArray, List.set_cons_zero, List.set_cons_succ, i64_w, i32_w]
             rfl
            refine one_ (i := 9) (N := some 108) #[true, true, true, true, true, true, true, true, true, true, false, false, false, false, false, false, false, false, false, false, false, false, false] rfl rfl (one_of HT_.out zK) (by decide) (fun K hK => ?_)
            refine goes_ Try.func55 zK rfl #[.slice A0 l0.length c0, .slice (some ad583) l1.length c1, .int .i64 ((rd_T35 l1 a2).f1), .agg #[.int .i64 t587, .int .i64 t588], .slice (some ⟨go16, 0, none⟩) y582.length co16] (by rfl) rfl rfl zM ?_
            with_reducible refine (ih kj41 (by have := HJ5.out; have := HJ41.out; omega) _ _ l0 _ _ l1 ((rd_T35 l1 a2).f1) t587 t588 (fun k_ => some k_ = (.slice (some ⟨go16, 0, none⟩) y582.length co16 : Value).ownBlock) (.slice (some ⟨go16, 0, none⟩) y582.length co16) y582 true t590 w0 _ ?side1 ?side2 ?side3 ?side4 ?side5 ?side6 A65.out).mono ?_
            (case side1 => repeat (first | (with_reducible first | exact HB.out | apply below_alloc | apply pw_below_drewN | apply below_drew1 | refine below_set ?_ GE580.out | refine below_set ?_ GE584.out) | exact HB.out))
            (case side2 => exact Kd.C_kept_call HR0.out (by repeat (first | (with_reducible first | exact HK.out | apply Kept.alloc | apply Kept.drewN | apply Kept.drew | refine Kept.setCell ?_ (.inr GW580.out) _ | refine Kept.setCell ?_ (.inr GW584.out) _) | exact HK.out)) (fun k_ hs_ => (fun e_ => (HO_4.out.1 k_ e_.symm)) hs_))
            (case side3 => exact HC0.out)
            (case side4 => exact Kd.C_kept_call HR1.out (by repeat (first | (with_reducible first | exact HK.out | apply Kept.alloc | apply Kept.drewN | apply Kept.drew | refine Kept.setCell ?_ (.inr GW580.out) _ | refine Kept.setCell ?_ (.inr GW584.out) _) | exact HK.out)) (fun k_ hs_ => (fun e_ => (HO_4.out.1 k_ e_.symm)) hs_))
            (case side5 => exact HC1.out)
            (case side6 => exact Kd.R_tight rfl HO_4.out)
            rintro e w71 ⟨rfl, hy0, hb, hkp⟩
            refine ⟨_, rfl, ?_⟩
            have n0_ := Aside0.mk (Kd.R_reok rfl hy0 (fun k_ e_ => HO_4.out.1 k_ e_))
            have n1_ := Aside0.mk (blk_kept (zk BK580) hkp (fun hs_ => (fun e_ => (Kd.R_ne HO_4.out BK580.out (by decide)) e_) hs_))
            have n2_ := Aside0.mk (blk_kept (zk BK584) hkp (fun hs_ => (fun e_ => (Kd.R_ne HO_4.out BK584.out (by decide)) e_) hs_))
            have n3_ := Aside0.mk (Kept.then_ (S := (fun k_ => P4_ k_)) (by repeat (first | (with_reducible first | exact HK.out | apply Kept.alloc | apply Kept.drewN | apply Kept.drew | refine Kept.setCell ?_ (.inr GW580.out) _ | refine Kept.setCell ?_ (.inr GW584.out) _) | exact HK.out)) hkp (fun k_ hs_ => (fun e_ => (HO_4.out.1 k_ e_.symm)) hs_))
            have n4_ := Aside0.mk (hb)
            clear HO_4
            clear BK580
            clear BK584
            clear HK
            clear HB
            have HO_4 := n0_
            have BK580 := n1_
            have BK584 := n2_
            have HK := n3_
            have HB := n4_
            clear n0_ n1_ n2_ n3_ n4_
            (try clear hb)
            (try clear hkp)
            (try clear hy0)
            refine hK.out _ _ ⟨(blk_cell BK584.out 0).trans rfl, (blk_cell BK584.out 1).trans rfl, (blk_cell BK584.out 2).trans rfl, (blk_cell BK584.out 3).trans rfl, (blk_cell BK580.out 0).trans rfl, (blk_cell BK580.out 1).trans rfl⟩ (fun hHeld => ?_)
            clear hK K
            refine norm_ (a' := ?_) ?_ ?_
            rotate_left
            ·show Act.put _ (some 108) _ = _
             simp only [Act.put, List.setIfInBounds_toArray, List.set_cons_zero, List.set_cons_succ, i64_w, i32_w]
             rfl
            refine pure_ (i := 10) (N := some 109) (v := ?_) (a' := ?_) #[true, true, true, true, true, true, true, true, true, true, true, false, false, false, false, false, false, false, false, false, false, false, false] rfl rfl (any_of HT_.out zK) (fun _ _ _ h => h) (Or.inl ⟨by rfl, ?_⟩) ?_ ?_
            rotate_left
            ·intro w'
             go_simp
             with_reducible rfl
            rotate_left
            ·simp only [Act.put, List.setIfInBounds_toArray, List.set_cons_zero, List.set_cons_succ, i64_w, i32_w]
             rfl
            refine pure_ (i := 11) (N := some 110) (v := ?_) (a' := ?_) #[true, true, true, true, true, true, true, true, true, true, true, true, false, false, false, false, false, false, false, false, false, false, false] rfl rfl (any_of HT_.out zK) (fun _ _ _ h => h) (Or.inl ⟨by rfl, ?_⟩) ?_ ?_
            rotate_left
            ·intro w'
             go_simp
             with_reducible rfl
            rotate_left
            ·simp only [Act.put, List.setIfInBounds_toArray, List.set_cons_zero, List.set_cons_succ, i64_w, i32_w]
             rfl
            refine pure_ (i := 12) (N := some 111) (v := ?_) (a' := ?_) #[true, true, true, true, true, true, true, true, true, true, true, true, true, false, false, false, false, false, false, false, false, false, false] rfl rfl (any_of HT_.out zK) (fun _ _ _ h => h) (Or.inl ⟨by rfl, ?_⟩) ?_ ?_
            rotate_left
            ·intro w'
             go_simp
             with_reducible rfl
            rotate_left
            ·simp only [Act.put, List.setIfInBounds_toArray, List.set_cons_zero, List.set_cons_succ, i64_w, i32_w]
             rfl
            refine pure_ (i := 13) (N := some 112) (v := ?_) (a' := ?_) #[true, true, true, true, true, true, true, true, true, true, true, true, true, true, false, false, false, false, false, false, false, false, false] rfl rfl (any_of HT_.out zK) (fun _ _ _ h => h) (Or.inl ⟨by rfl, ?_⟩) ?_ ?_
            rotate_left
            ·intro w'
             go_simp
             with_reducible rfl
            rotate_left
            ·simp only [Act.put, List.setIfInBounds_toArray, List.set_cons_zero, List.set_cons_succ, i64_w, i32_w]
             rfl
            refine pure_ (i := 16) (N := some 115) (v := ?_) (a' := ?_) #[true, true, true, true, true, true, true, true, true, true, true, true, true, true, false, false, true, false, false, false, false, false, false] rfl rfl (any_of HT_.out zK) (fun _ _ _ h => h) (Or.inl ⟨by rfl, ?_⟩) ?_ ?_
            rotate_left
            ·intro w'
             go_simp
             with_reducible rfl
            rotate_left
            ·simp only [Act.put, List.setIfInBounds_toArray, List.set_cons_zero, List.set_cons_succ, i64_w, i32_w]
             rfl
            refine pure_ (i := 19) (N := some 118) (v := ?_) (a' := ?_) #[true, true, true, true, true, true, true, true, true, true, true, true, true, true, false, false, true, false, false, true, false, false, false] rfl rfl (any_of HT_.out zK) (fun _ _ _ h => h) (Or.inl ⟨by rfl, ?_⟩) ?_ ?_
            rotate_left
            ·intro w'
             go_simp
             with_reducible rfl
            rotate_left
            ·simp only [Act.put, List.setIfInBounds_toArray, List.set_cons_zero, List.set_cons_succ, i64_w, i32_w]
             rfl
            refine take_ (i := 14) (N := some 113) (v := ?_) (a' := ?_) #[true, true, true, true, true, true, true, true, true, true, true, true, true, true, true, false, true, false, false, true, false, false, false] rfl rfl (take_ofW HT_.out HW_.out zK) (fun _ _ _ h => h) (Or.inl ⟨by rfl, ?_⟩) hHeld ?_ ?_
            rotate_left
            ·rintro w' ⟨s0, s1, s2, s3, s4, s5⟩
             go_simp
             with_reducible rfl
            rotate_left
            ·simp only [Act.put, List.setIfInBounds_toArray, List.set_cons_zero, List.set_cons_succ, i64_w, i32_w]
             rfl
            refine take_ (i := 15) (N := some 114) (v := ?_) (a' := ?_) #[true, true, true, true, true, true, true, true, true, true, true, true, true, true, true, true, true, false, false, true, false, false, false] rfl rfl (take_ofW HT_.out HW_.out zK) (fun _ _ _ h => h) (Or.inl ⟨by rfl, ?_⟩) hHeld ?_ ?_
            rotate_left
            ·rintro w' ⟨s0, s1, s2, s3, s4, s5⟩
             go_simp
             with_reducible rfl
            rotate_left
            ·simp only [Act.put, List.setIfInBounds_toArray, List.set_cons_zero, List.set_cons_succ, i64_w, i32_w]
             rfl
            refine take_ (i := 17) (N := some 116) (v := ?_) (a' := ?_) #[true, true, true, true, true, true, true, true, true, true, true, true, true, true, true, true, true, true, false, true, false, false, false] rfl rfl (take_ofW HT_.out HW_.out zK) (fun _ _ _ h => h) (Or.inl ⟨by rfl, ?_⟩) hHeld ?_ ?_
            rotate_left
            ·rintro w' ⟨s0, s1, s2, s3, s4, s5⟩
             go_simp
             with_reducible rfl
            rotate_left
            ·simp only [Act.put, List.setIfInBounds_toArray, List.set_cons_zero, List.set_cons_succ, i64_w, i32_w]
             rfl
            refine one_ (i := 18) (N := some 117) #[true, true, true, true, true, true, true, true, true, true, true, true, true, true, true, true, true, true, true, true, false, false, false] rfl rfl (one_of HT_.out zK) (by decide) (fun K hK => ?_)
            refine goes_ Try.func90 zK rfl #[.agg #[.int .i64 a3_0, .int .i64 a3_1], .int .i64 ((rd_T35 l1 a2).f0), .int .i64 1] (by rfl) rfl rfl zM ?_
            with_reducible refine (ancepsref40_choices_with.calls a3_0 a3_1 ((rd_T35 l1 a2).f0) 1 t591 t592 _ A67.out).mono ?_
            rintro e w72 ⟨rfl, hb⟩
            refine ⟨_, rfl, ?_⟩
            have n0_ := Aside0.mk (Kd.R_below (zR HO_4) hb)
            have n1_ := Aside0.mk (blk_below (g := gb580) (o := .cells #[.int .i64 a3_0, .int .i64 a3_1] 74 (0, 0)) (zk BK580) hb)
            have n2_ := Aside0.mk (blk_below (g := gb584) (o := .cells #[.int .i64 ((rd_T35 l1 a2).f0), .int .i64 ((rd_T35 l1 a2).f1), .int .i64 ((rd_T35 l1 a2).f2), .int .i64 ((rd_T35 l1 a2).f3)] 35 (0, 0)) (zk BK584) hb)
            have n3_ := Aside0.mk (Kept.below (S := (fun k_ => P4_ k_)) (by repeat (first | (with_reducible first | exact HK.out | apply Kept.alloc | apply Kept.drewN | apply Kept.drew | refine Kept.setCell ?_ (.inr GW580.out) _ | refine Kept.setCell ?_ (.inr GW584.out) _) | exact HK.out)) hb)
            have n4_ := Aside0.mk (below_step zB hb)
            clear HO_4
            clear BK580
            clear BK584
            clear HK
            clear HB
            have HO_4 := n0_
            have BK580 := n1_
            have BK584 := n2_
            have HK := n3_
            have HB := n4_
            clear n0_ n1_ n2_ n3_ n4_
            (try clear hb)
            (try clear hb2)
            (try clear hk)
            (try clear hi)
            refine hK.out _ _ ⟨(blk_cell BK584.out 0).trans rfl, (blk_cell BK584.out 1).trans rfl, (blk_cell BK584.out 2).trans rfl, (blk_cell BK584.out 3).trans rfl, (blk_cell BK580.out 0).trans rfl, (blk_cell BK580.out 1).trans rfl⟩ (fun hHeld => ?_)
            clear hK K
            refine norm_ (a' := ?_) ?_ ?_
            rotate_left
            ·show Act.put _ (some 117) _ = _
             simp only [Act.put, List.setIfInBounds_toArray, List.set_cons_zero, List.set_cons_succ, i64_w, i32_w]
             rfl
            refine one_ (i := 20) (N := some 119) #[true, true, true, true, true, true, true, true, true, true, true, true, true, true, true, true, true, true, true, true, true, false, false] rfl rfl (one_of HT_.out zK) (by decide) (fun K hK => ?_)
            refine goes_ Try.func55 zK rfl #[.slice A0 l0.length c0, .slice (some ad583) l1.length c1, .int .i64 ((rd_T35 l1 a2).f2), .agg #[.int .i64 t591, .int .i64 t592], .slice (some ⟨go16, 0, none⟩) y582.length co16] (by rfl) rfl rfl zM ?_
            with_reducible refine (ih kj41 (by have := HJ5.out; have := HJ41.out; omega) _ _ l0 _ _ l1 ((rd_T35 l1 a2).f2) t591 t592 (fun k_ => some k_ = (.slice (some ⟨go16, 0, none⟩) y582.length co16 : Value).ownBlock) (.slice (some ⟨go16, 0, none⟩) y582.length co16) t590 t593 t594 w0 _ ?side1 ?side2 ?side3 ?side4 ?side5 ?side6 A68.out).mono ?_
            (case side1 => repeat (first | (with_reducible first | exact HB.out | apply below_alloc | apply pw_below_drewN | apply below_drew1 | refine below_set ?_ GE580.out | refine below_set ?_ GE584.out) | exact HB.out))
            (case side2 => exact Kd.C_kept_call HR0.out (by repeat (first | (with_reducible first | exact HK.out | apply Kept.alloc | apply Kept.drewN | apply Kept.drew | refine Kept.setCell ?_ (.inr GW580.out) _ | refine Kept.setCell ?_ (.inr GW584.out) _) | exact HK.out)) (fun k_ hs_ => (fun e_ => (HO_4.out.1 k_ e_.symm)) hs_))
            (case side3 => exact HC0.out)
            (case side4 => exact Kd.C_kept_call HR1.out (by repeat (first | (with_reducible first | exact HK.out | apply Kept.alloc | apply Kept.drewN | apply Kept.drew | refine Kept.setCell ?_ (.inr GW580.out) _ | refine Kept.setCell ?_ (.inr GW584.out) _) | exact HK.out)) (fun k_ hs_ => (fun e_ => (HO_4.out.1 k_ e_.symm)) hs_))
            (case side5 => exact HC1.out)
            (case side6 => exact Kd.R_tight rfl HO_4.out)
            rintro e w73 ⟨rfl, hy0, hb, hkp⟩
            refine ⟨_, rfl, ?_⟩
            have n0_ := Aside0.mk (Kd.R_reok rfl hy0 (fun k_ e_ => HO_4.out.1 k_ e_))
            have n1_ := Aside0.mk (blk_kept (zk BK580) hkp (fun hs_ => (fun e_ => (Kd.R_ne HO_4.out BK580.out (by decide)) e_) hs_))
            have n2_ := Aside0.mk (blk_kept (zk BK584) hkp (fun hs_ => (fun e_ => (Kd.R_ne HO_4.out BK584.out (by decide)) e_) hs_))
            have n3_ := Aside0.mk (Kept.then_ (S := (fun k_ => P4_ k_)) (by repeat (first | (with_reducible first | exact HK.out | apply Kept.alloc | apply Kept.drewN | apply Kept.drew | refine Kept.setCell ?_ (.inr GW580.out) _ | refine Kept.setCell ?_ (.inr GW584.out) _) | exact HK.out)) hkp (fun k_ hs_ => (fun e_ => (HO_4.out.1 k_ e_.symm)) hs_))
            have n4_ := Aside0.mk (hb)
            clear HO_4
            clear BK580
            clear BK584
            clear HK
            clear HB
            have HO_4 := n0_
            have BK580 := n1_
            have BK584 := n2_
            have HK := n3_
            have HB := n4_
            clear n0_ n1_ n2_ n3_ n4_
            (try clear hb)
            (try clear hkp)
            (try clear hy0)
            refine hK.out _ _ ⟨(blk_cell BK584.out 0).trans rfl, (blk_cell BK584.out 1).trans rfl, (blk_cell BK584.out 2).trans rfl, (blk_cell BK584.out 3).trans rfl, (blk_cell BK580.out 0).trans rfl, (blk_cell BK580.out 1).trans rfl⟩ (fun hHeld => ?_)
            clear hK K
            refine norm_ (a' := ?_) ?_ ?_
            rotate_left
            ·show Act.put _ (some 119) _ = _
             simp only [Act.put, List.setIfInBounds_toArray, List.set_cons_zero, List.set_cons_succ, i64_w, i32_w]
             rfl
            refine pure_ (i := 21) (N := some 120) (v := ?_) (a' := ?_) #[true, true, true, true, true, true, true, true, true, true, true, true, true, true, true, true, true, true, true, true, true, true, false] rfl rfl (any_of HT_.out zK) (fun _ _ _ h => h) (Or.inl ⟨by rfl, ?_⟩) ?_ ?_
            rotate_left
            ·intro w'
             go_simp
             with_reducible rfl
            rotate_left
            ·simp only [Act.put, List.setIfInBounds_toArray, List.set_cons_zero, List.set_cons_succ, i64_w, i32_w]
             rfl
            refine pure_ (i := 22) (N := some 10) (v := ?_) (a' := ?_) #[true, true, true, true, true, true, true, true, true, true, true, true, true, true, true, true, true, true, true, true, true, true, true] rfl rfl (any_of HT_.out zK) (fun _ _ _ h => h) (Or.inl ⟨by rfl, ?_⟩) ?_ ?_
            rotate_left
            ·intro w'
             go_simp
             with_reducible rfl
            rotate_left
            ·simp only [Act.put, List.setIfInBounds_toArray, List.set_cons_zero, List.set_cons_succ, i64_w, i32_w]
             rfl
            refine done_ (done_of HT_.out zK) ?_
            try go_wp2
            go_ret
            exact ⟨by first | rfl | (simp [errW_none, errW_some] <;> rfl) | (simp [*, errW_none, errW_some] <;> rfl), (by first | exact (zR HO_4) | (simp only [hl4_41]; exact (zR HO_4))), by repeat (first | (with_reducible first | exact HB.out | apply below_alloc | apply pw_below_drewN | apply below_drew1 | refine below_set ?_ GE580.out | refine below_set ?_ GE584.out) | exact HB.out), by repeat (first | (with_reducible first | exact HK.out | apply Kept.alloc | apply Kept.drewN | apply Kept.drew | refine Kept.setCell ?_ (.inr GW580.out) _ | refine Kept.setCell ?_ (.inr GW584.out) _) | exact HK.out)⟩
           ·replace c66 := Bool.eq_false_iff.mpr c66
            subst c66
            have H1 : (some (false, t590)) = some (r1, r2) := by rw [if_neg (show ¬ (false = true) by decide)] at H; exact H
            clear H
            have H := H1
            clear H1
            simp only [Option.some.injEq, Prod.mk.injEq] at H
            obtain ⟨rfl, rfl⟩ := H
            try go_wp2
            have n0_ := Aside0.mk (Kd.R_drew HO_4.out)
            have n1_ := Aside0.mk (blk_drew BK580.out)
            have n2_ := Aside0.mk (blk_drew BK584.out)
            have n3_ := Aside0.mk (Kept.drew HK.out)
            have n4_ := Aside0.mk (below_drew1 HB.out)
            clear HO_4
            clear BK580
            clear BK584
            clear HK
            clear HB
            have HO_4 := n0_
            have BK580 := n1_
            have BK584 := n2_
            have HK := n3_
            have HB := n4_
            clear n0_ n1_ n2_ n3_ n4_
            refine start_ (n := 23) (S := fun w' => w'.cell? ⟨gb584, 0, none⟩ = some (.int .i64 ((rd_T35 l1 a2).f0)) ∧ w'.cell? ⟨gb584, 1, none⟩ = some (.int .i64 ((rd_T35 l1 a2).f1)) ∧ w'.cell? ⟨gb584, 2, none⟩ = some (.int .i64 ((rd_T35 l1 a2).f2)) ∧ w'.cell? ⟨gb584, 3, none⟩ = some (.int .i64 ((rd_T35 l1 a2).f3)) ∧ w'.cell? ⟨gb580, 0, none⟩ = some (.int .i64 a3_0) ∧ w'.cell? ⟨gb580, 1, none⟩ = some (.int .i64 a3_1)) (ds := []) #[false, false, false, false, false, false, false, false, false, false, false, false, false, false, false, false, false, false, false, false, false, false, false] zK rfl rfl ⟨(blk_cell BK584.out 0).trans rfl, (blk_cell BK584.out 1).trans rfl, (blk_cell BK584.out 2).trans rfl, (blk_cell BK584.out 3).trans rfl, (blk_cell BK580.out 0).trans rfl, (blk_cell BK580.out 1).trans rfl⟩ (fun hHeld => ?_); refine with_tabW ancepsref40_below.tab9 ancepsref40_below.bits9 (fun HT_ HW_ => ?_)
            generalize wc.drew = w74 at HO_4 BK580 BK584 HK HB hHeld ⊢
            refine pure_ (i := 0) (N := some 99) (v := ?_) (a' := ?_) #[true, false, false, false, false, false, false, false, false, false, false, false, false, false, false, false, false, false, false, false, false, false, false] rfl rfl (any_of HT_.out zK) (fun _ _ _ h => h) (Or.inl ⟨by rfl, ?_⟩) ?_ ?_
            rotate_left
            ·intro w'
             go_simp
             with_reducible rfl
            rotate_left
            ·simp only [Act.put, List.setIfInBounds_toArray, List.set_cons_zero, List.set_cons_succ, i64_w, i32_w]
             rfl
            refine pure_ (i := 1) (N := some 100) (v := ?_) (a' := ?_) #[true, true, false, false, false, false, false, false, false, false, false, false, false, false, false, false, false, false, false, false, false, false, false] rfl rfl (any_of HT_.out zK) (fun _ _ _ h => h) (Or.inl ⟨by rfl, ?_⟩) ?_ ?_
            rotate_left
            ·intro w'
             go_simp
             with_reducible rfl
            rotate_left
            ·simp only [Act.put, List.setIfInBounds_toArray, List.set_cons_zero, List.set_cons_succ, i64_w, i32_w]
             rfl
            refine pure_ (i := 2) (N := some 101) (v := ?_) (a' := ?_) #[true, true, true, false, false, false, false, false, false, false, false, false, false, false, false, false, false, false, false, false, false, false, false] rfl rfl (any_of HT_.out zK) (fun _ _ _ h => h) (Or.inl ⟨by rfl, ?_⟩) ?_ ?_
            rotate_left
            ·intro w'
             go_simp
             with_reducible rfl
            rotate_left
            ·simp only [Act.put, List.setIfInBounds_toArray, List.set_cons_zero, List.set_cons_succ, i64_w, i32_w]
             rfl
            refine pure_ (i := 5) (N := some 104) (v := ?_) (a' := ?_) #[true, true, true, false, false, true, false, false, false, false, false, false, false, false, false, false, false, false, false, false, false, false, false] rfl rfl (any_of HT_.out zK) (fun _ _ _ h => h) (Or.inl ⟨by rfl, ?_⟩) ?_ ?_
            rotate_left
            ·intro w'
             go_simp
             with_reducible rfl
            rotate_left
            ·simp only [Act.put, List.setIfInBounds_toArray, List.set_cons_zero, List.set_cons_succ, i64_w, i32_w]
             rfl
            refine pure_ (i := 8) (N := some 107) (v := ?_) (a' := ?_) #[true, true, true, false, false, true, false, false, true, false, false, false, false, false, false, false, false, false, false, false, false, false, false] rfl rfl (any_of HT_.out zK) (fun _ _ _ h => h) (Or.inl ⟨by rfl, ?_⟩) ?_ ?_
            rotate_left
            ·intro w'
             go_simp
             with_reducible rfl
            rotate_left
            ·simp only [Act.put, List.setIfInBounds_toArray, List.set_cons_zero, List.set_cons_succ, i64_w, i32_w]
             rfl
            refine take_ (i := 3) (N := some 102) (v := ?_) (a' := ?_) #[true, true, true, true, false, true, false, false, true, false, false, false, false, false, false, false, false, false, false, false, false, false, false] rfl rfl (take_ofW HT_.out HW_.out zK) (fun _ _ _ h => h) (Or.inl ⟨by rfl, ?_⟩) hHeld ?_ ?_
            rotate_left
            ·rintro w' ⟨s0, s1, s2, s3, s4, s5⟩
             go_simp
             with_reducible rfl
            rotate_left
            ·simp only [Act.put, List.setIfInBounds_toArray, List.set_cons_zero, List.set_cons_succ, i64_w, i32_w]
             rfl
            refine take_ (i := 4) (N := some 103) (v := ?_) (a' := ?_) #[true, true, true, true, true, true, false, false, true, false, false, false, false, false, false, false, false, false, false, false, false, false, false] rfl rfl (take_ofW HT_.out HW_.out zK) (fun _ _ _ h => h) (Or.inl ⟨by rfl, ?_⟩) hHeld ?_ ?_
            rotate_left
            ·rintro w' ⟨s0, s1, s2, s3, s4, s5⟩
             go_simp
             with_reducible rfl
            rotate_left
            ·simp only [Act.put, List.setIfInBounds_toArray, List.set_cons_zero, List.set_cons_succ, i64_w, i32_w]
             rfl
            refine take_ (i := 6) (N := some 105) (v := ?_) (a' := ?_) #[true, true, true, true, true, true, true, false, true, false, false, false, false, false, false, false, false, false, false, false, false, false, false] rfl rfl (take_ofW HT_.out HW_.out zK) (fun _ _ _ h => h) (Or.inl ⟨by rfl, ?_⟩) hHeld ?_ ?_
            rotate_left
            ·rintro w' ⟨s0, s1, s2, s3, s4, s5⟩
             go_simp
             with_reducible rfl
            rotate_left
            ·simp only [Act.put, List.setIfInBounds_toArray, List.set_cons_zero, List.set_cons_succ, i64_w, i32_w]
             rfl
            refine one_ (i := 7) (N := some 106) #[true, true, true, true, true, true, true, true, true, false, false, false, false, false, false, false, false, false, false, false, false, false, false] rfl rfl (one_of HT_.out zK) (by decide) (fun K hK => ?_)
            refine goes_ Try.func90 zK rfl #[.agg #[.int .i64 a3_0, .int .i64 a3_1], .int .i64 ((rd_T35 l1 a2).f0), .int .i64 0] (by rfl) rfl rfl zM ?_
            with_reducible refine (ancepsref40_choices_with.calls a3_0 a3_1 ((rd_T35 l1 a2).f0) 0 t587 t588 _ A64.out).mono ?_
            rintro e w75 ⟨rfl, hb⟩
            refine ⟨_, rfl, ?_⟩
            have n0_ := Aside0.mk (Kd.R_below (zR HO_4) hb)
            have n1_ := Aside0.mk (blk_below (g := gb580) (o := .cells #[.int .i64 a3_0, .int .i64 a3_1] 74 (0, 0)) (zk BK580) hb)
            have n2_ := Aside0.mk (blk_below (g := gb584) (o := .cells #[.int .i64 ((rd_T35 l1 a2).f0), .int .i64 ((rd_T35 l1 a2).f1), .int .i64 ((rd_T35 l1 a2).f2), .int .i64 ((rd_T35 l1 a2).f3)] 35 (0, 0)) (zk BK584) hb)
            have n3_ := Aside0.mk (Kept.below (S := (fun k_ => P4_ k_)) (by repeat (first | (with_reducible first | exact HK.out | apply Kept.alloc | apply Kept.drewN | apply Kept.drew | refine Kept.setCell ?_ (.inr GW580.out) _ | refine Kept.setCell ?_ (.inr GW584.out) _) | exact HK.out)) hb)
            have n4_ := Aside0.mk (below_step zB hb)
            clear HO_4
            clear BK580
            clear BK584
            clear HK
            clear HB
            have HO_4 := n0_
            have BK580 := n1_
            have BK584 := n2_
            have HK := n3_
            have HB := n4_
            clear n0_ n1_ n2_ n3_ n4_
            (try clear hb)
            (try clear hb2)
            (try clear hk)
            (try clear hi)
            refine hK.out _ _ ⟨(blk_cell BK584.out 0).trans rfl, (blk_cell BK584.out 1).trans rfl, (blk_cell BK584.out 2).trans rfl, (blk_cell BK584.out 3).trans rfl, (blk_cell BK580.out 0).trans rfl, (blk_cell BK580.out 1).trans rfl⟩ (fun hHeld => ?_)
            clear hK K
            refine norm_ (a' := ?_) ?_ ?_
            rotate_left
            ·show Act.put _ (some 106) _ = _
             simp only [Act.put, List.setIfInBounds_toArray, List.set_cons_zero, List.set_cons_succ, i64_w, i32_w]
             rfl
            refine one_ (i := 9) (N := some 108) #[true, true, true, true, true, true, true, true, true, true, false, false, false, false, false, false, false, false, false, false, false, false, false] rfl rfl (one_of HT_.out zK) (by decide) (fun K hK => ?_)
            refine goes_ Try.func55 zK rfl #[.slice A0 l0.length c0, .slice (some ad583) l1.length c1, .int .i64 ((rd_T35 l1 a2).f1), .agg #[.int .i64 t587, .int .i64 t588], .slice (some ⟨go16, 0, none⟩) y582.length co16] (by rfl) rfl rfl zM ?_
            with_reducible refine (ih kj41 (by have := HJ5.out; have := HJ41.out; omega) _ _ l0 _ _ l1 ((rd_T35 l1 a2).f1) t587 t588 (fun k_ => some k_ = (.slice (some ⟨go16, 0, none⟩) y582.length co16 : Value).ownBlock) (.slice (some ⟨go16, 0, none⟩) y582.length co16) y582 false t590 w0 _ ?side1 ?side2 ?side3 ?side4 ?side5 ?side6 A65.out).mono ?_
            (case side1 => repeat (first | (with_reducible first | exact HB.out | apply below_alloc | apply pw_below_drewN | apply below_drew1 | refine below_set ?_ GE580.out | refine below_set ?_ GE584.out) | exact HB.out))
            (case side2 => exact Kd.C_kept_call HR0.out (by repeat (first | (with_reducible first | exact HK.out | apply Kept.alloc | apply Kept.drewN | apply Kept.drew | refine Kept.setCell ?_ (.inr GW580.out) _ | refine Kept.setCell ?_ (.inr GW584.out) _) | exact HK.out)) (fun k_ hs_ => (fun e_ => (HO_4.out.1 k_ e_.symm)) hs_))
            (case side3 => exact HC0.out)
            (case side4 => exact Kd.C_kept_call HR1.out (by repeat (first | (with_reducible first | exact HK.out | apply Kept.alloc | apply Kept.drewN | apply Kept.drew | refine Kept.setCell ?_ (.inr GW580.out) _ | refine Kept.setCell ?_ (.inr GW584.out) _) | exact HK.out)) (fun k_ hs_ => (fun e_ => (HO_4.out.1 k_ e_.symm)) hs_))
            (case side5 => exact HC1.out)
            (case side6 => exact Kd.R_tight rfl HO_4.out)
            rintro e w76 ⟨rfl, hy0, hb, hkp⟩
            refine ⟨_, rfl, ?_⟩
            have n0_ := Aside0.mk (Kd.R_reok rfl hy0 (fun k_ e_ => HO_4.out.1 k_ e_))
            have n1_ := Aside0.mk (blk_kept (zk BK580) hkp (fun hs_ => (fun e_ => (Kd.R_ne HO_4.out BK580.out (by decide)) e_) hs_))
            have n2_ := Aside0.mk (blk_kept (zk BK584) hkp (fun hs_ => (fun e_ => (Kd.R_ne HO_4.out BK584.out (by decide)) e_) hs_))
            have n3_ := Aside0.mk (Kept.then_ (S := (fun k_ => P4_ k_)) (by repeat (first | (with_reducible first | exact HK.out | apply Kept.alloc | apply Kept.drewN | apply Kept.drew | refine Kept.setCell ?_ (.inr GW580.out) _ | refine Kept.setCell ?_ (.inr GW584.out) _) | exact HK.out)) hkp (fun k_ hs_ => (fun e_ => (HO_4.out.1 k_ e_.symm)) hs_))
            have n4_ := Aside0.mk (hb)
            clear HO_4
            clear BK580
            clear BK584
            clear HK
            clear HB
            have HO_4 := n0_
            have BK580 := n1_
            have BK584 := n2_
            have HK := n3_
            have HB := n4_
            clear n0_ n1_ n2_ n3_ n4_
            (try clear hb)
            (try clear hkp)
            (try clear hy0)
            refine hK.out _ _ ⟨(blk_cell BK584.out 0).trans rfl, (blk_cell BK584.out 1).trans rfl, (blk_cell BK584.out 2).trans rfl, (blk_cell BK584.out 3).trans rfl, (blk_cell BK580.out 0).trans rfl, (blk_cell BK580.out 1).trans rfl⟩ (fun hHeld => ?_)
            clear hK K
            refine norm_ (a' := ?_) ?_ ?_
            rotate_left
            ·show Act.put _ (some 108) _ = _
             simp only [Act.put, List.setIfInBounds_toArray, List.set_cons_zero, List.set_cons_succ, i64_w, i32_w]
             rfl
            refine pure_ (i := 10) (N := some 109) (v := ?_) (a' := ?_) #[true, true, true, true, true, true, true, true, true, true, true, false, false, false, false, false, false, false, false, false, false, false, false] rfl rfl (any_of HT_.out zK) (fun _ _ _ h => h) (Or.inl ⟨by rfl, ?_⟩) ?_ ?_
            rotate_left
            ·intro w'
             go_simp
             with_reducible rfl
            rotate_left
            ·simp only [Act.put, List.setIfInBounds_toArray, List.set_cons_zero, List.set_cons_succ, i64_w, i32_w]
             rfl
            refine pure_ (i := 11) (N := some 110) (v := undef) (a' := ?_) #[true, true, true, true, true, true, true, true, true, true, true, true, false, false, false, false, false, false, false, false, false, false, false] rfl rfl (any_of HT_.out zK) (fun _ _ _ h => h) (Or.inr ⟨by rfl, rfl⟩) ?_ ?_
            rotate_left
            ·simp only [Act.put, List.setIfInBounds_toArray, List.set_cons_zero, List.set_cons_succ, i64_w, i32_w]
             rfl
            refine pure_ (i := 12) (N := some 111) (v := undef) (a' := ?_) #[true, true, true, true, true, true, true, true, true, true, true, true, true, false, false, false, false, false, false, false, false, false, false] rfl rfl (any_of HT_.out zK) (fun _ _ _ h => h) (Or.inr ⟨by rfl, rfl⟩) ?_ ?_
            rotate_left
            ·simp only [Act.put, List.setIfInBounds_toArray, List.set_cons_zero, List.set_cons_succ, i64_w, i32_w]
             rfl
            refine pure_ (i := 13) (N := some 112) (v := undef) (a' := ?_) #[true, true, true, true, true, true, true, true, true, true, true, true, true, true, false, false, false, false, false, false, false, false, false] rfl rfl (any_of HT_.out zK) (fun _ _ _ h => h) (Or.inr ⟨by rfl, rfl⟩) ?_ ?_
            rotate_left
            ·simp only [Act.put, List.setIfInBounds_toArray, List.set_cons_zero, List.set_cons_succ, i64_w, i32_w]
             rfl
            refine pure_ (i := 14) (N := some 113) (v := undef) (a' := ?_) #[true, true, true, true, true, true, true, true, true, true, true, true, true, true, true, false, false, false, false, false, false, false, false] rfl rfl (any_of HT_.out zK) (fun _ _ _ h => h) (Or.inr ⟨by rfl, rfl⟩) ?_ ?_
            rotate_left
            ·simp only [Act.put, List.setIfInBounds_toArray, List.set_cons_zero, List.set_cons_succ, i64_w, i32_w]
             rfl
            refine pure_ (i := 15) (N := some 114) (v := undef) (a' := ?_) #[true, true, true, true, true, true, true, true, true, true, true, true, true, true, true, true, false, false, false, false, false, false, false] rfl rfl (any_of HT_.out zK) (fun _ _ _ h => h) (Or.inr ⟨by rfl, rfl⟩) ?_ ?_
            rotate_left
            ·simp only [Act.put, List.setIfInBounds_toArray, List.set_cons_zero, List.set_cons_succ, i64_w, i32_w]
             rfl
            refine pure_ (i := 16) (N := some 115) (v := undef) (a' := ?_) #[true, true, true, true, true, true, true, true, true, true, true, true, true, true, true, true, true, false, false, false, false, false, false] rfl rfl (any_of HT_.out zK) (fun _ _ _ h => h) (Or.inr ⟨by rfl, rfl⟩) ?_ ?_
            rotate_left
            ·simp only [Act.put, List.setIfInBounds_toArray, List.set_cons_zero, List.set_cons_succ, i64_w, i32_w]
             rfl
            refine pure_ (i := 17) (N := some 116) (v := undef) (a' := ?_) #[true, true, true, true, true, true, true, true, true, true, true, true, true, true, true, true, true, true, false, false, false, false, false] rfl rfl (any_of HT_.out zK) (fun _ _ _ h => h) (Or.inr ⟨by rfl, rfl⟩) ?_ ?_
            rotate_left
            ·simp only [Act.put, List.setIfInBounds_toArray, List.set_cons_zero, List.set_cons_succ, i64_w, i32_w]
             rfl
            refine pure_ (i := 18) (N := some 117) (v := undef) (a' := ?_) #[true, true, true, true, true, true, true, true, true, true, true, true, true, true, true, true, true, true, true, false, false, false, false] rfl rfl (any_of HT_.out zK) (fun _ _ _ h => h) (Or.inr ⟨by rfl, rfl⟩) ?_ ?_
            rotate_left
            ·simp only [Act.put, List.setIfInBounds_toArray, List.set_cons_zero, List.set_cons_succ, i64_w, i32_w]
             rfl
            refine pure_ (i := 19) (N := some 118) (v := undef) (a' := ?_) #[true, true, true, true, true, true, true, true, true, true, true, true, true, true, true, true, true, true, true, true, false, false, false] rfl rfl (any_of HT_.out zK) (fun _ _ _ h => h) (Or.inr ⟨by rfl, rfl⟩) ?_ ?_
            rotate_left
            ·simp only [Act.put, List.setIfInBounds_toArray, List.set_cons_zero, List.set_cons_succ, i64_w, i32_w]
             rfl
            refine pure_ (i := 20) (N := some 119) (v := undef) (a' := ?_) #[true, true, true, true, true, true, true, true, true, true, true, true, true, true, true, true, true, true, true, true, true, false, false] rfl rfl (any_of HT_.out zK) (fun _ _ _ h => h) (Or.inr ⟨by rfl, rfl⟩) ?_ ?_
            rotate_left
            ·simp only [Act.put, List.setIfInBounds_toArray, List.set_cons_zero, List.set_cons_succ, i64_w, i32_w]
             rfl
            refine pure_ (i := 21) (N := some 120) (v := ?_) (a' := ?_) #[true, true, true, true, true, true, true, true, true, true, true, true, true, true, true, true, true, true, true, true, true, true, false] rfl rfl (any_of HT_.out zK) (fun _ _ _ h => h) (Or.inl ⟨by rfl, ?_⟩) ?_ ?_
            rotate_left
            ·intro w'
             go_simp
             with_reducible rfl
            rotate_left
            ·simp only [Act.put, List.setIfInBounds_toArray, List.set_cons_zero, List.set_cons_succ, i64_w, i32_w]
             rfl
            refine pure_ (i := 22) (N := some 10) (v := ?_) (a' := ?_) #[true, true, true, true, true, true, true, true, true, true, true, true, true, true, true, true, true, true, true, true, true, true, true] rfl rfl (any_of HT_.out zK) (fun _ _ _ h => h) (Or.inl ⟨by rfl, ?_⟩) ?_ ?_
            rotate_left
            ·intro w'
             go_simp
             with_reducible rfl
            rotate_left
            ·simp only [Act.put, List.setIfInBounds_toArray, List.set_cons_zero, List.set_cons_succ, i64_w, i32_w]
             rfl
            refine done_ (done_of HT_.out zK) ?_
            try go_wp2
            go_ret
            exact ⟨by first | rfl | (simp [errW_none, errW_some] <;> rfl) | (simp [*, errW_none, errW_some] <;> rfl), (by first | exact (zR HO_4) | (simp only [hl4_41]; exact (zR HO_4))), by repeat (first | (with_reducible first | exact HB.out | apply below_alloc | apply pw_below_drewN | apply below_drew1 | refine below_set ?_ GE580.out | refine below_set ?_ GE584.out) | exact HB.out), by repeat (first | (with_reducible first | exact HK.out | apply Kept.alloc | apply Kept.drewN | apply Kept.drew | refine Kept.setCell ?_ (.inr GW580.out) _ | refine Kept.setCell ?_ (.inr GW584.out) _) | exact HK.out)⟩
      ·rw [if_neg c17] at H
       exact absurd H (by simp)
     ·rw [if_neg c15] at H
      exact absurd H (by simp)
    ·rw [if_neg c14] at H
     exact absurd H (by simp)
end Go.Proofs.Ytbagnalcabdlhaa.S
