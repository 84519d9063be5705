-- Written by wip/tools/myprint.py, a program of this session's.
import Derived.Test.YtpojokndmkhpkaaM0
namespace Go.Proofs.Ytpojokndmkhpkaa.M
open Go.RowKit Go.Proofs.YtpojokndmkhpkaaW.PrintWords Go.Proofs.YtpojokndmkhpkaaW.PrintLast Go.Proofs.YtpojokndmkhpkaaW.PrintMore
attribute [local go_sem] max2_int min2_int max_two min_two max_three min_three max_four min_four   -- for this text's walks alone
set_option linter.unusedVariables false
set_option linter.unusedSimpArgs false
/-! ### ancepslaw08_awake: function 7 -/
def ancepslaw08_awake.f (_ : Nat) : Option Bool := some true
theorem ancepslaw08_awake.mono : ∀ k, LeO (ancepslaw08_awake.f k) (ancepslaw08_awake.f (k + 1)) := fun _ => LeO.refl _
theorem ancepslaw08_awake.calls (k : Nat)  (r : Bool) (w : World) (h : ancepslaw08_awake.f k = some r) :
  Calls Try.prog 7 #[] w fun e w' => e = .returned (.bool r) ∧ Below w.heap.size w w' := by
 obtain rfl : true = r := Option.some.inj h
 exact Go.Proofs.YtpojokndmkhpkaaX.awake_ w
/-! ### ancepsref08_deep: function 28 -/
mutual
def ancepsref08_deep.l0 : Nat → Int → Int → Int → Int → Int → List (S24) → Option (Bool)
 | 0, _, _, _, _, _, _ => none
 | k + 1, x1, x5, x102000, x102001, x102002, x102003 => if x5 < (x102003.length : Int) then (if 0 ≤ x5 then ((ancepsref08_deep.f k ((rd_T24 x102003 x5).f0) ((rd_T24 x102003 x5).f1) ((rd_T24 x102003 x5).f2) ((rd_T24 x102003 x5).f3) (wrap64 (x1 - 1))).bind fun t103 => (if t103 = true then (ancepsref08_deep.l0 k x1 (wrap64 (x5 + 1)) x102000 x102001 x102002 x102003) else (some false))) else (none)) else (some true)
def ancepsref08_deep.f : Nat → Int → Int → Int → List (S24) → Int → Option (Bool)
 | 0, _, _, _, _, _ => none
 | k + 1, a0_0, a0_1, a0_2, l0_3, a1 => if a1 = 0 then (some false) else (if (l0_3.length : Int) > 600 then (some false) else (ancepsref08_deep.l0 k a1 0 a0_0 a0_1 a0_2 l0_3))
end
theorem ancepsref08_deep.mono_l : ∀ k, (∀ y0 y1 y2 y3 y4, LeO (ancepsref08_deep.f k y0 y1 y2 y3 y4) (ancepsref08_deep.f (k + 1) y0 y1 y2 y3 y4)) ∧ (∀ y0 y1 y2 y3 y4 y5, LeO (ancepsref08_deep.l0 k y0 y1 y2 y3 y4 y5) (ancepsref08_deep.l0 (k + 1) y0 y1 y2 y3 y4 y5))
 | 0 => ⟨fun _ _ _ _ _ r h => by simp [ancepsref08_deep.f] at h, fun _ _ _ _ _ _ r h => by simp [ancepsref08_deep.l0] at h⟩
 | k + 1 => by
  obtain ⟨ih0, ih1⟩ := ancepsref08_deep.mono_l k
  refine ⟨?_, ?_⟩
  ·intro y0 y1 y2 y3 y4
   unfold ancepsref08_deep.f
   repeat' first
   | (with_reducible exact ih0 _ _ _ _ _)
   | (with_reducible exact ih1 _ _ _ _ _ _)
   | (with_reducible exact LeO.refl _)
   | (with_reducible exact LeO.none _)
   | (with_reducible refine LeO.ite ?_ ?_)
   | (with_reducible refine LeO.bind ?_ (fun _ => ?_))
   | exact ih0 _ _ _ _ _
   | exact ih1 _ _ _ _ _ _
   | exact LeO.none _
   | refine LeO.ite ?_ ?_
   | refine LeO.bind ?_ (fun _ => ?_)
  ·intro y0 y1 y2 y3 y4 y5
   unfold ancepsref08_deep.l0
   repeat' first
   | (with_reducible exact ih0 _ _ _ _ _)
   | (with_reducible exact ih1 _ _ _ _ _ _)
   | (with_reducible exact LeO.refl _)
   | (with_reducible exact LeO.none _)
   | (with_reducible refine LeO.ite ?_ ?_)
   | (with_reducible refine LeO.bind ?_ (fun _ => ?_))
   | exact ih0 _ _ _ _ _
   | exact ih1 _ _ _ _ _ _
   | exact LeO.none _
   | refine LeO.ite ?_ ?_
   | refine LeO.bind ?_ (fun _ => ?_)
theorem ancepsref08_deep.mono : ∀ a0 a1 a2 a3 a4 k, LeO (ancepsref08_deep.f k a0 a1 a2 a3 a4) (ancepsref08_deep.f (k + 1) a0 a1 a2 a3 a4) := by
 intro a0 a1 a2 a3 a4 k
 obtain ⟨ih0, ih1⟩ := ancepsref08_deep.mono_l k
 exact ih0 a0 a1 a2 a3 a4
set_option maxHeartbeats 8000000 in
set_option maxRecDepth 100000 in
theorem ancepsref08_deep.calls (k : Nat) : ∀ (a0_0 : Int) (a0_1 : Int) (a0_2 : Int) (A0_3 : Option Addr) (c0_3 : Nat) (l0_3 : List (S24)) (a1 : Int) (r : Bool) (w : World) (hr0_3 : Kd.C k24 w A0_3 l0_3.length l0_3) (hc0_3 : l0_3.length ≤ c0_3) (h : ancepsref08_deep.f k a0_0 a0_1 a0_2 l0_3 a1 = some r),
  Calls Try.prog 28 #[.agg #[.int .i64 a0_0, .int .i64 a0_1, .int .i64 a0_2, .slice A0_3 l0_3.length c0_3], .int .i64 a1] w fun e w' => e = .returned (.bool r) ∧ Below w.heap.size w w' := by
 induction k using Nat.strongRecOn with
 | _ k ih =>
 intro a0_0 a0_1 a0_2 A0_3 c0_3 l0_3 a1 r w hr0_3 hc0_3 h
 cases k with
 | zero => exact absurd h (by simp [ancepsref08_deep.f])
 | succ k =>
 simp only [ancepsref08_deep.f] at h
 have hu24 := Try.underlying24
 have hu22 := Try.underlying22
 have HR0_3 := Aside0.mk hr0_3
 have HC0_3 := Aside0.mk hc0_3
 clear hr0_3 hc0_3
 have HB := Aside0.mk (Below.refl w.heap.size w)
 have H : (if a1 = 0 then (some false) else (if (l0_3.length : Int) > 600 then (some false) else (ancepsref08_deep.l0 k a1 0 a0_0 a0_1 a0_2 l0_3))) = some r := h
 clear h
 have HC3 := Aside0.mk H
 clear H
 go_enter Try.func28, Try.ntmps28
 go_upto_region 1 with (first | ((with_reducible refine gate_dst (N := 2) rfl ?_); (try (refine gate_guard (by rfl) ?_; dsimp only)); refine box_event ?hg (N := 2) ?hd (cs := #[.int .i64 a0_0, .int .i64 a0_1, .int .i64 a0_2, .slice A0_3 l0_3.length c0_3]) (t := 24) ?hr ?_; (case hd => rfl); (case hg => rfl); (case hr => first | (go_simp; done) | (go_simp; rfl)); intro gb101 hg w4 hbox hb; have n0_ := Aside0.mk (below_step zB hb); have n1_ := Aside0.mk (hbox); have n2_ := Aside0.mk ((by rw [hg]; exact (below_size zB) : w.heap.size ≤ gb101)); have n3_ := Aside0.mk ((by rw [hg]; exact (below_size zB) : w.heap.size ≤ gb101)); clear HB; have HB := n0_; have BK101 := n1_; have GW101 := n2_; have GE101 := n3_; clear n0_ n1_ n2_ n3_; clear hb hbox hg))
 (try simp only [Act.put, List.setIfInBounds_toArray, List.set_cons_zero, List.set_cons_succ])
 have H := HC3.out
 clear HC3
 by_cases c5 : a1 = 0
 ·rw [if_pos c5] at H
  have c5b0 : (a1 == 0) = true := beq_iff_eq.mpr c5
  have c5b1 : (a1 != 0) = false := bne_eq_false_iff_eq.mpr c5
  clear c5
  (first | rw [c5b0] | (simp only [i64_w, i32_w]; rw [c5b0]) | skip)
  (try rw [c5b1])
  obtain rfl := Option.some.inj H
  go_wp2
  go_ret
  exact ⟨by first | rfl | (simp [errW_none, errW_some] <;> rfl) | (simp [*, errW_none, errW_some] <;> rfl), by repeat (first | (with_reducible first | exact HB.out | apply below_alloc | apply pw_below_drewN | apply below_drew1 | refine below_set ?_ GE101.out) | exact HB.out)⟩
 ·rw [if_neg c5] at H
  have c5b0 : (a1 == 0) = false := beq_eq_false_iff_ne.mpr c5
  have c5b1 : (a1 != 0) = true := bne_iff_ne.mpr c5
  (first | rw [c5b0] | (simp only [i64_w, i32_w]; rw [c5b0]) | skip)
  (try rw [c5b1])
  by_cases c6 : (l0_3.length : Int) > 600
  ·rw [if_pos c6] at H
   have c6b0 : decide (600 < (l0_3.length : Int)) = true := decide_eq_true c6
   have c6b1 : decide (600 < l0_3.length) = true := decide_eq_true (by omega)
   clear c6
   obtain rfl := Option.some.inj H
   have hcz7_0 : w4.cell? ⟨gb101, 0, none⟩ = some (.int .i64 a0_0) := (blk_cell BK101.out 0).trans rfl
   have hcz7_1 : w4.cell? ⟨gb101, 1, none⟩ = some (.int .i64 a0_1) := (blk_cell BK101.out 1).trans rfl
   have hcz7_2 : w4.cell? ⟨gb101, 2, none⟩ = some (.int .i64 a0_2) := (blk_cell BK101.out 2).trans rfl
   have hcz7_3 : w4.cell? ⟨gb101, 3, none⟩ = some (.slice A0_3 l0_3.length c0_3) := (blk_cell BK101.out 3).trans rfl
   have hfz7_0 := blk_frozen BK101.out 0
   have hfz7_1 := blk_frozen BK101.out 1
   have hfz7_2 := blk_frozen BK101.out 2
   have hfz7_3 := blk_frozen BK101.out 3
   go_wp2
   go_ret
   exact ⟨by first | rfl | (simp [errW_none, errW_some] <;> rfl) | (simp [*, errW_none, errW_some] <;> rfl), by repeat (first | (with_reducible first | exact HB.out | apply below_alloc | apply pw_below_drewN | apply below_drew1 | refine below_set ?_ GE101.out) | exact HB.out)⟩
  ·rw [if_neg c6] at H
   have c6b0 : decide (600 < (l0_3.length : Int)) = false := decide_eq_false c6
   have c6b1 : decide (600 < l0_3.length) = false := decide_eq_false (by omega)
   clear c6
   have H' := Aside0.mk H
   clear H
   have hcz8_0 : w4.cell? ⟨gb101, 0, none⟩ = some (.int .i64 a0_0) := (blk_cell BK101.out 0).trans rfl
   have hcz8_1 : w4.cell? ⟨gb101, 1, none⟩ = some (.int .i64 a0_1) := (blk_cell BK101.out 1).trans rfl
   have hcz8_2 : w4.cell? ⟨gb101, 2, none⟩ = some (.int .i64 a0_2) := (blk_cell BK101.out 2).trans rfl
   have hcz8_3 : w4.cell? ⟨gb101, 3, none⟩ = some (.slice A0_3 l0_3.length c0_3) := (blk_cell BK101.out 3).trans rfl
   have hfz8_0 := blk_frozen BK101.out 0
   have hfz8_1 := blk_frozen BK101.out 1
   have hfz8_2 := blk_frozen BK101.out 2
   have hfz8_3 := blk_frozen BK101.out 3
   go_wp2
   go_loopg [5] k (fun kq v5 w' => ∃ (x5_1 : Int), v5 = .int .i64 x5_1 ∧ Aside0 (ancepsref08_deep.l0 kq a1 x5_1 a0_0 a0_1 a0_2 l0_3 = some r) ∧ Aside0 (kq ≤ k) ∧ Aside0 (w'.heap[gb101]? = some (.cells #[.int .i64 a0_0, .int .i64 a0_1, .int .i64 a0_2, (.slice A0_3 l0_3.length c0_3)] 24 (0, 0))) ∧ Aside0 (Below w.heap.size w w'))
   case atStart => exact ⟨(0), zT, H', ⟨Nat.le_refl _⟩, ⟨by (with_reducible repeat (first | refine blk_drewN ?_ _ | refine blk_drew ?_ | refine blk_alloc ?_ _)); exact BK101.out⟩, ⟨by repeat (first | (with_reducible first | exact HB.out | apply below_alloc | apply pw_below_drewN | apply below_drew1 | refine below_set ?_ GE101.out) | exact HB.out)⟩⟩
   case round =>
    clear H'
    try clear c5
    try clear c5b0
    try clear c5b1
    try clear c6
    try clear c6b0
    try clear c6b1
    try clear hcz8_0
    try clear hcz8_1
    try clear hcz8_2
    try clear hcz8_3
    try clear hfz8_0
    try clear hfz8_1
    try clear hfz8_2
    try clear hfz8_3
    obtain ⟨x5_1, rfl, HA, HK1, BK101, HB⟩ := hrel
    cases gk with
    | zero => exact absurd HA.out (by simp [ancepsref08_deep.l0])
    | succ k1 =>
     have H := HA.out
     clear HA
     simp only [ancepsref08_deep.l0] at H
     by_cases c9 : x5_1 < (l0_3.length : Int)
     ·rw [if_pos c9] at H
      have c9b0 : decide (x5_1 < (l0_3.length : Int)) = true := decide_eq_true c9
      clear c9
      by_cases c10 : 0 ≤ x5_1
      ·rw [if_pos c10] at H
       have c10b0 : decide (0 ≤ x5_1) = true := decide_eq_true c10
       clear c10
       replace H := Option.bind_eq_some_iff.mp H
       obtain ⟨t103, A110, H⟩ := H
       replace H : (if t103 = true then (ancepsref08_deep.l0 k1 a1 (wrap64 (x5_1 + 1)) a0_0 a0_1 a0_2 l0_3) else (some false)) = some r := H
       have A11 := Aside0.mk A110
       clear A110
       have HC12 := Aside0.mk H
       clear H
       have hcz13_0 : wr.cell? ⟨gb101, 0, none⟩ = some (.int .i64 a0_0) := (blk_cell BK101.out 0).trans rfl
       have hcz13_1 : wr.cell? ⟨gb101, 1, none⟩ = some (.int .i64 a0_1) := (blk_cell BK101.out 1).trans rfl
       have hcz13_2 : wr.cell? ⟨gb101, 2, none⟩ = some (.int .i64 a0_2) := (blk_cell BK101.out 2).trans rfl
       have hcz13_3 : wr.cell? ⟨gb101, 3, none⟩ = some (.slice A0_3 l0_3.length c0_3) := (blk_cell BK101.out 3).trans rfl
       have hfz13_0 := blk_frozen BK101.out 0
       have hfz13_1 := blk_frozen BK101.out 1
       have hfz13_2 := blk_frozen BK101.out 2
       have hfz13_3 := blk_frozen BK101.out 3
       have p102 : 0 ≤ (x5_1 : Int) := of_decide_eq_true zh
       have q102 : x5_1 < (l0_3.length : Int) := of_decide_eq_true zh
       obtain ⟨ad102, A102_3, c102_3, e102, hx102_0, hx102_1, hx102_2, hx102_3, hl102_3, hi102_3⟩ := at_T24 HR0_3.out x5_1 p102 q102
       cases e102
       replace hx102_0 := (HB.out.cell (World.block_lt_of_cell? w _ hx102_0)).trans hx102_0
       replace hx102_1 := (HB.out.cell (World.block_lt_of_cell? w _ hx102_1)).trans hx102_1
       replace hx102_2 := (HB.out.cell (World.block_lt_of_cell? w _ hx102_2)).trans hx102_2
       replace hx102_3 := (HB.out.cell (World.block_lt_of_cell? w _ hx102_3)).trans hx102_3
       have HR102_3 := Aside0.mk hi102_3
       have HC102_3 := Aside0.mk hl102_3
       clear hi102_3 hl102_3
       replace p102 := eq_true p102
       replace q102 := eq_true q102
       go_upto_if 29 with (first | ((with_reducible refine gate_callee (f := 28) rfl ?_); refine goesL_ (some 28) rfl rfl Try.func28 zK rfl #[.agg #[.int .i64 ((rd_T24 l0_3 x5_1).f0), .int .i64 ((rd_T24 l0_3 x5_1).f1), .int .i64 ((rd_T24 l0_3 x5_1).f2), .slice A102_3 ((rd_T24 l0_3 x5_1).f3).length c102_3], .int .i64 (wrap64 (a1 - 1))] rfl zM ?_; (with_reducible refine (ih k1 (by have := HK1.out; omega) ((rd_T24 l0_3 x5_1).f0) ((rd_T24 l0_3 x5_1).f1) ((rd_T24 l0_3 x5_1).f2) _ _ ((rd_T24 l0_3 x5_1).f3) (wrap64 (a1 - 1)) t103 _ ?side1 ?side2 A11.out).mono ?_); (case side1 => repeat (first | exact (Kd.C_below HR102_3.out HB.out) | (with_reducible refine Kd.C_alloc ?_ _) | (with_reducible refine Kd.C_drewN ?_ _) | (with_reducible refine Kd.C_drew ?_))); (case side2 => exact HC102_3.out); rintro e w14 ⟨rfl, hb⟩; refine ⟨_, rfl, ?_⟩; have n0_ := Aside0.mk (blk_below (g := gb101) (o := .cells #[.int .i64 a0_0, .int .i64 a0_1, .int .i64 a0_2, .slice (some ad102) l0_3.length c0_3] 24 (0, 0)) (zk BK101) hb); have n1_ := Aside0.mk (below_step zB hb); clear BK101; clear HB; have BK101 := n0_; have HB := n1_; clear n0_ n1_; (try clear hb); (try clear hb2); (try clear hk); (try clear hi)))
       (try simp only [Act.put, List.setIfInBounds_toArray, List.set_cons_zero, List.set_cons_succ])
       have H := HC12.out
       clear HC12
       by_cases c15 : t103 = true
       ·subst c15
        have H1 : (ancepsref08_deep.l0 k1 a1 (wrap64 (x5_1 + 1)) a0_0 a0_1 a0_2 l0_3) = some r := by rw [if_pos rfl] at H; exact H
        clear H
        have H := H1
        clear H1
        have H' := Aside0.mk H
        clear H
        go_wp2
        go_roundg k1
        case measure => have := HK1.out; omega
        case rel => exact ⟨(wrap64 (x5_1 + 1)), zT, H', ⟨by have := HK1.out; omega⟩, ⟨by (with_reducible repeat (first | refine blk_drewN ?_ _ | refine blk_drew ?_ | refine blk_alloc ?_ _)); exact BK101.out⟩, ⟨by repeat (first | (with_reducible first | exact HB.out | apply below_alloc | apply pw_below_drewN | apply below_drew1 | refine below_set ?_ GE101.out) | exact HB.out)⟩⟩
       ·replace c15 := Bool.eq_false_iff.mpr c15
        subst c15
        have H1 : (some false) = some r := by rw [if_neg (show ¬ (false = true) by decide)] at H; exact H
        clear H
        have H := H1
        clear H1
        obtain rfl := Option.some.inj H
        go_wp2
        go_ret
        exact ⟨by first | rfl | (simp [errW_none, errW_some] <;> rfl) | (simp [*, errW_none, errW_some] <;> rfl), by repeat (first | (with_reducible first | exact HB.out | apply below_alloc | apply pw_below_drewN | apply below_drew1 | refine below_set ?_ GE101.out) | exact HB.out)⟩
      ·rw [if_neg c10] at H
       exact absurd H (by simp)
     ·rw [if_neg c9] at H
      have c9b0 : decide (x5_1 < (l0_3.length : Int)) = false := decide_eq_false c9
      clear c9
      obtain rfl := Option.some.inj H
      have hcz16_0 : wr.cell? ⟨gb101, 0, none⟩ = some (.int .i64 a0_0) := (blk_cell BK101.out 0).trans rfl
      have hcz16_1 : wr.cell? ⟨gb101, 1, none⟩ = some (.int .i64 a0_1) := (blk_cell BK101.out 1).trans rfl
      have hcz16_2 : wr.cell? ⟨gb101, 2, none⟩ = some (.int .i64 a0_2) := (blk_cell BK101.out 2).trans rfl
      have hcz16_3 : wr.cell? ⟨gb101, 3, none⟩ = some (.slice A0_3 l0_3.length c0_3) := (blk_cell BK101.out 3).trans rfl
      have hfz16_0 := blk_frozen BK101.out 0
      have hfz16_1 := blk_frozen BK101.out 1
      have hfz16_2 := blk_frozen BK101.out 2
      have hfz16_3 := blk_frozen BK101.out 3
      go_wp2
      go_ret
      exact ⟨by first | rfl | (simp [errW_none, errW_some] <;> rfl) | (simp [*, errW_none, errW_some] <;> rfl), by repeat (first | (with_reducible first | exact HB.out | apply below_alloc | apply pw_below_drewN | apply below_drew1 | refine below_set ?_ GE101.out) | exact HB.out)⟩
/-! ### ancepsref08_Size: function 29 -/
mutual
def ancepsref08_Size.l0 : Nat → Int → Int → Int → Int → Int → List (S24) → Option (Int)
 | 0, _, _, _, _, _, _ => none
 | k + 1, x3, x4, x105000, x105001, x105002, x105003 => if x4 < (x105003.length : Int) then (if x3 ≤ 10000 then (if 0 ≤ x4 then ((ancepsref08_Size.f k ((rd_T24 x105003 x4).f0) ((rd_T24 x105003 x4).f1) ((rd_T24 x105003 x4).f2) ((rd_T24 x105003 x4).f3)).bind fun t106 => (ancepsref08_Size.l0 k (wrap64 (x3 + t106)) (wrap64 (x4 + 1)) x105000 x105001 x105002 x105003)) else (none)) else (some x3)) else (some x3)
def ancepsref08_Size.f : Nat → Int → Int → Int → List (S24) → Option (Int)
 | 0, _, _, _, _ => none
 | k + 1, a0_0, a0_1, a0_2, l0_3 => ancepsref08_Size.l0 k 1 0 a0_0 a0_1 a0_2 l0_3
end
theorem ancepsref08_Size.mono_l : ∀ k, (∀ y0 y1 y2 y3, LeO (ancepsref08_Size.f k y0 y1 y2 y3) (ancepsref08_Size.f (k + 1) y0 y1 y2 y3)) ∧ (∀ y0 y1 y2 y3 y4 y5, LeO (ancepsref08_Size.l0 k y0 y1 y2 y3 y4 y5) (ancepsref08_Size.l0 (k + 1) y0 y1 y2 y3 y4 y5))
 | 0 => ⟨fun _ _ _ _ r h => by simp [ancepsref08_Size.f] at h, fun _ _ _ _ _ _ r h => by simp [ancepsref08_Size.l0] at h⟩
 | k + 1 => by
  obtain ⟨ih0, ih1⟩ := ancepsref08_Size.mono_l k
  refine ⟨?_, ?_⟩
  ·intro y0 y1 y2 y3
   unfold ancepsref08_Size.f
   repeat' first
   | (with_reducible exact ih0 _ _ _ _)
   | (with_reducible exact ih1 _ _ _ _ _ _)
   | (with_reducible exact LeO.refl _)
   | (with_reducible exact LeO.none _)
   | (with_reducible refine LeO.ite ?_ ?_)
   | (with_reducible refine LeO.bind ?_ (fun _ => ?_))
   | exact ih0 _ _ _ _
   | exact ih1 _ _ _ _ _ _
   | exact LeO.none _
   | refine LeO.ite ?_ ?_
   | refine LeO.bind ?_ (fun _ => ?_)
  ·intro y0 y1 y2 y3 y4 y5
   unfold ancepsref08_Size.l0
   repeat' first
   | (with_reducible exact ih0 _ _ _ _)
   | (with_reducible exact ih1 _ _ _ _ _ _)
   | (with_reducible exact LeO.refl _)
   | (with_reducible exact LeO.none _)
   | (with_reducible refine LeO.ite ?_ ?_)
   | (with_reducible refine LeO.bind ?_ (fun _ => ?_))
   | exact ih0 _ _ _ _
   | exact ih1 _ _ _ _ _ _
   | exact LeO.none _
   | refine LeO.ite ?_ ?_
   | refine LeO.bind ?_ (fun _ => ?_)
theorem ancepsref08_Size.mono : ∀ a0 a1 a2 a3 k, LeO (ancepsref08_Size.f k a0 a1 a2 a3) (ancepsref08_Size.f (k + 1) a0 a1 a2 a3) := by
 intro a0 a1 a2 a3 k
 obtain ⟨ih0, ih1⟩ := ancepsref08_Size.mono_l k
 exact ih0 a0 a1 a2 a3
set_option maxHeartbeats 8000000 in
set_option maxRecDepth 100000 in
theorem ancepsref08_Size.calls (k : Nat) : ∀ (a0_0 : Int) (a0_1 : Int) (a0_2 : Int) (A0_3 : Option Addr) (c0_3 : Nat) (l0_3 : List (S24)) (r : Int) (w : World) (hr0_3 : Kd.C k24 w A0_3 l0_3.length l0_3) (hc0_3 : l0_3.length ≤ c0_3) (h : ancepsref08_Size.f k a0_0 a0_1 a0_2 l0_3 = some r),
  Calls Try.prog 29 #[.agg #[.int .i64 a0_0, .int .i64 a0_1, .int .i64 a0_2, .slice A0_3 l0_3.length c0_3]] w fun e w' => e = .returned (.int .i64 r) ∧ Below w.heap.size w w' := by
 induction k using Nat.strongRecOn with
 | _ k ih =>
 intro a0_0 a0_1 a0_2 A0_3 c0_3 l0_3 r w hr0_3 hc0_3 h
 cases k with
 | zero => exact absurd h (by simp [ancepsref08_Size.f])
 | succ k =>
 simp only [ancepsref08_Size.f] at h
 have hu24 := Try.underlying24
 have hu22 := Try.underlying22
 have HR0_3 := Aside0.mk hr0_3
 have HC0_3 := Aside0.mk hc0_3
 clear hr0_3 hc0_3
 have HB := Aside0.mk (Below.refl w.heap.size w)
 have H : (ancepsref08_Size.l0 k 1 0 a0_0 a0_1 a0_2 l0_3) = some r := h
 clear h
 have H' := Aside0.mk H
 clear H
 go_enter Try.func29, Try.ntmps29
 go_wp2_with (first | ((with_reducible refine gate_dst (N := 1) rfl ?_); refine box_event ?hg (N := 1) ?hd (cs := #[.int .i64 a0_0, .int .i64 a0_1, .int .i64 a0_2, .slice A0_3 l0_3.length c0_3]) (t := 24) ?hr ?_; (case hd => rfl); (case hg => rfl); (case hr => first | (go_simp; done) | (go_simp; rfl)); intro gb104 hg w2 hbox hb; have n0_ := Aside0.mk (below_step zB hb); have n1_ := Aside0.mk (hbox); have n2_ := Aside0.mk ((by rw [hg]; exact (below_size zB) : w.heap.size ≤ gb104)); have n3_ := Aside0.mk ((by rw [hg]; exact (below_size zB) : w.heap.size ≤ gb104)); clear HB; have HB := n0_; have BK104 := n1_; have GW104 := n2_; have GE104 := n3_; clear n0_ n1_ n2_ n3_; clear hb hbox hg))
 go_loopg [3, 4] k (fun kq v3 v4 w' => ∃ (x3_1 : Int) (x4_1 : Int), v3 = .int .i64 x3_1 ∧ v4 = .int .i64 x4_1 ∧ Aside0 (ancepsref08_Size.l0 kq x3_1 x4_1 a0_0 a0_1 a0_2 l0_3 = some r) ∧ Aside0 (kq ≤ k) ∧ Aside0 (w'.heap[gb104]? = some (.cells #[.int .i64 a0_0, .int .i64 a0_1, .int .i64 a0_2, (.slice A0_3 l0_3.length c0_3)] 24 (0, 0))) ∧ Aside0 (Below w.heap.size w w'))
 case atStart => exact ⟨(1), (0), zT, zT, H', ⟨Nat.le_refl _⟩, ⟨by (with_reducible repeat (first | refine blk_drewN ?_ _ | refine blk_drew ?_ | refine blk_alloc ?_ _)); exact BK104.out⟩, ⟨by repeat (first | (with_reducible first | exact HB.out | apply below_alloc | apply pw_below_drewN | apply below_drew1 | refine below_set ?_ GE104.out) | exact HB.out)⟩⟩
 case round =>
  clear H'
  obtain ⟨x3_1, x4_1, rfl, rfl, HA, HK1, BK104, HB⟩ := hrel
  cases gk with
  | zero => exact absurd HA.out (by simp [ancepsref08_Size.l0])
  | succ k1 =>
   have H := HA.out
   clear HA
   simp only [ancepsref08_Size.l0] at H
   by_cases c3 : x4_1 < (l0_3.length : Int)
   ·rw [if_pos c3] at H
    have c3b0 : decide (x4_1 < (l0_3.length : Int)) = true := decide_eq_true c3
    clear c3
    by_cases c4 : x3_1 ≤ 10000
    ·rw [if_pos c4] at H
     have c4b0 : decide (x3_1 ≤ 10000) = true := decide_eq_true c4
     clear c4
     by_cases c5 : 0 ≤ x4_1
     ·rw [if_pos c5] at H
      have c5b0 : decide (0 ≤ x4_1) = true := decide_eq_true c5
      clear c5
      replace H := Option.bind_eq_some_iff.mp H
      obtain ⟨t106, A60, H⟩ := H
      replace H : (ancepsref08_Size.l0 k1 (wrap64 (x3_1 + t106)) (wrap64 (x4_1 + 1)) a0_0 a0_1 a0_2 l0_3) = some r := H
      have A6 := Aside0.mk A60
      clear A60
      have H' := Aside0.mk H
      clear H
      have hcz7_0 : wr.cell? ⟨gb104, 0, none⟩ = some (.int .i64 a0_0) := (blk_cell BK104.out 0).trans rfl
      have hcz7_1 : wr.cell? ⟨gb104, 1, none⟩ = some (.int .i64 a0_1) := (blk_cell BK104.out 1).trans rfl
      have hcz7_2 : wr.cell? ⟨gb104, 2, none⟩ = some (.int .i64 a0_2) := (blk_cell BK104.out 2).trans rfl
      have hcz7_3 : wr.cell? ⟨gb104, 3, none⟩ = some (.slice A0_3 l0_3.length c0_3) := (blk_cell BK104.out 3).trans rfl
      have hfz7_0 := blk_frozen BK104.out 0
      have hfz7_1 := blk_frozen BK104.out 1
      have hfz7_2 := blk_frozen BK104.out 2
      have hfz7_3 := blk_frozen BK104.out 3
      have p105 : 0 ≤ (x4_1 : Int) := of_decide_eq_true zh
      have q105 : x4_1 < (l0_3.length : Int) := of_decide_eq_true zh
      obtain ⟨ad105, A105_3, c105_3, e105, hx105_0, hx105_1, hx105_2, hx105_3, hl105_3, hi105_3⟩ := at_T24 HR0_3.out x4_1 p105 q105
      cases e105
      replace hx105_0 := (HB.out.cell (World.block_lt_of_cell? w _ hx105_0)).trans hx105_0
      replace hx105_1 := (HB.out.cell (World.block_lt_of_cell? w _ hx105_1)).trans hx105_1
      replace hx105_2 := (HB.out.cell (World.block_lt_of_cell? w _ hx105_2)).trans hx105_2
      replace hx105_3 := (HB.out.cell (World.block_lt_of_cell? w _ hx105_3)).trans hx105_3
      have HR105_3 := Aside0.mk hi105_3
      have HC105_3 := Aside0.mk hl105_3
      clear hi105_3 hl105_3
      replace p105 := eq_true p105
      replace q105 := eq_true q105
      go_wp2_with (first | ((with_reducible refine gate_callee (f := 29) rfl ?_); refine goesL_ (some 22) rfl rfl Try.func29 zK rfl #[.agg #[.int .i64 ((rd_T24 l0_3 x4_1).f0), .int .i64 ((rd_T24 l0_3 x4_1).f1), .int .i64 ((rd_T24 l0_3 x4_1).f2), .slice A105_3 ((rd_T24 l0_3 x4_1).f3).length c105_3]] rfl zM ?_; (with_reducible refine (ih k1 (by have := HK1.out; omega) ((rd_T24 l0_3 x4_1).f0) ((rd_T24 l0_3 x4_1).f1) ((rd_T24 l0_3 x4_1).f2) _ _ ((rd_T24 l0_3 x4_1).f3) t106 _ ?side1 ?side2 A6.out).mono ?_); (case side1 => repeat (first | exact (Kd.C_below HR105_3.out HB.out) | (with_reducible refine Kd.C_alloc ?_ _) | (with_reducible refine Kd.C_drewN ?_ _) | (with_reducible refine Kd.C_drew ?_))); (case side2 => exact HC105_3.out); rintro e w8 ⟨rfl, hb⟩; refine ⟨_, rfl, ?_⟩; have n0_ := Aside0.mk (blk_below (g := gb104) (o := .cells #[.int .i64 a0_0, .int .i64 a0_1, .int .i64 a0_2, .slice (some ad105) l0_3.length c0_3] 24 (0, 0)) (zk BK104) hb); have n1_ := Aside0.mk (below_step zB hb); clear BK104; clear HB; have BK104 := n0_; have HB := n1_; clear n0_ n1_; (try clear hb); (try clear hb2); (try clear hk); (try clear hi)))
      go_roundg k1
      case measure => have := HK1.out; omega
      case rel => exact ⟨(wrap64 (x3_1 + t106)), (wrap64 (x4_1 + 1)), zT, zT, H', ⟨by have := HK1.out; omega⟩, ⟨by (with_reducible repeat (first | refine blk_drewN ?_ _ | refine blk_drew ?_ | refine blk_alloc ?_ _)); exact BK104.out⟩, ⟨by repeat (first | (with_reducible first | exact HB.out | apply below_alloc | apply pw_below_drewN | apply below_drew1 | refine below_set ?_ GE104.out) | exact HB.out)⟩⟩
     ·rw [if_neg c5] at H
      exact absurd H (by simp)
    ·rw [if_neg c4] at H
     have c4b0 : decide (x3_1 ≤ 10000) = false := decide_eq_false c4
     clear c4
     obtain rfl := Option.some.inj H
     have hcz9_0 : wr.cell? ⟨gb104, 0, none⟩ = some (.int .i64 a0_0) := (blk_cell BK104.out 0).trans rfl
     have hcz9_1 : wr.cell? ⟨gb104, 1, none⟩ = some (.int .i64 a0_1) := (blk_cell BK104.out 1).trans rfl
     have hcz9_2 : wr.cell? ⟨gb104, 2, none⟩ = some (.int .i64 a0_2) := (blk_cell BK104.out 2).trans rfl
     have hcz9_3 : wr.cell? ⟨gb104, 3, none⟩ = some (.slice A0_3 l0_3.length c0_3) := (blk_cell BK104.out 3).trans rfl
     have hfz9_0 := blk_frozen BK104.out 0
     have hfz9_1 := blk_frozen BK104.out 1
     have hfz9_2 := blk_frozen BK104.out 2
     have hfz9_3 := blk_frozen BK104.out 3
     go_wp2
     go_ret
     exact ⟨by first | rfl | (simp [errW_none, errW_some] <;> rfl) | (simp [*, errW_none, errW_some] <;> rfl), by repeat (first | (with_reducible first | exact HB.out | apply below_alloc | apply pw_below_drewN | apply below_drew1 | refine below_set ?_ GE104.out) | exact HB.out)⟩
   ·rw [if_neg c3] at H
    have c3b0 : decide (x4_1 < (l0_3.length : Int)) = false := decide_eq_false c3
    clear c3
    obtain rfl := Option.some.inj H
    have hcz10_0 : wr.cell? ⟨gb104, 0, none⟩ = some (.int .i64 a0_0) := (blk_cell BK104.out 0).trans rfl
    have hcz10_1 : wr.cell? ⟨gb104, 1, none⟩ = some (.int .i64 a0_1) := (blk_cell BK104.out 1).trans rfl
    have hcz10_2 : wr.cell? ⟨gb104, 2, none⟩ = some (.int .i64 a0_2) := (blk_cell BK104.out 2).trans rfl
    have hcz10_3 : wr.cell? ⟨gb104, 3, none⟩ = some (.slice A0_3 l0_3.length c0_3) := (blk_cell BK104.out 3).trans rfl
    have hfz10_0 := blk_frozen BK104.out 0
    have hfz10_1 := blk_frozen BK104.out 1
    have hfz10_2 := blk_frozen BK104.out 2
    have hfz10_3 := blk_frozen BK104.out 3
    go_wp2
    go_ret
    exact ⟨by first | rfl | (simp [errW_none, errW_some] <;> rfl) | (simp [*, errW_none, errW_some] <;> rfl), by repeat (first | (with_reducible first | exact HB.out | apply below_alloc | apply pw_below_drewN | apply below_drew1 | refine below_set ?_ GE104.out) | exact HB.out)⟩
/-! ### ancepsref08_Few: function 8 -/
def ancepsref08_Few.f (k : Nat) (a0_0 : Int) (a0_1 : Int) (a0_2 : Int) (l0_3 : List (S24)) (a1 : Int) : Option (Bool) := (ancepsref08_deep.f k a0_0 a0_1 a0_2 l0_3 60).bind fun t108 => (if t108 = true then ((ancepsref08_Size.f k a0_0 a0_1 a0_2 l0_3).bind fun t109 => (some (decide (t109 ≤ a1)))) else (some false))
theorem ancepsref08_Few.mono : ∀ a0 a1 a2 a3 a4 k, LeO (ancepsref08_Few.f k a0 a1 a2 a3 a4) (ancepsref08_Few.f (k + 1) a0 a1 a2 a3 a4) := by
 intro a0 a1 a2 a3 a4 k
 unfold ancepsref08_Few.f
 repeat' first
   | (with_reducible exact ancepsref08_Size.mono _ _ _ _ _)
   | (with_reducible exact ancepsref08_deep.mono _ _ _ _ _ _)
   | (with_reducible exact LeO.refl _)
   | (with_reducible exact LeO.none _)
   | (with_reducible refine LeO.ite ?_ ?_)
   | (with_reducible refine LeO.bind ?_ (fun _ => ?_))
   | exact ancepsref08_Size.mono _ _ _ _ _
   | exact ancepsref08_deep.mono _ _ _ _ _ _
   | exact LeO.none _
   | refine LeO.ite ?_ ?_
   | refine LeO.bind ?_ (fun _ => ?_)
set_option maxHeartbeats 8000000 in
set_option maxRecDepth 100000 in
theorem ancepsref08_Few.calls (k : Nat) (a0_0 : Int) (a0_1 : Int) (a0_2 : Int) (A0_3 : Option Addr) (c0_3 : Nat) (l0_3 : List (S24)) (a1 : Int) (r : Bool) (w : World) (hr0_3 : Kd.C k24 w A0_3 l0_3.length l0_3) (hc0_3 : l0_3.length ≤ c0_3) (h : ancepsref08_Few.f k a0_0 a0_1 a0_2 l0_3 a1 = some r) :
  Calls Try.prog 8 #[.agg #[.int .i64 a0_0, .int .i64 a0_1, .int .i64 a0_2, .slice A0_3 l0_3.length c0_3], .int .i64 a1] w fun e w' => e = .returned (.bool r) ∧ Below w.heap.size w w' := by
 have hu24 := Try.underlying24
 have HR0_3 := Aside0.mk hr0_3
 have HC0_3 := Aside0.mk hc0_3
 clear hr0_3 hc0_3
 have HB := Aside0.mk (Below.refl w.heap.size w)
 have H : ((ancepsref08_deep.f k a0_0 a0_1 a0_2 l0_3 60).bind fun t108 => (if t108 = true then ((ancepsref08_Size.f k a0_0 a0_1 a0_2 l0_3).bind fun t109 => (some (decide (t109 ≤ a1)))) else (some false))) = some r := h
 clear h
 have HC3 := Aside0.mk H
 clear H
 go_enter Try.func8, Try.ntmps8
 go_upto_region 1 with (first | ((with_reducible refine gate_dst (N := 2) rfl ?_); refine box_event ?hg (N := 2) ?hd (cs := #[.int .i64 a0_0, .int .i64 a0_1, .int .i64 a0_2, .slice A0_3 l0_3.length c0_3]) (t := 24) ?hr ?_; (case hd => rfl); (case hg => rfl); (case hr => first | (go_simp; done) | (go_simp; rfl)); intro gb107 hg w4 hbox hb; have n0_ := Aside0.mk (below_step zB hb); have n1_ := Aside0.mk (hbox); have n2_ := Aside0.mk ((by rw [hg]; exact (below_size zB) : w.heap.size ≤ gb107)); have n3_ := Aside0.mk ((by rw [hg]; exact (below_size zB) : w.heap.size ≤ gb107)); clear HB; have HB := n0_; have BK107 := n1_; have GW107 := n2_; have GE107 := n3_; clear n0_ n1_ n2_ n3_; clear hb hbox hg))
 (try simp only [Act.put, List.setIfInBounds_toArray, List.set_cons_zero, List.set_cons_succ])
 have H := HC3.out
 clear HC3
 replace H := Option.bind_eq_some_iff.mp H
 obtain ⟨t108, A50, H⟩ := H
 replace H : (if t108 = true then ((ancepsref08_Size.f k a0_0 a0_1 a0_2 l0_3).bind fun t109 => (some (decide (t109 ≤ a1)))) else (some false)) = some r := H
 have A5 := Aside0.mk A50
 clear A50
 by_cases c6 : t108 = true
 ·subst c6
  have H1 : ((ancepsref08_Size.f k a0_0 a0_1 a0_2 l0_3).bind fun t109 => (some (decide (t109 ≤ a1)))) = some r := by rw [if_pos rfl] at H; exact H
  clear H
  have H := H1
  clear H1
  replace H := Option.bind_eq_some_iff.mp H
  obtain ⟨t109, A70, H⟩ := H
  replace H : (some (decide (t109 ≤ a1))) = some r := H
  have A7 := Aside0.mk A70
  clear A70
  obtain rfl := Option.some.inj H
  have hcz8_0 : w4.cell? ⟨gb107, 0, none⟩ = some (.int .i64 a0_0) := (blk_cell BK107.out 0).trans rfl
  have hcz8_1 : w4.cell? ⟨gb107, 1, none⟩ = some (.int .i64 a0_1) := (blk_cell BK107.out 1).trans rfl
  have hcz8_2 : w4.cell? ⟨gb107, 2, none⟩ = some (.int .i64 a0_2) := (blk_cell BK107.out 2).trans rfl
  have hcz8_3 : w4.cell? ⟨gb107, 3, none⟩ = some (.slice A0_3 l0_3.length c0_3) := (blk_cell BK107.out 3).trans rfl
  have hfz8_0 := blk_frozen BK107.out 0
  have hfz8_1 := blk_frozen BK107.out 1
  have hfz8_2 := blk_frozen BK107.out 2
  have hfz8_3 := blk_frozen BK107.out 3
  go_wp2_with (first | ((with_reducible refine gate_callee (f := 28) rfl ?_); refine goesL_ (some 6) rfl rfl Try.func28 zK rfl #[.agg #[.int .i64 a0_0, .int .i64 a0_1, .int .i64 a0_2, .slice A0_3 l0_3.length c0_3], .int .i64 60] rfl zM ?_; (with_reducible refine (ancepsref08_deep.calls k a0_0 a0_1 a0_2 _ _ l0_3 60 true _ ?side1 ?side2 A5.out).mono ?_); (case side1 => repeat (first | exact (Kd.C_below HR0_3.out HB.out) | (with_reducible refine Kd.C_alloc ?_ _) | (with_reducible refine Kd.C_drewN ?_ _) | (with_reducible refine Kd.C_drew ?_))); (case side2 => exact HC0_3.out); rintro e w9 ⟨rfl, hb⟩; refine ⟨_, rfl, ?_⟩; have n0_ := Aside0.mk (blk_below (g := gb107) (o := .cells #[.int .i64 a0_0, .int .i64 a0_1, .int .i64 a0_2, .slice A0_3 l0_3.length c0_3] 24 (0, 0)) (zk BK107) hb); have n1_ := Aside0.mk (below_step zB hb); clear BK107; clear HB; have BK107 := n0_; have HB := n1_; clear n0_ n1_; (try clear hb); (try clear hb2); (try clear hk); (try clear hi); have hcz10_0 : w9.cell? ⟨gb107, 0, none⟩ = some (.int .i64 a0_0) := (blk_cell BK107.out 0).trans rfl; have hcz10_1 : w9.cell? ⟨gb107, 1, none⟩ = some (.int .i64 a0_1) := (blk_cell BK107.out 1).trans rfl; have hcz10_2 : w9.cell? ⟨gb107, 2, none⟩ = some (.int .i64 a0_2) := (blk_cell BK107.out 2).trans rfl; have hcz10_3 : w9.cell? ⟨gb107, 3, none⟩ = some (.slice A0_3 l0_3.length c0_3) := (blk_cell BK107.out 3).trans rfl; have hfz10_0 := blk_frozen BK107.out 0; have hfz10_1 := blk_frozen BK107.out 1; have hfz10_2 := blk_frozen BK107.out 2; have hfz10_3 := blk_frozen BK107.out 3) | (go_at_call 29; (with_reducible refine (ancepsref08_Size.calls k a0_0 a0_1 a0_2 _ _ l0_3 t109 _ ?side1 ?side2 A7.out).mono ?_); (case side1 => repeat (first | exact (Kd.C_below HR0_3.out HB.out) | (with_reducible refine Kd.C_alloc ?_ _) | (with_reducible refine Kd.C_drewN ?_ _) | (with_reducible refine Kd.C_drew ?_))); (case side2 => exact HC0_3.out); rintro e w11 ⟨rfl, hb⟩; have n0_ := Aside0.mk (blk_below (g := gb107) (o := .cells #[.int .i64 a0_0, .int .i64 a0_1, .int .i64 a0_2, .slice A0_3 l0_3.length c0_3] 24 (0, 0)) (zk BK107) hb); have n1_ := Aside0.mk (below_step zB hb); clear BK107; clear HB; have BK107 := n0_; have HB := n1_; clear n0_ n1_; (try clear hb); (try clear hb2); (try clear hk); (try clear hi)))
  go_ret
  exact ⟨by first | rfl | (simp [errW_none, errW_some] <;> rfl) | (simp [*, errW_none, errW_some] <;> rfl), by repeat (first | (with_reducible first | exact HB.out | apply below_alloc | apply pw_below_drewN | apply below_drew1 | refine below_set ?_ GE107.out) | exact HB.out)⟩
 ·replace c6 := Bool.eq_false_iff.mpr c6
  subst c6
  have H1 : (some false) = some r := by rw [if_neg (show ¬ (false = true) by decide)] at H; exact H
  clear H
  have H := H1
  clear H1
  obtain rfl := Option.some.inj H
  have hcz12_0 : w4.cell? ⟨gb107, 0, none⟩ = some (.int .i64 a0_0) := (blk_cell BK107.out 0).trans rfl
  have hcz12_1 : w4.cell? ⟨gb107, 1, none⟩ = some (.int .i64 a0_1) := (blk_cell BK107.out 1).trans rfl
  have hcz12_2 : w4.cell? ⟨gb107, 2, none⟩ = some (.int .i64 a0_2) := (blk_cell BK107.out 2).trans rfl
  have hcz12_3 : w4.cell? ⟨gb107, 3, none⟩ = some (.slice A0_3 l0_3.length c0_3) := (blk_cell BK107.out 3).trans rfl
  have hfz12_0 := blk_frozen BK107.out 0
  have hfz12_1 := blk_frozen BK107.out 1
  have hfz12_2 := blk_frozen BK107.out 2
  have hfz12_3 := blk_frozen BK107.out 3
  go_wp2_with (first | ((with_reducible refine gate_callee (f := 28) rfl ?_); refine goesL_ (some 6) rfl rfl Try.func28 zK rfl #[.agg #[.int .i64 a0_0, .int .i64 a0_1, .int .i64 a0_2, .slice A0_3 l0_3.length c0_3], .int .i64 60] rfl zM ?_; (with_reducible refine (ancepsref08_deep.calls k a0_0 a0_1 a0_2 _ _ l0_3 60 false _ ?side1 ?side2 A5.out).mono ?_); (case side1 => repeat (first | exact (Kd.C_below HR0_3.out HB.out) | (with_reducible refine Kd.C_alloc ?_ _) | (with_reducible refine Kd.C_drewN ?_ _) | (with_reducible refine Kd.C_drew ?_))); (case side2 => exact HC0_3.out); rintro e w13 ⟨rfl, hb⟩; refine ⟨_, rfl, ?_⟩; have n0_ := Aside0.mk (blk_below (g := gb107) (o := .cells #[.int .i64 a0_0, .int .i64 a0_1, .int .i64 a0_2, .slice A0_3 l0_3.length c0_3] 24 (0, 0)) (zk BK107) hb); have n1_ := Aside0.mk (below_step zB hb); clear BK107; clear HB; have BK107 := n0_; have HB := n1_; clear n0_ n1_; (try clear hb); (try clear hb2); (try clear hk); (try clear hi)))
  go_ret
  exact ⟨by first | rfl | (simp [errW_none, errW_some] <;> rfl) | (simp [*, errW_none, errW_some] <;> rfl), by repeat (first | (with_reducible first | exact HB.out | apply below_alloc | apply pw_below_drewN | apply below_drew1 | refine below_set ?_ GE107.out) | exact HB.out)⟩
/-- A state of type 3 at block g of W; what its slices lead to came in by w0. -/
def IsS3 (w0 W : World) (g : Nat) (f0 : Int) : Prop := W.heap[g]? = some (.cells #[.int .i64 f0] 3 (0, 0)) ∧ w0.heap.size ≤ g
theorem IsS3.grown {w0 W : World} {g : Nat} {f0 : Int} {W1 : World} {row : Option Nat} (h : IsS3 w0 W g f0) (hw : W.grownBy W1 row) (hne : some g ≠ row) : IsS3 w0 W1 g f0 := by
 obtain ⟨hb, hg⟩ := h
 exact ⟨blk_grown hb hw hne, hg⟩
theorem IsS3.own_neN {w0 W : World} {g : Nat} {f0 : Int} {α : Type} {d : Kd α} {e : Nat} {base : Nat} {ok : Nat → Prop} {v : Value} {xs : List α} (h : IsS3 w0 W g f0) (ho : Kd.N d e W base ok v xs) (ht : e ≠ 3) : some g ≠ v.ownBlock := by
 obtain ⟨hb, hg⟩ := h
 exact Kd.N_ne ho hb ht
theorem IsS3.fresh {w0 W : World} {g : Nat} {f0 : Int} (h : IsS3 w0 W g f0) : ∀ k, W.heap.size ≤ k → k ≠ g := by
 obtain ⟨hb, hg⟩ := h
 exact Kd.freshB hb
theorem IsS3.kept {w0 W : World} {g : Nat} {f0 : Int} {W1 : World} {S : Nat → Prop} (h : IsS3 w0 W g f0) (hk : Kept W W1 S) (hne : ¬ S g) : IsS3 w0 W1 g f0 := by
 obtain ⟨hb, hg⟩ := h
 exact ⟨blk_kept hb hk hne, hg⟩
theorem IsS3.below {w0 W : World} {g : Nat} {f0 : Int} {W1 : World} (h : IsS3 w0 W g f0) (hw : Below W.heap.size W W1) : IsS3 w0 W1 g f0 := h.grown (grown_of_below hw none) (by simp)
theorem IsS3.alloc {w0 W : World} {g : Nat} {f0 : Int} (h : IsS3 w0 W g f0) (o : Obj) : IsS3 w0 (W.alloc o) g f0 := h.below (below_alloc (Below.refl _ _) o)
theorem IsS3.drewN {w0 W : World} {g : Nat} {f0 : Int} (h : IsS3 w0 W g f0) (m : Nat) : IsS3 w0 (W.drewN m) g f0 := h
theorem IsS3.drew {w0 W : World} {g : Nat} {f0 : Int} (h : IsS3 w0 W g f0) : IsS3 w0 W.drew g f0 := h
theorem IsS3.at_ {w0 W : World} {g : Nat} {f0 : Int} {w' : World} {m : Nat} (hq : W.drewN m = w') (h : IsS3 w0 W g f0) : IsS3 w0 w' g f0 := by subst hq; exact IsS3.drewN h m
theorem IsS3.apart {w0 W : World} {g : Nat} {f0 : Int} {α : Type} {d : Kd α} {e : Nat} {base : Nat} {ok : Nat → Prop} {v : Value} {xs : List α} (h : IsS3 w0 W g f0) (ho : d.R e W base ok v xs) (ht : ∀ q, q ∈ e :: d.E → q ≠ 3) : d.R e W base (fun k => ok k ∧ k ≠ g) v xs := by
 obtain ⟨hb, hg⟩ := h
 exact Kd.R_types ho hb ht
theorem IsS3.own_ne {w0 W : World} {g : Nat} {f0 : Int} {α : Type} {d : Kd α} {e : Nat} {base : Nat} {ok : Nat → Prop} {v : Value} {xs : List α} (h : IsS3 w0 W g f0) (ho : d.R e W base ok v xs) (ht : e ≠ 3) : some g ≠ v.ownBlock := by
 obtain ⟨hb, hg⟩ := h
 exact Kd.R_ne ho hb ht
theorem IsS3.apartQ {w0 W : World} {g : Nat} {f0 : Int} {α : Type} {d : Kd α} {e : Nat} {base : Nat} {ok : Nat → Prop} {v : Value} {xs : List α} (h : IsS3 w0 W g f0) (ho : d.Q e W base ok v xs) (ht : ∀ q, q ∈ e :: d.E → q ≠ 3) : d.Q e W base (fun k => ok k ∧ k ≠ g) v xs := by
 obtain ⟨hb, hg⟩ := h
 exact Kd.Q_types ho hb ht
theorem IsS3.own_neQ {w0 W : World} {g : Nat} {f0 : Int} {α : Type} {d : Kd α} {e : Nat} {base : Nat} {ok : Nat → Prop} {v : Value} {xs : List α} (h : IsS3 w0 W g f0) (ho : d.Q e W base ok v xs) (ht : e ≠ 3) : some g ≠ v.ownBlock := by
 obtain ⟨hb, hg⟩ := h
 exact Kd.Q_ne ho hb ht
theorem IsS3.apartS {w0 W : World} {g : Nat} {f0 : Int} {α : Type} {d : Kd α} {e : Nat} {base : Nat} {ok : Nat → Prop} {v : Value} {xs : List α} (h : IsS3 w0 W g f0) (ho : d.S e W base ok v xs) (ht : ∀ q, q ∈ e :: d.E → q ≠ 3) : d.S e W base (fun k => ok k ∧ k ≠ g) v xs := by
 obtain ⟨hb, hg⟩ := h
 exact Kd.S_types ho hb ht
theorem IsS3.own_neS {w0 W : World} {g : Nat} {f0 : Int} {α : Type} {d : Kd α} {e : Nat} {base : Nat} {ok : Nat → Prop} {v : Value} {xs : List α} (h : IsS3 w0 W g f0) (ho : d.S e W base ok v xs) (ht : e ≠ 3) : some g ≠ v.ownBlock := by
 obtain ⟨hb, hg⟩ := h
 exact Kd.S_ne ho hb ht
theorem IsS3.lt {w0 W : World} {g : Nat} {f0 : Int} (h : IsS3 w0 W g f0) : g < W.heap.size := by
 obtain ⟨hb, hg⟩ := h
 exact blk_lt hb
theorem IsS3.ge {w0 W : World} {g : Nat} {f0 : Int} (h : IsS3 w0 W g f0) : w0.heap.size ≤ g := by
 obtain ⟨hb, hg⟩ := h
 exact hg
theorem IsS3.ne_blk {w0 W : World} {g : Nat} {f0 : Int} {a : Nat} {cs : Array Value} {t : TypeId} {fr : Nat × Nat} (h : IsS3 w0 W g f0) (hb2 : W.heap[a]? = some (.cells cs t fr)) (ht : t ≠ 3) : g ≠ a := by
 obtain ⟨hb, hg⟩ := h
 rintro rfl
 rw [hb] at hb2
 injection hb2 with hb2
 injection hb2 with _ ht2
 exact ht ht2.symm
theorem IsS3.far {w0 W : World} {g : Nat} {f0 : Int} {p : Addr} (h : IsS3 w0 W g f0) (hne : g ≠ p.block) (u : Value) : IsS3 w0 (W.setCell p u) g f0 := by
 obtain ⟨hb, hg⟩ := h
 exact ⟨blk_far hb hne u, hg⟩
theorem cellS3_0 {W : World} {g : Nat} {f0 : Int} (h : W.heap[g]? = some (.cells #[.int .i64 f0] 3 (0, 0))) : W.cell? ⟨g, 0, none⟩ = some (.int .i64 f0) := (blk_cell h 0).trans rfl
theorem IsS3.set_0 {w0 W : World} {g : Nat} {f0 : Int} (h : IsS3 w0 W g f0) (x : Int) : IsS3 w0 (W.setCell ⟨g, 0, none⟩ (.int .i64 x)) g x := by
 obtain ⟨hb, hg⟩ := h
 exact ⟨by simpa using blk_set hb 0 (.int .i64 x), hg⟩
theorem IsS3.new (w0 W : World) (f0 : Int) (hB : Below w0.heap.size w0 W) : IsS3 w0 (W.alloc (.cells #[.int .i64 f0] 3)) W.heap.size f0 := ⟨by simpa using heap_alloc_new W _, hB.size⟩
/-! ### expr_measure: function 32 -/
mutual
def expr_measure.l0 : Nat → Int → List (S24) → Int → Int → Int → Option (Bool × Int)
 | 0, _, _, _, _, _ => none
 | k + 1, x1, x23, x24, x25, x3000 => if x25 < x24 then (if 0 ≤ x25 then (if x25 < (x23.length : Int) then ((expr_measure.f k ((rd_T24 x23 x25).f0) ((rd_T24 x23 x25).f1) ((rd_T24 x23 x25).f2) ((rd_T24 x23 x25).f3) (wrap64 (x1 + 1)) x3000).bind fun bt113 => (if bt113.1 = true then (expr_measure.l0 k x1 x23 x24 (wrap64 (x25 + 1)) bt113.2) else (some (false, bt113.2)))) else (none)) else (none)) else (some (true, x3000))
def expr_measure.f : Nat → Int → Int → Int → List (S24) → Int → Int → Option (Bool × Int)
 | 0, _, _, _, _, _, _ => none
 | k + 1, a0_0, a0_1, a0_2, l0_3, a1, s2_0 => if (wrap64 (s2_0 + 1)) > 500 then (some (false, wrap64 (s2_0 + 1))) else (if a1 > 40 then (some (false, wrap64 (s2_0 + 1))) else (expr_measure.l0 k a1 l0_3 (l0_3.length : Int) 0 (wrap64 (s2_0 + 1))))
end
theorem expr_measure.mono_l : ∀ k, (∀ y0 y1 y2 y3 y4 y5, LeO (expr_measure.f k y0 y1 y2 y3 y4 y5) (expr_measure.f (k + 1) y0 y1 y2 y3 y4 y5)) ∧ (∀ y0 y1 y2 y3 y4, LeO (expr_measure.l0 k y0 y1 y2 y3 y4) (expr_measure.l0 (k + 1) y0 y1 y2 y3 y4))
 | 0 => ⟨fun _ _ _ _ _ _ r h => by simp [expr_measure.f] at h, fun _ _ _ _ _ r h => by simp [expr_measure.l0] at h⟩
 | k + 1 => by
  obtain ⟨ih0, ih1⟩ := expr_measure.mono_l k
  refine ⟨?_, ?_⟩
  ·intro y0 y1 y2 y3 y4 y5
   unfold expr_measure.f
   repeat' first
   | (with_reducible exact ih0 _ _ _ _ _ _)
   | (with_reducible exact ih1 _ _ _ _ _)
   | (with_reducible exact LeO.refl _)
   | (with_reducible exact LeO.none _)
   | (with_reducible refine LeO.ite ?_ ?_)
   | (with_reducible refine LeO.bind ?_ (fun _ => ?_))
   | exact ih0 _ _ _ _ _ _
   | exact ih1 _ _ _ _ _
   | exact LeO.none _
   | refine LeO.ite ?_ ?_
   | refine LeO.bind ?_ (fun _ => ?_)
  ·intro y0 y1 y2 y3 y4
   unfold expr_measure.l0
   repeat' first
   | (with_reducible exact ih0 _ _ _ _ _ _)
   | (with_reducible exact ih1 _ _ _ _ _)
   | (with_reducible exact LeO.refl _)
   | (with_reducible exact LeO.none _)
   | (with_reducible refine LeO.ite ?_ ?_)
   | (with_reducible refine LeO.bind ?_ (fun _ => ?_))
   | exact ih0 _ _ _ _ _ _
   | exact ih1 _ _ _ _ _
   | exact LeO.none _
   | refine LeO.ite ?_ ?_
   | refine LeO.bind ?_ (fun _ => ?_)
theorem expr_measure.mono : ∀ a0 a1 a2 a3 a4 a5 k, LeO (expr_measure.f k a0 a1 a2 a3 a4 a5) (expr_measure.f (k + 1) a0 a1 a2 a3 a4 a5) := by
 intro a0 a1 a2 a3 a4 a5 k
 obtain ⟨ih0, ih1⟩ := expr_measure.mono_l k
 exact ih0 a0 a1 a2 a3 a4 a5
set_option maxHeartbeats 8000000 in
set_option maxRecDepth 100000 in
theorem expr_measure.calls (k : Nat) : ∀ (a0_0 : Int) (a0_1 : Int) (a0_2 : Int) (A0_3 : Option Addr) (c0_3 : Nat) (l0_3 : List (S24)) (a1 : Int) (g : Nat) (s2_0 : Int) (r1 : Bool) (r2 : Int) (w0 w : World) (hI : IsS3 w0 w g s2_0) (hB : Below w0.heap.size w0 w) (hr0_3 : ∀ W_, KeepBut w W_ g none → Kd.C k24 W_ A0_3 l0_3.length l0_3) (hc0_3 : l0_3.length ≤ c0_3) (h : expr_measure.f k a0_0 a0_1 a0_2 l0_3 a1 s2_0 = some (r1, r2)),
  Calls Try.prog 32 #[.agg #[.int .i64 a0_0, .int .i64 a0_1, .int .i64 a0_2, .slice A0_3 l0_3.length c0_3], .int .i64 a1, .pointer (some ⟨g, 0, none⟩)] w fun e w' => e = .returned (.bool r1) ∧ IsS3 w0 w' g r2 ∧ Below w0.heap.size w0 w' ∧ KeepBut w w' g none := by
 induction k using Nat.strongRecOn with
 | _ k ih =>
 intro a0_0 a0_1 a0_2 A0_3 c0_3 l0_3 a1 g s2_0 r1 r2 w0 w hI hB hr0_3 hc0_3 h
 cases k with
 | zero => exact absurd h (by simp [expr_measure.f])
 | succ k =>
 simp only [expr_measure.f] at h
 have hu24 := Try.underlying24
 have hu3 := Try.underlying3
 have hu22 := Try.underlying22
 have HR0_3 := Aside0.mk hr0_3
 have HC0_3 := Aside0.mk hc0_3
 clear hr0_3 hc0_3
 have HI2 := Aside0.mk hI
 have HK := Aside0.mk (KeepBut.refl w g none)
 have HL := Aside0.mk hB.size
 clear hI
 have HW0 := Aside0.mk hB.size
 have HB := Aside0.mk hB
 clear hB
 have H : (if (wrap64 (s2_0 + 1)) > 500 then (some (false, wrap64 (s2_0 + 1))) else (if a1 > 40 then (some (false, wrap64 (s2_0 + 1))) else (expr_measure.l0 k a1 l0_3 (l0_3.length : Int) 0 (wrap64 (s2_0 + 1))))) = some (r1, r2) := h
 clear h
 have HC4 := Aside0.mk H
 clear H
 go_enter Try.func32, Try.ntmps32
 go_upto_region 2 with (first | ((with_reducible refine gate_dst (N := 3) rfl ?_); refine box_event ?hg (N := 3) ?hd (cs := #[.int .i64 a0_0, .int .i64 a0_1, .int .i64 a0_2, .slice A0_3 l0_3.length c0_3]) (t := 24) ?hr ?_; (case hd => rfl); (case hg => rfl); (case hr => first | (go_simp; done) | (go_simp; rfl)); intro gb110 hg w5 hbox hb; have n0_ := Aside0.mk (IsS3.below (by repeat (first | (with_reducible first | exact HI2.out | apply IsS3.alloc | apply IsS3.drewN | apply IsS3.drew | apply IsS3.set_0) | exact HI2.out)) hb); have n1_ := Aside0.mk (KeepBut.trans (by repeat (first | (with_reducible first | exact HK.out | apply KeepBut.set_ | apply keep_drewN | apply keep_drew | apply keep_alloc) | exact HK.out)) (KeepBut.of_below hb g none) (.inl rfl)); have n2_ := Aside0.mk (below_step (by repeat (first | (with_reducible first | exact HB.out | apply below_alloc | apply pw_below_drewN | apply below_drew1 | refine below_set ?_ (IsS3.ge HI2.out)) | exact HB.out)) hb); have n3_ := Aside0.mk (hbox); have n4_ := Aside0.mk ((by rw [hg]; exact (keep_size (w := w) (g := g) (row := none) (by repeat (first | (with_reducible first | exact HK.out | apply KeepBut.set_ | apply keep_drewN | apply keep_drew | apply keep_alloc) | exact HK.out))) : w.heap.size ≤ gb110)); have n5_ := Aside0.mk ((Nat.le_trans HW0.out (by rw [hg]; exact (keep_size (w := w) (g := g) (row := none) (by repeat (first | (with_reducible first | exact HK.out | apply KeepBut.set_ | apply keep_drewN | apply keep_drew | apply keep_alloc) | exact HK.out))) : w.heap.size ≤ gb110) : w0.heap.size ≤ gb110)); have n6_ := Aside0.mk ((by rw [hg]; exact Nat.ne_of_lt (IsS3.lt (show IsS3 w0 _ g s2_0 from by repeat (first | (with_reducible first | exact HI2.out | apply IsS3.alloc | apply IsS3.drewN | apply IsS3.drew | apply IsS3.set_0) | exact HI2.out))) : g ≠ gb110)); have n7_ := Aside0.mk ((by rw [hg]; exact Nat.ne_of_gt (IsS3.lt (show IsS3 w0 _ g s2_0 from by repeat (first | (with_reducible first | exact HI2.out | apply IsS3.alloc | apply IsS3.drewN | apply IsS3.drew | apply IsS3.set_0) | exact HI2.out))) : gb110 ≠ g)); clear HI2; clear HK; clear HB; have HI2 := n0_; have HK := n1_; have HB := n2_; have BK110 := n3_; have GW110 := n4_; have GE110 := n5_; have NB2_110 := n6_; have NB110_2 := n7_; clear n0_ n1_ n2_ n3_ n4_ n5_ n6_ n7_; clear hb hbox hg; obtain ⟨HGz6, hgz6⟩ := HI2.out; have hcz6_0 := cellS3_0 HGz6; have hfz6_0 := blk_frozen HGz6 0; clear HGz6 hgz6))
 (try simp only [Act.put, List.setIfInBounds_toArray, List.set_cons_zero, List.set_cons_succ])
 have H := HC4.out
 clear HC4
 by_cases c7 : (wrap64 (s2_0 + 1)) > 500
 ·rw [if_pos c7] at H
  have c7b0 : decide (500 < (wrap64 (s2_0 + 1))) = true := decide_eq_true c7
  clear c7
  (first | rw [c7b0] | (simp only [i64_w, i32_w]; rw [c7b0]) | skip)
  simp only [Option.some.injEq, Prod.mk.injEq] at H
  obtain ⟨rfl, rfl⟩ := H
  obtain ⟨HGz8, hgz8⟩ := HI2.out
  have hcz8_0 := cellS3_0 HGz8
  have hfz8_0 := blk_frozen HGz8 0
  clear HGz8 hgz8
  go_wp2
  go_ret
  exact ⟨by first | rfl | (simp [errW_none, errW_some] <;> rfl) | (simp [*, errW_none, errW_some] <;> rfl), by repeat (first | (with_reducible first | exact HI2.out | apply IsS3.alloc | apply IsS3.drewN | apply IsS3.drew | apply IsS3.set_0 | refine IsS3.far ?_ NB2_110.out _) | exact HI2.out), by repeat (first | (with_reducible first | exact HB.out | apply below_alloc | apply pw_below_drewN | apply below_drew1 | refine below_set ?_ (IsS3.ge HI2.out) | refine below_set ?_ GE110.out) | exact HB.out), by repeat (first | (with_reducible first | exact HK.out | apply KeepBut.set_ | apply keep_drewN | apply keep_drew | apply keep_alloc | refine keep_far ?_ GW110.out _) | exact HK.out)⟩
 ·rw [if_neg c7] at H
  have c7b0 : decide (500 < (wrap64 (s2_0 + 1))) = false := decide_eq_false c7
  clear c7
  (first | rw [c7b0] | (simp only [i64_w, i32_w]; rw [c7b0]) | skip)
  by_cases c9 : a1 > 40
  ·rw [if_pos c9] at H
   have c9b0 : decide (40 < a1) = true := decide_eq_true c9
   clear c9
   simp only [Option.some.injEq, Prod.mk.injEq] at H
   obtain ⟨rfl, rfl⟩ := H
   obtain ⟨HGz10, hgz10⟩ := HI2.out
   have hcz10_0 := cellS3_0 HGz10
   have hfz10_0 := blk_frozen HGz10 0
   clear HGz10 hgz10
   go_wp2
   go_ret
   exact ⟨by first | rfl | (simp [errW_none, errW_some] <;> rfl) | (simp [*, errW_none, errW_some] <;> rfl), by repeat (first | (with_reducible first | exact HI2.out | apply IsS3.alloc | apply IsS3.drewN | apply IsS3.drew | apply IsS3.set_0 | refine IsS3.far ?_ NB2_110.out _) | exact HI2.out), by repeat (first | (with_reducible first | exact HB.out | apply below_alloc | apply pw_below_drewN | apply below_drew1 | refine below_set ?_ (IsS3.ge HI2.out) | refine below_set ?_ GE110.out) | exact HB.out), by repeat (first | (with_reducible first | exact HK.out | apply KeepBut.set_ | apply keep_drewN | apply keep_drew | apply keep_alloc | refine keep_far ?_ GW110.out _) | exact HK.out)⟩
  ·rw [if_neg c9] at H
   have c9b0 : decide (40 < a1) = false := decide_eq_false c9
   clear c9
   have H' := Aside0.mk H
   clear H
   obtain ⟨HGz11, hgz11⟩ := HI2.out
   have hcz11_0 := cellS3_0 HGz11
   have hfz11_0 := blk_frozen HGz11 0
   clear HGz11 hgz11
   have hnb12 := NB110_2.out
   have hnc12 := NB2_110.out
   have hcz13_0 : w5.cell? ⟨gb110, 0, none⟩ = some (.int .i64 a0_0) := (blk_cell BK110.out 0).trans rfl
   have hcz13_1 : w5.cell? ⟨gb110, 1, none⟩ = some (.int .i64 a0_1) := (blk_cell BK110.out 1).trans rfl
   have hcz13_2 : w5.cell? ⟨gb110, 2, none⟩ = some (.int .i64 a0_2) := (blk_cell BK110.out 2).trans rfl
   have hcz13_3 : w5.cell? ⟨gb110, 3, none⟩ = some (.slice A0_3 l0_3.length c0_3) := (blk_cell BK110.out 3).trans rfl
   have hfz13_0 := blk_frozen BK110.out 0
   have hfz13_1 := blk_frozen BK110.out 1
   have hfz13_2 := blk_frozen BK110.out 2
   have hfz13_3 := blk_frozen BK110.out 3
   go_wp2
   go_loopg [25] k (fun kq v25 w' => ∃ (x25_1 : Int) (x3000_1 : Int), v25 = .int .i64 x25_1 ∧ Aside0 (expr_measure.l0 kq a1 l0_3 (l0_3.length : Int) x25_1 x3000_1 = some (r1, r2)) ∧ Aside0 (kq ≤ k) ∧ Aside0 (w'.heap[gb110]? = some (.cells #[.int .i64 a0_0, .int .i64 a0_1, .int .i64 a0_2, (.slice A0_3 l0_3.length c0_3)] 24 (0, 0))) ∧ Aside0 (IsS3 w0 w' g x3000_1) ∧ Aside0 (KeepBut w w' g none) ∧ Aside0 (Below w0.heap.size w0 w'))
   case atStart => exact ⟨(0), (wrap64 (s2_0 + 1)), zT, H', ⟨Nat.le_refl _⟩, ⟨by (with_reducible repeat (first | refine blk_drewN ?_ _ | refine blk_drew ?_ | refine blk_alloc ?_ _)); refine blk_far ?_ NB110_2.out _; (with_reducible repeat (first | refine blk_drewN ?_ _ | refine blk_drew ?_ | refine blk_alloc ?_ _)); exact BK110.out⟩, ⟨by repeat (first | (with_reducible first | exact HI2.out | apply IsS3.alloc | apply IsS3.drewN | apply IsS3.drew | apply IsS3.set_0 | refine IsS3.far ?_ NB2_110.out _) | exact HI2.out)⟩, ⟨by repeat (first | (with_reducible first | exact HK.out | apply KeepBut.set_ | apply keep_drewN | apply keep_drew | apply keep_alloc | refine keep_far ?_ GW110.out _) | exact HK.out)⟩, ⟨by repeat (first | (with_reducible first | exact HB.out | apply below_alloc | apply pw_below_drewN | apply below_drew1 | refine below_set ?_ (IsS3.ge HI2.out) | refine below_set ?_ GE110.out) | exact HB.out)⟩⟩
   case round =>
    clear H'
    try clear c7
    try clear c7b0
    try clear c9
    try clear c9b0
    try clear hcz11_0
    try clear hcz13_0
    try clear hcz13_1
    try clear hcz13_2
    try clear hcz13_3
    try clear hcz6_0
    try clear hfz11_0
    try clear hfz13_0
    try clear hfz13_1
    try clear hfz13_2
    try clear hfz13_3
    try clear hfz6_0
    obtain ⟨x25_1, x3000_1, rfl, HA, HK1, BK110, HI2, HK, HB⟩ := hrel
    cases gk with
    | zero => exact absurd HA.out (by simp [expr_measure.l0])
    | succ k1 =>
     have H := HA.out
     clear HA
     simp only [expr_measure.l0] at H
     by_cases c14 : x25_1 < (l0_3.length : Int)
     ·rw [if_pos c14] at H
      have c14b0 : decide (x25_1 < (l0_3.length : Int)) = true := decide_eq_true c14
      clear c14
      by_cases c15 : 0 ≤ x25_1
      ·rw [if_pos c15] at H
       have c15b0 : decide (0 ≤ x25_1) = true := decide_eq_true c15
       clear c15
       by_cases c16 : x25_1 < (l0_3.length : Int)
       ·rw [if_pos c16] at H
        have c16b0 : decide (x25_1 < (l0_3.length : Int)) = true := decide_eq_true c16
        clear c16
        replace H := Option.bind_eq_some_iff.mp H
        obtain ⟨⟨t113, t114⟩, A170, H⟩ := H
        replace H : (if t113 = true then (expr_measure.l0 k1 a1 l0_3 (l0_3.length : Int) (wrap64 (x25_1 + 1)) t114) else (some (false, t114))) = some (r1, r2) := H
        have A17 := Aside0.mk A170
        clear A170
        have HC18 := Aside0.mk H
        clear H
        have p111 : 0 ≤ (x25_1 : Int) := of_decide_eq_true zh
        have q111 : x25_1 < (l0_3.length : Int) := of_decide_eq_true zh
        obtain ⟨ad111, A111_3, c111_3, e111, hx111_0, hx111_1, hx111_2, hx111_3, hl111_3, hi111_3⟩ := at_T24 (Kd.C_foot_now HR0_3.out HK.out) x25_1 p111 q111
        cases e111
        have HR111_3 := Aside0.mk (sub_T24_3 HR0_3.out HK.out x25_1 (by first | exact p111 | exact of_eq_true p111) (by first | exact q111 | exact of_eq_true q111) rfl hx111_3)
        have HC111_3 := Aside0.mk hl111_3
        clear hi111_3 hl111_3
        replace p111 := eq_true p111
        replace q111 := eq_true q111
        go_upto_if 34 with (first | ((with_reducible refine gate_dst (N := 8) rfl ?_); refine box_event ?hg (N := 8) ?hd (cs := #[.int .i64 0, .int .i64 0, .int .i64 0, .slice none 0 0]) (t := 24) ?hr ?_; (case hd => rfl); (case hg => rfl); (case hr => first | (go_simp; done) | (go_simp; rfl)); intro gb112 hg w19 hbox hb; have n0_ := Aside0.mk (blk_below (g := gb110) (o := .cells #[.int .i64 a0_0, .int .i64 a0_1, .int .i64 a0_2, .slice (some ad111) l0_3.length c0_3] 24 (0, 0)) (zk BK110) hb); have n1_ := Aside0.mk (IsS3.below (by repeat (first | (with_reducible first | exact HI2.out | apply IsS3.alloc | apply IsS3.drewN | apply IsS3.drew | apply IsS3.set_0 | refine IsS3.far ?_ NB2_110.out _) | exact HI2.out)) hb); have n2_ := Aside0.mk (KeepBut.trans (by repeat (first | (with_reducible first | exact HK.out | apply KeepBut.set_ | apply keep_drewN | apply keep_drew | apply keep_alloc | refine keep_far ?_ GW110.out _) | exact HK.out)) (KeepBut.of_below hb g none) (.inl rfl)); have n3_ := Aside0.mk (below_step (by repeat (first | (with_reducible first | exact HB.out | apply below_alloc | apply pw_below_drewN | apply below_drew1 | refine below_set ?_ (IsS3.ge HI2.out) | refine below_set ?_ GE110.out) | exact HB.out)) hb); have n4_ := Aside0.mk (hbox); have n5_ := Aside0.mk ((by rw [hg]; exact (keep_size (w := w) (g := g) (row := none) (by repeat (first | (with_reducible first | exact HK.out | apply KeepBut.set_ | apply keep_drewN | apply keep_drew | apply keep_alloc | refine keep_far ?_ GW110.out _) | exact HK.out))) : w.heap.size ≤ gb112)); have n6_ := Aside0.mk ((Nat.le_trans HW0.out (by rw [hg]; exact (keep_size (w := w) (g := g) (row := none) (by repeat (first | (with_reducible first | exact HK.out | apply KeepBut.set_ | apply keep_drewN | apply keep_drew | apply keep_alloc | refine keep_far ?_ GW110.out _) | exact HK.out))) : w.heap.size ≤ gb112) : w0.heap.size ≤ gb112)); have n7_ := Aside0.mk ((by rw [hg]; exact Nat.ne_of_lt (blk_lt (g := gb110) (o := .cells #[.int .i64 a0_0, .int .i64 a0_1, .int .i64 a0_2, .slice (some ad111) l0_3.length c0_3] 24 (0, 0)) (zk BK110)) : gb110 ≠ gb112)); have n8_ := Aside0.mk ((by rw [hg]; exact Nat.ne_of_gt (blk_lt (g := gb110) (o := .cells #[.int .i64 a0_0, .int .i64 a0_1, .int .i64 a0_2, .slice (some ad111) l0_3.length c0_3] 24 (0, 0)) (zk BK110)) : gb112 ≠ gb110)); have n9_ := Aside0.mk ((by rw [hg]; exact Nat.ne_of_lt (IsS3.lt (show IsS3 w0 _ g x3000_1 from by repeat (first | (with_reducible first | exact HI2.out | apply IsS3.alloc | apply IsS3.drewN | apply IsS3.drew | apply IsS3.set_0 | refine IsS3.far ?_ NB2_110.out _) | exact HI2.out))) : g ≠ gb112)); have n10_ := Aside0.mk ((by rw [hg]; exact Nat.ne_of_gt (IsS3.lt (show IsS3 w0 _ g x3000_1 from by repeat (first | (with_reducible first | exact HI2.out | apply IsS3.alloc | apply IsS3.drewN | apply IsS3.drew | apply IsS3.set_0 | refine IsS3.far ?_ NB2_110.out _) | exact HI2.out))) : gb112 ≠ g)); clear BK110; clear HI2; clear HK; clear HB; have BK110 := n0_; have HI2 := n1_; have HK := n2_; have HB := n3_; have BK112 := n4_; have GW112 := n5_; have GE112 := n6_; have NB110_112 := n7_; have NB112_110 := n8_; have NB2_112 := n9_; have NB112_2 := n10_; clear n0_ n1_ n2_ n3_ n4_ n5_ n6_ n7_ n8_ n9_ n10_; clear hb hbox hg; have hnb20 := NB112_110.out; have hnc20 := NB110_112.out; have hnb21 := NB112_2.out; have hnc21 := NB2_112.out; have hcz22_0 : w19.cell? ⟨gb112, 0, none⟩ = some (.int .i64 0) := (blk_cell BK112.out 0).trans rfl; have hcz22_1 : w19.cell? ⟨gb112, 1, none⟩ = some (.int .i64 0) := (blk_cell BK112.out 1).trans rfl; have hcz22_2 : w19.cell? ⟨gb112, 2, none⟩ = some (.int .i64 0) := (blk_cell BK112.out 2).trans rfl; have hcz22_3 : w19.cell? ⟨gb112, 3, none⟩ = some (.slice none 0 0) := (blk_cell BK112.out 3).trans rfl; have hfz22_0 := blk_frozen BK112.out 0; have hfz22_1 := blk_frozen BK112.out 1; have hfz22_2 := blk_frozen BK112.out 2; have hfz22_3 := blk_frozen BK112.out 3) | ((with_reducible refine gate_callee (f := 32) rfl ?_); refine goesL_ (some 33) rfl rfl Try.func32 zK rfl #[.agg #[.int .i64 ((rd_T24 l0_3 x25_1).f0), .int .i64 ((rd_T24 l0_3 x25_1).f1), .int .i64 ((rd_T24 l0_3 x25_1).f2), .slice A111_3 ((rd_T24 l0_3 x25_1).f3).length c111_3], .int .i64 (wrap64 (a1 + 1)), .pointer (some ⟨g, 0, none⟩)] rfl zM ?_; (with_reducible refine (ih k1 (by have := HK1.out; omega) ((rd_T24 l0_3 x25_1).f0) ((rd_T24 l0_3 x25_1).f1) ((rd_T24 l0_3 x25_1).f2) _ _ ((rd_T24 l0_3 x25_1).f3) (wrap64 (a1 + 1)) g x3000_1 t113 t114 w0 _ ?side1 ?side2 ?side3 ?side4 A17.out).mono ?_); (case side1 => repeat (first | (with_reducible first | exact HI2.out | apply IsS3.alloc | apply IsS3.drewN | apply IsS3.drew | apply IsS3.set_0 | refine IsS3.far ?_ NB2_110.out _ | refine IsS3.far ?_ NB2_112.out _) | exact HI2.out)); (case side2 => repeat (first | (with_reducible first | exact HB.out | apply below_alloc | apply pw_below_drewN | apply below_drew1 | refine below_set ?_ (IsS3.ge HI2.out) | refine below_set ?_ GE110.out | refine below_set ?_ GE112.out) | exact HB.out)); (case side3 => exact Kd.C_foot_step HR111_3.out (by repeat (first | (with_reducible first | exact HK.out | apply KeepBut.set_ | apply keep_drewN | apply keep_drew | apply keep_alloc | refine keep_far ?_ GW110.out _ | refine keep_far ?_ GW112.out _) | exact HK.out))); (case side4 => exact HC111_3.out); rintro e w23 ⟨rfl, hi, hb, hk⟩; refine ⟨_, rfl, ?_⟩; have n0_ := Aside0.mk (KeepBut.blk hk (g' := gb110) (o := .cells #[.int .i64 a0_0, .int .i64 a0_1, .int .i64 a0_2, .slice (some ad111) l0_3.length c0_3] 24 (0, 0)) (by (with_reducible repeat (first | refine blk_drewN ?_ _ | refine blk_drew ?_ | refine blk_alloc ?_ _)); refine blk_far ?_ NB110_112.out _; (with_reducible repeat (first | refine blk_drewN ?_ _ | refine blk_drew ?_ | refine blk_alloc ?_ _)); refine blk_far ?_ NB110_112.out _; (with_reducible repeat (first | refine blk_drewN ?_ _ | refine blk_drew ?_ | refine blk_alloc ?_ _)); refine blk_far ?_ NB110_112.out _; (with_reducible repeat (first | refine blk_drewN ?_ _ | refine blk_drew ?_ | refine blk_alloc ?_ _)); refine blk_far ?_ NB110_112.out _; (with_reducible repeat (first | refine blk_drewN ?_ _ | refine blk_drew ?_ | refine blk_alloc ?_ _)); exact BK110.out) NB110_2.out (by simp)); have n1_ := Aside0.mk (KeepBut.blk hk (g' := gb112) (o := .cells #[.int .i64 ((rd_T24 l0_3 x25_1).f0), .int .i64 ((rd_T24 l0_3 x25_1).f1), .int .i64 ((rd_T24 l0_3 x25_1).f2), .slice A111_3 ((rd_T24 l0_3 x25_1).f3).length c111_3] 24 (0, 0)) (by (with_reducible repeat (first | refine blk_drewN ?_ _ | refine blk_drew ?_ | refine blk_alloc ?_ _)); refine blk_put (cs := #[.int .i64 ((rd_T24 l0_3 x25_1).f0), .int .i64 ((rd_T24 l0_3 x25_1).f1), .int .i64 ((rd_T24 l0_3 x25_1).f2), .slice none 0 0]) ?_ 3 _ rfl; (with_reducible repeat (first | refine blk_drewN ?_ _ | refine blk_drew ?_ | refine blk_alloc ?_ _)); refine blk_put (cs := #[.int .i64 ((rd_T24 l0_3 x25_1).f0), .int .i64 ((rd_T24 l0_3 x25_1).f1), .int .i64 0, .slice none 0 0]) ?_ 2 _ rfl; (with_reducible repeat (first | refine blk_drewN ?_ _ | refine blk_drew ?_ | refine blk_alloc ?_ _)); refine blk_put (cs := #[.int .i64 ((rd_T24 l0_3 x25_1).f0), .int .i64 0, .int .i64 0, .slice none 0 0]) ?_ 1 _ rfl; (with_reducible repeat (first | refine blk_drewN ?_ _ | refine blk_drew ?_ | refine blk_alloc ?_ _)); refine blk_put (cs := #[.int .i64 0, .int .i64 0, .int .i64 0, .slice none 0 0]) ?_ 0 _ rfl; (with_reducible repeat (first | refine blk_drewN ?_ _ | refine blk_drew ?_ | refine blk_alloc ?_ _)); exact BK112.out) NB112_2.out (by simp)); have n2_ := Aside0.mk (KeepBut.trans (by repeat (first | (with_reducible first | exact HK.out | apply KeepBut.set_ | apply keep_drewN | apply keep_drew | apply keep_alloc | refine keep_far ?_ GW110.out _ | refine keep_far ?_ GW112.out _) | exact HK.out)) hk (.inl rfl)); have n3_ := Aside0.mk (hb); have n4_ := Aside0.mk (hi); clear BK110; clear BK112; clear HK; clear HB; clear HI2; have BK110 := n0_; have BK112 := n1_; have HK := n2_; have HB := n3_; have HI2 := n4_; clear n0_ n1_ n2_ n3_ n4_; (try clear hb); (try clear hb2); (try clear hk); (try clear hi)))
        (try simp only [Act.put, List.setIfInBounds_toArray, List.set_cons_zero, List.set_cons_succ])
        have H := HC18.out
        clear HC18
        by_cases c24 : t113 = true
        ·subst c24
         have H1 : (expr_measure.l0 k1 a1 l0_3 (l0_3.length : Int) (wrap64 (x25_1 + 1)) t114) = some (r1, r2) := by rw [if_pos rfl] at H; exact H
         clear H
         have H := H1
         clear H1
         have H' := Aside0.mk H
         clear H
         go_wp2
         go_roundg k1
         case measure => have := HK1.out; omega
         case rel => exact ⟨(wrap64 (x25_1 + 1)), (t114), zT, H', ⟨by have := HK1.out; omega⟩, ⟨by (with_reducible repeat (first | refine blk_drewN ?_ _ | refine blk_drew ?_ | refine blk_alloc ?_ _)); exact BK110.out⟩, ⟨by repeat (first | (with_reducible first | exact HI2.out | apply IsS3.alloc | apply IsS3.drewN | apply IsS3.drew | apply IsS3.set_0 | refine IsS3.far ?_ NB2_110.out _ | refine IsS3.far ?_ NB2_112.out _) | exact HI2.out)⟩, ⟨by repeat (first | (with_reducible first | exact HK.out | apply KeepBut.set_ | apply keep_drewN | apply keep_drew | apply keep_alloc | refine keep_far ?_ GW110.out _ | refine keep_far ?_ GW112.out _) | exact HK.out)⟩, ⟨by repeat (first | (with_reducible first | exact HB.out | apply below_alloc | apply pw_below_drewN | apply below_drew1 | refine below_set ?_ (IsS3.ge HI2.out) | refine below_set ?_ GE110.out | refine below_set ?_ GE112.out) | exact HB.out)⟩⟩
        ·replace c24 := Bool.eq_false_iff.mpr c24
         subst c24
         have H1 : (some (false, t114)) = some (r1, r2) := by rw [if_neg (show ¬ (false = true) by decide)] at H; exact H
         clear H
         have H := H1
         clear H1
         simp only [Option.some.injEq, Prod.mk.injEq] at H
         obtain ⟨rfl, rfl⟩ := H
         go_wp2
         go_ret
         exact ⟨by first | rfl | (simp [errW_none, errW_some] <;> rfl) | (simp [*, errW_none, errW_some] <;> rfl), by repeat (first | (with_reducible first | exact HI2.out | apply IsS3.alloc | apply IsS3.drewN | apply IsS3.drew | apply IsS3.set_0 | refine IsS3.far ?_ NB2_110.out _ | refine IsS3.far ?_ NB2_112.out _) | exact HI2.out), by repeat (first | (with_reducible first | exact HB.out | apply below_alloc | apply pw_below_drewN | apply below_drew1 | refine below_set ?_ (IsS3.ge HI2.out) | refine below_set ?_ GE110.out | refine below_set ?_ GE112.out) | exact HB.out), by repeat (first | (with_reducible first | exact HK.out | apply KeepBut.set_ | apply keep_drewN | apply keep_drew | apply keep_alloc | refine keep_far ?_ GW110.out _ | refine keep_far ?_ GW112.out _) | exact HK.out)⟩
       ·rw [if_neg c16] at H
        exact absurd H (by simp)
      ·rw [if_neg c15] at H
       exact absurd H (by simp)
     ·rw [if_neg c14] at H
      have c14b0 : decide (x25_1 < (l0_3.length : Int)) = false := decide_eq_false c14
      clear c14
      simp only [Option.some.injEq, Prod.mk.injEq] at H
      obtain ⟨rfl, rfl⟩ := H
      go_wp2
      go_ret
      exact ⟨by first | rfl | (simp [errW_none, errW_some] <;> rfl) | (simp [*, errW_none, errW_some] <;> rfl), by repeat (first | (with_reducible first | exact HI2.out | apply IsS3.alloc | apply IsS3.drewN | apply IsS3.drew | apply IsS3.set_0 | refine IsS3.far ?_ NB2_110.out _) | exact HI2.out), by repeat (first | (with_reducible first | exact HB.out | apply below_alloc | apply pw_below_drewN | apply below_drew1 | refine below_set ?_ (IsS3.ge HI2.out) | refine below_set ?_ GE110.out) | exact HB.out), by repeat (first | (with_reducible first | exact HK.out | apply KeepBut.set_ | apply keep_drewN | apply keep_drew | apply keep_alloc | refine keep_far ?_ GW110.out _) | exact HK.out)⟩
/-! ### expr_node: function 33 -/
mutual
def expr_node.j0 : Nat → Bool → Int → Int → Int → List (S24) → Option (Int)
 | 0, _, _, _, _, _ => none
 | k + 1, x3, x116000, x116001, x116002, x116003 => if x3 = true then (if x116000 = 1 then (if x116000 = 4 then (expr_node.j1 k false x116000 x116001 x116002 x116003) else (expr_node.j1 k (x116002 != 0) x116000 x116001 x116002 x116003)) else (if x116001 = 0 then (if x116000 = 4 then (expr_node.j1 k false x116000 x116001 x116002 x116003) else (expr_node.j1 k (x116002 != 0) x116000 x116001 x116002 x116003)) else (expr_node.j1 k true x116000 x116001 x116002 x116003))) else (expr_node.j1 k true x116000 x116001 x116002 x116003)
def expr_node.j1 : Nat → Bool → Int → Int → Int → List (S24) → Option (Int)
 | 0, _, _, _, _, _ => none
 | k + 1, x50, x116000, x116001, x116002, x116003 => if x50 = true then (some 1) else (if x116001 < 0 then (expr_node.j2 k true x116000 x116001 x116002 x116003) else (if x116001 ≥ 256 then (expr_node.j2 k true x116000 x116001 x116002 x116003) else (if x116002 < 0 then (expr_node.j2 k true x116000 x116001 x116002 x116003) else (expr_node.j2 k (decide (x116002 > 9)) x116000 x116001 x116002 x116003))))
def expr_node.j2 : Nat → Bool → Int → Int → Int → List (S24) → Option (Int)
 | 0, _, _, _, _, _ => none
 | k + 1, x68, x116000, x116001, x116002, x116003 => if x68 = true then (some 6) else (expr_node.l0 k x116003 (x116003.length : Int) 0)
def expr_node.l0 : Nat → List (S24) → Int → Int → Option (Int)
 | 0, _, _, _ => none
 | k + 1, x70, x71, x72 => if x72 < x71 then (if 0 ≤ x72 then (if x72 < (x70.length : Int) then ((expr_node.f k ((rd_T24 x70 x72).f0) ((rd_T24 x70 x72).f1) ((rd_T24 x70 x72).f2) ((rd_T24 x70 x72).f3)).bind fun t118 => (if t118 = 0 then (expr_node.l0 k x70 x71 (wrap64 (x72 + 1))) else (some t118))) else (none)) else (none)) else (some 0)
def expr_node.f : Nat → Int → Int → Int → List (S24) → Option (Int)
 | 0, _, _, _, _ => none
 | k + 1, a0_0, a0_1, a0_2, l0_3 => if a0_0 = 1 then (expr_node.j0 k ((l0_3.length : Int) == 0) a0_0 a0_1 a0_2 l0_3) else (if a0_0 = 2 then (expr_node.j0 k true a0_0 a0_1 a0_2 l0_3) else (if a0_0 = 3 then (expr_node.j0 k (decide ((l0_3.length : Int) ≥ 2)) a0_0 a0_1 a0_2 l0_3) else (if a0_0 = 4 then (expr_node.j0 k ((l0_3.length : Int) == 1) a0_0 a0_1 a0_2 l0_3) else (if a0_0 = 5 then (expr_node.j0 k ((l0_3.length : Int) == 1) a0_0 a0_1 a0_2 l0_3) else (if a0_0 = 6 then (expr_node.j0 k ((l0_3.length : Int) == 1) a0_0 a0_1 a0_2 l0_3) else (some 1))))))
end
theorem expr_node.mono_l : ∀ k, (∀ y0 y1 y2 y3, LeO (expr_node.f k y0 y1 y2 y3) (expr_node.f (k + 1) y0 y1 y2 y3)) ∧ (∀ y0 y1 y2 y3 y4, LeO (expr_node.j0 k y0 y1 y2 y3 y4) (expr_node.j0 (k + 1) y0 y1 y2 y3 y4)) ∧ (∀ y0 y1 y2 y3 y4, LeO (expr_node.j1 k y0 y1 y2 y3 y4) (expr_node.j1 (k + 1) y0 y1 y2 y3 y4)) ∧ (∀ y0 y1 y2 y3 y4, LeO (expr_node.j2 k y0 y1 y2 y3 y4) (expr_node.j2 (k + 1) y0 y1 y2 y3 y4)) ∧ (∀ y0 y1 y2, LeO (expr_node.l0 k y0 y1 y2) (expr_node.l0 (k + 1) y0 y1 y2))
 | 0 => ⟨fun _ _ _ _ r h => by simp [expr_node.f] at h, fun _ _ _ _ _ r h => by simp [expr_node.j0] at h, fun _ _ _ _ _ r h => by simp [expr_node.j1] at h, fun _ _ _ _ _ r h => by simp [expr_node.j2] at h, fun _ _ _ r h => by simp [expr_node.l0] at h⟩
 | k + 1 => by
  obtain ⟨ih0, ih1, ih2, ih3, ih4⟩ := expr_node.mono_l k
  refine ⟨?_, ?_, ?_, ?_, ?_⟩
  ·intro y0 y1 y2 y3
   unfold expr_node.f
   repeat' first
   | (with_reducible exact ih0 _ _ _ _)
   | (with_reducible exact ih1 _ _ _ _ _)
   | (with_reducible exact ih2 _ _ _ _ _)
   | (with_reducible exact ih3 _ _ _ _ _)
   | (with_reducible exact ih4 _ _ _)
   | (with_reducible exact LeO.refl _)
   | (with_reducible exact LeO.none _)
   | (with_reducible refine LeO.ite ?_ ?_)
   | (with_reducible refine LeO.bind ?_ (fun _ => ?_))
   | exact ih0 _ _ _ _
   | exact ih1 _ _ _ _ _
   | exact ih2 _ _ _ _ _
   | exact ih3 _ _ _ _ _
   | exact ih4 _ _ _
   | exact LeO.none _
   | refine LeO.ite ?_ ?_
   | refine LeO.bind ?_ (fun _ => ?_)
  ·intro y0 y1 y2 y3 y4
   unfold expr_node.j0
   repeat' first
   | (with_reducible exact ih0 _ _ _ _)
   | (with_reducible exact ih1 _ _ _ _ _)
   | (with_reducible exact ih2 _ _ _ _ _)
   | (with_reducible exact ih3 _ _ _ _ _)
   | (with_reducible exact ih4 _ _ _)
   | (with_reducible exact LeO.refl _)
   | (with_reducible exact LeO.none _)
   | (with_reducible refine LeO.ite ?_ ?_)
   | (with_reducible refine LeO.bind ?_ (fun _ => ?_))
   | exact ih0 _ _ _ _
   | exact ih1 _ _ _ _ _
   | exact ih2 _ _ _ _ _
   | exact ih3 _ _ _ _ _
   | exact ih4 _ _ _
   | exact LeO.none _
   | refine LeO.ite ?_ ?_
   | refine LeO.bind ?_ (fun _ => ?_)
  ·intro y0 y1 y2 y3 y4
   unfold expr_node.j1
   repeat' first
   | (with_reducible exact ih0 _ _ _ _)
   | (with_reducible exact ih1 _ _ _ _ _)
   | (with_reducible exact ih2 _ _ _ _ _)
   | (with_reducible exact ih3 _ _ _ _ _)
   | (with_reducible exact ih4 _ _ _)
   | (with_reducible exact LeO.refl _)
   | (with_reducible exact LeO.none _)
   | (with_reducible refine LeO.ite ?_ ?_)
   | (with_reducible refine LeO.bind ?_ (fun _ => ?_))
   | exact ih0 _ _ _ _
   | exact ih1 _ _ _ _ _
   | exact ih2 _ _ _ _ _
   | exact ih3 _ _ _ _ _
   | exact ih4 _ _ _
   | exact LeO.none _
   | refine LeO.ite ?_ ?_
   | refine LeO.bind ?_ (fun _ => ?_)
  ·intro y0 y1 y2 y3 y4
   unfold expr_node.j2
   repeat' first
   | (with_reducible exact ih0 _ _ _ _)
   | (with_reducible exact ih1 _ _ _ _ _)
   | (with_reducible exact ih2 _ _ _ _ _)
   | (with_reducible exact ih3 _ _ _ _ _)
   | (with_reducible exact ih4 _ _ _)
   | (with_reducible exact LeO.refl _)
   | (with_reducible exact LeO.none _)
   | (with_reducible refine LeO.ite ?_ ?_)
   | (with_reducible refine LeO.bind ?_ (fun _ => ?_))
   | exact ih0 _ _ _ _
   | exact ih1 _ _ _ _ _
   | exact ih2 _ _ _ _ _
   | exact ih3 _ _ _ _ _
   | exact ih4 _ _ _
   | exact LeO.none _
   | refine LeO.ite ?_ ?_
   | refine LeO.bind ?_ (fun _ => ?_)
  ·intro y0 y1 y2
   unfold expr_node.l0
   repeat' first
   | (with_reducible exact ih0 _ _ _ _)
   | (with_reducible exact ih1 _ _ _ _ _)
   | (with_reducible exact ih2 _ _ _ _ _)
   | (with_reducible exact ih3 _ _ _ _ _)
   | (with_reducible exact ih4 _ _ _)
   | (with_reducible exact LeO.refl _)
   | (with_reducible exact LeO.none _)
   | (with_reducible refine LeO.ite ?_ ?_)
   | (with_reducible refine LeO.bind ?_ (fun _ => ?_))
   | exact ih0 _ _ _ _
   | exact ih1 _ _ _ _ _
   | exact ih2 _ _ _ _ _
   | exact ih3 _ _ _ _ _
   | exact ih4 _ _ _
   | exact LeO.none _
   | refine LeO.ite ?_ ?_
   | refine LeO.bind ?_ (fun _ => ?_)
theorem expr_node.mono : ∀ a0 a1 a2 a3 k, LeO (expr_node.f k a0 a1 a2 a3) (expr_node.f (k + 1) a0 a1 a2 a3) := by
 intro a0 a1 a2 a3 k
 obtain ⟨ih0, ih1, ih2, ih3, ih4⟩ := expr_node.mono_l k
 exact ih0 a0 a1 a2 a3
set_option maxHeartbeats 8000000 in
set_option maxRecDepth 100000 in
theorem expr_node.calls (k : Nat) : ∀ (a0_0 : Int) (a0_1 : Int) (a0_2 : Int) (A0_3 : Option Addr) (c0_3 : Nat) (l0_3 : List (S24)) (r : Int) (w : World) (hr0_3 : Kd.C k24 w A0_3 l0_3.length l0_3) (hc0_3 : l0_3.length ≤ c0_3) (h : expr_node.f k a0_0 a0_1 a0_2 l0_3 = some r),
  Calls Try.prog 33 #[.agg #[.int .i64 a0_0, .int .i64 a0_1, .int .i64 a0_2, .slice A0_3 l0_3.length c0_3]] w fun e w' => e = .returned (.int .i64 r) ∧ Below w.heap.size w w' := by
 induction k using Nat.strongRecOn with
 | _ k ih =>
 intro a0_0 a0_1 a0_2 A0_3 c0_3 l0_3 r w hr0_3 hc0_3 h
 cases k with
 | zero => exact absurd h (by simp [expr_node.f])
 | succ k =>
 simp only [expr_node.f] at h
 have hu24 := Try.underlying24
 have hu22 := Try.underlying22
 have hu3 := Try.underlying3
 have HR0_3 := Aside0.mk hr0_3
 have HC0_3 := Aside0.mk hc0_3
 clear hr0_3 hc0_3
 have HB := Aside0.mk (Below.refl w.heap.size w)
 have H : (if a0_0 = 1 then (expr_node.j0 k ((l0_3.length : Int) == 0) a0_0 a0_1 a0_2 l0_3) else (if a0_0 = 2 then (expr_node.j0 k true a0_0 a0_1 a0_2 l0_3) else (if a0_0 = 3 then (expr_node.j0 k (decide ((l0_3.length : Int) ≥ 2)) a0_0 a0_1 a0_2 l0_3) else (if a0_0 = 4 then (expr_node.j0 k ((l0_3.length : Int) == 1) a0_0 a0_1 a0_2 l0_3) else (if a0_0 = 5 then (expr_node.j0 k ((l0_3.length : Int) == 1) a0_0 a0_1 a0_2 l0_3) else (if a0_0 = 6 then (expr_node.j0 k ((l0_3.length : Int) == 1) a0_0 a0_1 a0_2 l0_3) else (some 1))))))) = some r := h
 clear h
 have HC2 := Aside0.mk H
 clear H
 go_enter Try.func33, Try.ntmps33
 go_upto_block 0 with (first | ((with_reducible refine gate_dst (N := 1) rfl ?_); refine box_event ?hg (N := 1) ?hd (cs := #[.int .i64 a0_0, .int .i64 a0_1, .int .i64 a0_2, .slice A0_3 l0_3.length c0_3]) (t := 24) ?hr ?_; (case hd => rfl); (case hg => rfl); (case hr => first | (go_simp; done) | (go_simp; rfl)); intro gb115 hg w3 hbox hb; have n0_ := Aside0.mk (below_step zB hb); have n1_ := Aside0.mk (hbox); have n2_ := Aside0.mk ((by rw [hg]; exact (below_size zB) : w.heap.size ≤ gb115)); have n3_ := Aside0.mk ((by rw [hg]; exact (below_size zB) : w.heap.size ≤ gb115)); clear HB; have HB := n0_; have BK115 := n1_; have GW115 := n2_; have GE115 := n3_; clear n0_ n1_ n2_ n3_; clear hb hbox hg; have hcz4_0 : w3.cell? ⟨gb115, 0, none⟩ = some (.int .i64 a0_0) := (blk_cell BK115.out 0).trans rfl; have hcz4_1 : w3.cell? ⟨gb115, 1, none⟩ = some (.int .i64 a0_1) := (blk_cell BK115.out 1).trans rfl; have hcz4_2 : w3.cell? ⟨gb115, 2, none⟩ = some (.int .i64 a0_2) := (blk_cell BK115.out 2).trans rfl; have hcz4_3 : w3.cell? ⟨gb115, 3, none⟩ = some (.slice A0_3 l0_3.length c0_3) := (blk_cell BK115.out 3).trans rfl; have hfz4_0 := blk_frozen BK115.out 0; have hfz4_1 := blk_frozen BK115.out 1; have hfz4_2 := blk_frozen BK115.out 2; have hfz4_3 := blk_frozen BK115.out 3))
 (try simp only [Act.put, List.setIfInBounds_toArray, List.set_cons_zero, List.set_cons_succ])
 go_cut [3] (fun v3 wc => ∃ (kq : Nat) (x3_1 : Bool), v3 = .bool x3_1 ∧ Aside0 (expr_node.j0 kq x3_1 a0_0 a0_1 a0_2 l0_3 = some r) ∧ Aside0 (kq ≤ k) ∧ Aside0 (wc.heap[gb115]? = some (.cells #[.int .i64 a0_0, .int .i64 a0_1, .int .i64 a0_2, (.slice A0_3 l0_3.length c0_3)] 24 (0, 0))) ∧ Aside0 (Below w.heap.size w wc))
 case first =>
  have H := HC2.out
  clear HC2
  by_cases c5 : a0_0 = 1
  ·rw [if_pos c5] at H
   have c5b0 : (a0_0 == 1) = true := beq_iff_eq.mpr c5
   have c5b1 : (a0_0 != 1) = false := bne_eq_false_iff_eq.mpr c5
   clear c5
   (first | rw [c5b0] | (simp only [i64_w, i32_w]; rw [c5b0]) | skip)
   (try rw [c5b1])
   have H' := Aside0.mk H
   clear H
   go_wp2
   go_meet
   case rel => exact ⟨_, (((l0_3.length : Int) == 0)), zT, H', ⟨by first | omega | exact Nat.le_refl _⟩, ⟨by (with_reducible repeat (first | refine blk_drewN ?_ _ | refine blk_drew ?_ | refine blk_alloc ?_ _)); exact BK115.out⟩, ⟨by repeat (first | (with_reducible first | exact HB.out | apply below_alloc | apply pw_below_drewN | apply below_drew1 | refine below_set ?_ GE115.out) | exact HB.out)⟩⟩
  ·rw [if_neg c5] at H
   have c5b0 : (a0_0 == 1) = false := beq_eq_false_iff_ne.mpr c5
   have c5b1 : (a0_0 != 1) = true := bne_iff_ne.mpr c5
   (first | rw [c5b0] | (simp only [i64_w, i32_w]; rw [c5b0]) | skip)
   (try rw [c5b1])
   by_cases c6 : a0_0 = 2
   ·rw [if_pos c6] at H
    have c6b0 : (a0_0 == 2) = true := beq_iff_eq.mpr c6
    have c6b1 : (a0_0 != 2) = false := bne_eq_false_iff_eq.mpr c6
    clear c6
    have H' := Aside0.mk H
    clear H
    go_wp2
    go_meet
    case rel => exact ⟨_, (true), zT, H', ⟨by first | omega | exact Nat.le_refl _⟩, ⟨by (with_reducible repeat (first | refine blk_drewN ?_ _ | refine blk_drew ?_ | refine blk_alloc ?_ _)); exact BK115.out⟩, ⟨by repeat (first | (with_reducible first | exact HB.out | apply below_alloc | apply pw_below_drewN | apply below_drew1 | refine below_set ?_ GE115.out) | exact HB.out)⟩⟩
   ·rw [if_neg c6] at H
    have c6b0 : (a0_0 == 2) = false := beq_eq_false_iff_ne.mpr c6
    have c6b1 : (a0_0 != 2) = true := bne_iff_ne.mpr c6
    by_cases c7 : a0_0 = 3
    ·rw [if_pos c7] at H
     have c7b0 : (a0_0 == 3) = true := beq_iff_eq.mpr c7
     have c7b1 : (a0_0 != 3) = false := bne_eq_false_iff_eq.mpr c7
     clear c7
     have H' := Aside0.mk H
     clear H
     go_wp2
     go_meet
     case rel => exact ⟨_, (decide ((l0_3.length : Int) ≥ 2)), zT, H', ⟨by first | omega | exact Nat.le_refl _⟩, ⟨by (with_reducible repeat (first | refine blk_drewN ?_ _ | refine blk_drew ?_ | refine blk_alloc ?_ _)); exact BK115.out⟩, ⟨by repeat (first | (with_reducible first | exact HB.out | apply below_alloc | apply pw_below_drewN | apply below_drew1 | refine below_set ?_ GE115.out) | exact HB.out)⟩⟩
    ·rw [if_neg c7] at H
     have c7b0 : (a0_0 == 3) = false := beq_eq_false_iff_ne.mpr c7
     have c7b1 : (a0_0 != 3) = true := bne_iff_ne.mpr c7
     by_cases c8 : a0_0 = 4
     ·rw [if_pos c8] at H
      have c8b0 : (a0_0 == 4) = true := beq_iff_eq.mpr c8
      have c8b1 : (a0_0 != 4) = false := bne_eq_false_iff_eq.mpr c8
      clear c8
      have H' := Aside0.mk H
      clear H
      go_wp2
      go_meet
      case rel => exact ⟨_, (((l0_3.length : Int) == 1)), zT, H', ⟨by first | omega | exact Nat.le_refl _⟩, ⟨by (with_reducible repeat (first | refine blk_drewN ?_ _ | refine blk_drew ?_ | refine blk_alloc ?_ _)); exact BK115.out⟩, ⟨by repeat (first | (with_reducible first | exact HB.out | apply below_alloc | apply pw_below_drewN | apply below_drew1 | refine below_set ?_ GE115.out) | exact HB.out)⟩⟩
     ·rw [if_neg c8] at H
      have c8b0 : (a0_0 == 4) = false := beq_eq_false_iff_ne.mpr c8
      have c8b1 : (a0_0 != 4) = true := bne_iff_ne.mpr c8
      by_cases c9 : a0_0 = 5
      ·rw [if_pos c9] at H
       have c9b0 : (a0_0 == 5) = true := beq_iff_eq.mpr c9
       have c9b1 : (a0_0 != 5) = false := bne_eq_false_iff_eq.mpr c9
       clear c9
       have H' := Aside0.mk H
       clear H
       go_wp2
       go_meet
       case rel => exact ⟨_, (((l0_3.length : Int) == 1)), zT, H', ⟨by first | omega | exact Nat.le_refl _⟩, ⟨by (with_reducible repeat (first | refine blk_drewN ?_ _ | refine blk_drew ?_ | refine blk_alloc ?_ _)); exact BK115.out⟩, ⟨by repeat (first | (with_reducible first | exact HB.out | apply below_alloc | apply pw_below_drewN | apply below_drew1 | refine below_set ?_ GE115.out) | exact HB.out)⟩⟩
      ·rw [if_neg c9] at H
       have c9b0 : (a0_0 == 5) = false := beq_eq_false_iff_ne.mpr c9
       have c9b1 : (a0_0 != 5) = true := bne_iff_ne.mpr c9
       by_cases c10 : a0_0 = 6
       ·rw [if_pos c10] at H
        have c10b0 : (a0_0 == 6) = true := beq_iff_eq.mpr c10
        have c10b1 : (a0_0 != 6) = false := bne_eq_false_iff_eq.mpr c10
        clear c10
        have H' := Aside0.mk H
        clear H
        go_wp2
        go_meet
        case rel => exact ⟨_, (((l0_3.length : Int) == 1)), zT, H', ⟨by first | omega | exact Nat.le_refl _⟩, ⟨by (with_reducible repeat (first | refine blk_drewN ?_ _ | refine blk_drew ?_ | refine blk_alloc ?_ _)); exact BK115.out⟩, ⟨by repeat (first | (with_reducible first | exact HB.out | apply below_alloc | apply pw_below_drewN | apply below_drew1 | refine below_set ?_ GE115.out) | exact HB.out)⟩⟩
       ·rw [if_neg c10] at H
        have c10b0 : (a0_0 == 6) = false := beq_eq_false_iff_ne.mpr c10
        have c10b1 : (a0_0 != 6) = true := bne_iff_ne.mpr c10
        obtain rfl := Option.some.inj H
        go_wp2
        go_ret
        exact ⟨by first | rfl | (simp [errW_none, errW_some] <;> rfl) | (simp [*, errW_none, errW_some] <;> rfl), by repeat (first | (with_reducible first | exact HB.out | apply below_alloc | apply pw_below_drewN | apply below_drew1 | refine below_set ?_ GE115.out) | exact HB.out)⟩
 case rest =>
  clear HC2
  try clear hcz4_0
  try clear hcz4_1
  try clear hcz4_2
  try clear hcz4_3
  try clear hfz4_0
  try clear hfz4_1
  try clear hfz4_2
  try clear hfz4_3
  obtain ⟨kq, x3_1, rfl, HA, HJ1, BK115, HB⟩ := hcut
  cases kq with
  | zero => exact absurd HA.out (by simp [expr_node.j0])
  | succ kj1 =>
   have H := HA.out
   clear HA
   simp only [expr_node.j0] at H
   have HC11 := Aside0.mk H
   clear H
   go_upto_region 14 with (fail)
   go_cut [50] (fun v50 wc => ∃ (kq : Nat) (x50_10 : Bool), v50 = .bool x50_10 ∧ Aside0 (expr_node.j1 kq x50_10 a0_0 a0_1 a0_2 l0_3 = some r) ∧ Aside0 (kq ≤ kj1) ∧ Aside0 (wc.heap[gb115]? = some (.cells #[.int .i64 a0_0, .int .i64 a0_1, .int .i64 a0_2, (.slice A0_3 l0_3.length c0_3)] 24 (0, 0))) ∧ Aside0 (Below w.heap.size w wc))
   case first =>
    have H := HC11.out
    clear HC11
    by_cases c12 : x3_1 = true
    ·subst c12
     have H1 : (if a0_0 = 1 then (if a0_0 = 4 then (expr_node.j1 kj1 false a0_0 a0_1 a0_2 l0_3) else (expr_node.j1 kj1 (a0_2 != 0) a0_0 a0_1 a0_2 l0_3)) else (if a0_1 = 0 then (if a0_0 = 4 then (expr_node.j1 kj1 false a0_0 a0_1 a0_2 l0_3) else (expr_node.j1 kj1 (a0_2 != 0) a0_0 a0_1 a0_2 l0_3)) else (expr_node.j1 kj1 true a0_0 a0_1 a0_2 l0_3))) = some r := by rw [if_pos rfl] at H; exact H
     clear H
     have H := H1
     clear H1
     by_cases c13 : a0_0 = 1
     ·rw [if_pos c13] at H
      have c13b0 : (a0_0 == 1) = true := beq_iff_eq.mpr c13
      have c13b1 : (a0_0 != 1) = false := bne_eq_false_iff_eq.mpr c13
      clear c13
      (first | rw [c13b0] | (simp only [i64_w, i32_w]; rw [c13b0]) | skip)
      (try rw [c13b1])
      by_cases c14 : a0_0 = 4
      ·rw [if_pos c14] at H
       have c14b0 : (a0_0 == 4) = true := beq_iff_eq.mpr c14
       have c14b1 : (a0_0 != 4) = false := bne_eq_false_iff_eq.mpr c14
       clear c14
       have H' := Aside0.mk H
       clear H
       have hcz15_0 : wc.cell? ⟨gb115, 0, none⟩ = some (.int .i64 a0_0) := (blk_cell BK115.out 0).trans rfl
       have hcz15_1 : wc.cell? ⟨gb115, 1, none⟩ = some (.int .i64 a0_1) := (blk_cell BK115.out 1).trans rfl
       have hcz15_2 : wc.cell? ⟨gb115, 2, none⟩ = some (.int .i64 a0_2) := (blk_cell BK115.out 2).trans rfl
       have hcz15_3 : wc.cell? ⟨gb115, 3, none⟩ = some (.slice A0_3 l0_3.length c0_3) := (blk_cell BK115.out 3).trans rfl
       have hfz15_0 := blk_frozen BK115.out 0
       have hfz15_1 := blk_frozen BK115.out 1
       have hfz15_2 := blk_frozen BK115.out 2
       have hfz15_3 := blk_frozen BK115.out 3
       go_wp2
       go_meet
       case rel => exact ⟨_, (false), zT, H', ⟨by have := HJ1.out; first | omega | exact Nat.le_refl _⟩, ⟨by (with_reducible repeat (first | refine blk_drewN ?_ _ | refine blk_drew ?_ | refine blk_alloc ?_ _)); exact BK115.out⟩, ⟨by repeat (first | (with_reducible first | exact HB.out | apply below_alloc | apply pw_below_drewN | apply below_drew1 | refine below_set ?_ GE115.out) | exact HB.out)⟩⟩
      ·rw [if_neg c14] at H
       have c14b0 : (a0_0 == 4) = false := beq_eq_false_iff_ne.mpr c14
       have c14b1 : (a0_0 != 4) = true := bne_iff_ne.mpr c14
       have H' := Aside0.mk H
       clear H
       have hcz16_0 : wc.cell? ⟨gb115, 0, none⟩ = some (.int .i64 a0_0) := (blk_cell BK115.out 0).trans rfl
       have hcz16_1 : wc.cell? ⟨gb115, 1, none⟩ = some (.int .i64 a0_1) := (blk_cell BK115.out 1).trans rfl
       have hcz16_2 : wc.cell? ⟨gb115, 2, none⟩ = some (.int .i64 a0_2) := (blk_cell BK115.out 2).trans rfl
       have hcz16_3 : wc.cell? ⟨gb115, 3, none⟩ = some (.slice A0_3 l0_3.length c0_3) := (blk_cell BK115.out 3).trans rfl
       have hfz16_0 := blk_frozen BK115.out 0
       have hfz16_1 := blk_frozen BK115.out 1
       have hfz16_2 := blk_frozen BK115.out 2
       have hfz16_3 := blk_frozen BK115.out 3
       go_wp2
       go_meet
       case rel => exact ⟨_, ((a0_2 != 0)), zT, H', ⟨by have := HJ1.out; first | omega | exact Nat.le_refl _⟩, ⟨by (with_reducible repeat (first | refine blk_drewN ?_ _ | refine blk_drew ?_ | refine blk_alloc ?_ _)); exact BK115.out⟩, ⟨by repeat (first | (with_reducible first | exact HB.out | apply below_alloc | apply pw_below_drewN | apply below_drew1 | refine below_set ?_ GE115.out) | exact HB.out)⟩⟩
     ·rw [if_neg c13] at H
      have c13b0 : (a0_0 == 1) = false := beq_eq_false_iff_ne.mpr c13
      have c13b1 : (a0_0 != 1) = true := bne_iff_ne.mpr c13
      (first | rw [c13b0] | (simp only [i64_w, i32_w]; rw [c13b0]) | skip)
      (try rw [c13b1])
      by_cases c17 : a0_1 = 0
      ·rw [if_pos c17] at H
       have c17b0 : (a0_1 == 0) = true := beq_iff_eq.mpr c17
       have c17b1 : (a0_1 != 0) = false := bne_eq_false_iff_eq.mpr c17
       clear c17
       by_cases c18 : a0_0 = 4
       ·rw [if_pos c18] at H
        have c18b0 : (a0_0 == 4) = true := beq_iff_eq.mpr c18
        have c18b1 : (a0_0 != 4) = false := bne_eq_false_iff_eq.mpr c18
        clear c18
        have H' := Aside0.mk H
        clear H
        have hcz19_0 : wc.cell? ⟨gb115, 0, none⟩ = some (.int .i64 a0_0) := (blk_cell BK115.out 0).trans rfl
        have hcz19_1 : wc.cell? ⟨gb115, 1, none⟩ = some (.int .i64 a0_1) := (blk_cell BK115.out 1).trans rfl
        have hcz19_2 : wc.cell? ⟨gb115, 2, none⟩ = some (.int .i64 a0_2) := (blk_cell BK115.out 2).trans rfl
        have hcz19_3 : wc.cell? ⟨gb115, 3, none⟩ = some (.slice A0_3 l0_3.length c0_3) := (blk_cell BK115.out 3).trans rfl
        have hfz19_0 := blk_frozen BK115.out 0
        have hfz19_1 := blk_frozen BK115.out 1
        have hfz19_2 := blk_frozen BK115.out 2
        have hfz19_3 := blk_frozen BK115.out 3
        go_wp2
        go_meet
        case rel => exact ⟨_, (false), zT, H', ⟨by have := HJ1.out; first | omega | exact Nat.le_refl _⟩, ⟨by (with_reducible repeat (first | refine blk_drewN ?_ _ | refine blk_drew ?_ | refine blk_alloc ?_ _)); exact BK115.out⟩, ⟨by repeat (first | (with_reducible first | exact HB.out | apply below_alloc | apply pw_below_drewN | apply below_drew1 | refine below_set ?_ GE115.out) | exact HB.out)⟩⟩
       ·rw [if_neg c18] at H
        have c18b0 : (a0_0 == 4) = false := beq_eq_false_iff_ne.mpr c18
        have c18b1 : (a0_0 != 4) = true := bne_iff_ne.mpr c18
        have H' := Aside0.mk H
        clear H
        have hcz20_0 : wc.cell? ⟨gb115, 0, none⟩ = some (.int .i64 a0_0) := (blk_cell BK115.out 0).trans rfl
        have hcz20_1 : wc.cell? ⟨gb115, 1, none⟩ = some (.int .i64 a0_1) := (blk_cell BK115.out 1).trans rfl
        have hcz20_2 : wc.cell? ⟨gb115, 2, none⟩ = some (.int .i64 a0_2) := (blk_cell BK115.out 2).trans rfl
        have hcz20_3 : wc.cell? ⟨gb115, 3, none⟩ = some (.slice A0_3 l0_3.length c0_3) := (blk_cell BK115.out 3).trans rfl
        have hfz20_0 := blk_frozen BK115.out 0
        have hfz20_1 := blk_frozen BK115.out 1
        have hfz20_2 := blk_frozen BK115.out 2
        have hfz20_3 := blk_frozen BK115.out 3
        go_wp2
        go_meet
        case rel => exact ⟨_, ((a0_2 != 0)), zT, H', ⟨by have := HJ1.out; first | omega | exact Nat.le_refl _⟩, ⟨by (with_reducible repeat (first | refine blk_drewN ?_ _ | refine blk_drew ?_ | refine blk_alloc ?_ _)); exact BK115.out⟩, ⟨by repeat (first | (with_reducible first | exact HB.out | apply below_alloc | apply pw_below_drewN | apply below_drew1 | refine below_set ?_ GE115.out) | exact HB.out)⟩⟩
      ·rw [if_neg c17] at H
       have c17b0 : (a0_1 == 0) = false := beq_eq_false_iff_ne.mpr c17
       have c17b1 : (a0_1 != 0) = true := bne_iff_ne.mpr c17
       have H' := Aside0.mk H
       clear H
       have hcz21_0 : wc.cell? ⟨gb115, 0, none⟩ = some (.int .i64 a0_0) := (blk_cell BK115.out 0).trans rfl
       have hcz21_1 : wc.cell? ⟨gb115, 1, none⟩ = some (.int .i64 a0_1) := (blk_cell BK115.out 1).trans rfl
       have hcz21_2 : wc.cell? ⟨gb115, 2, none⟩ = some (.int .i64 a0_2) := (blk_cell BK115.out 2).trans rfl
       have hcz21_3 : wc.cell? ⟨gb115, 3, none⟩ = some (.slice A0_3 l0_3.length c0_3) := (blk_cell BK115.out 3).trans rfl
       have hfz21_0 := blk_frozen BK115.out 0
       have hfz21_1 := blk_frozen BK115.out 1
       have hfz21_2 := blk_frozen BK115.out 2
       have hfz21_3 := blk_frozen BK115.out 3
       go_wp2
       go_meet
       case rel => exact ⟨_, (true), zT, H', ⟨by have := HJ1.out; first | omega | exact Nat.le_refl _⟩, ⟨by (with_reducible repeat (first | refine blk_drewN ?_ _ | refine blk_drew ?_ | refine blk_alloc ?_ _)); exact BK115.out⟩, ⟨by repeat (first | (with_reducible first | exact HB.out | apply below_alloc | apply pw_below_drewN | apply below_drew1 | refine below_set ?_ GE115.out) | exact HB.out)⟩⟩
    ·replace c12 := Bool.eq_false_iff.mpr c12
     subst c12
     have H1 : (expr_node.j1 kj1 true a0_0 a0_1 a0_2 l0_3) = some r := by rw [if_neg (show ¬ (false = true) by decide)] at H; exact H
     clear H
     have H := H1
     clear H1
     have H' := Aside0.mk H
     clear H
     go_wp2
     go_meet
     case rel => exact ⟨_, (true), zT, H', ⟨by have := HJ1.out; first | omega | exact Nat.le_refl _⟩, ⟨by (with_reducible repeat (first | refine blk_drewN ?_ _ | refine blk_drew ?_ | refine blk_alloc ?_ _)); exact BK115.out⟩, ⟨by repeat (first | (with_reducible first | exact HB.out | apply below_alloc | apply pw_below_drewN | apply below_drew1 | refine below_set ?_ GE115.out) | exact HB.out)⟩⟩
   case rest =>
    clear HC11
    try clear hcz4_0
    try clear hcz4_1
    try clear hcz4_2
    try clear hcz4_3
    try clear hfz4_0
    try clear hfz4_1
    try clear hfz4_2
    try clear hfz4_3
    obtain ⟨kq, x50_10, rfl, HA, HJ10, BK115, HB⟩ := hcut
    cases kq with
    | zero => exact absurd HA.out (by simp [expr_node.j1])
    | succ kj10 =>
     have H := HA.out
     clear HA
     simp only [expr_node.j1] at H
     by_cases c22 : x50_10 = true
     ·subst c22
      have H1 : (some 1) = some r := by rw [if_pos rfl] at H; exact H
      clear H
      have H := H1
      clear H1
      obtain rfl := Option.some.inj H
      go_wp2
      go_ret
      exact ⟨by first | rfl | (simp [errW_none, errW_some] <;> rfl) | (simp [*, errW_none, errW_some] <;> rfl), by repeat (first | (with_reducible first | exact HB.out | apply below_alloc | apply pw_below_drewN | apply below_drew1 | refine below_set ?_ GE115.out) | exact HB.out)⟩
     ·replace c22 := Bool.eq_false_iff.mpr c22
      subst c22
      have H1 : (if a0_1 < 0 then (expr_node.j2 kj10 true a0_0 a0_1 a0_2 l0_3) else (if a0_1 ≥ 256 then (expr_node.j2 kj10 true a0_0 a0_1 a0_2 l0_3) else (if a0_2 < 0 then (expr_node.j2 kj10 true a0_0 a0_1 a0_2 l0_3) else (expr_node.j2 kj10 (decide (a0_2 > 9)) a0_0 a0_1 a0_2 l0_3)))) = some r := by rw [if_neg (show ¬ (false = true) by decide)] at H; exact H
      clear H
      have H := H1
      clear H1
      have HC23 := Aside0.mk H
      clear H
      go_upto_region 16 with (fail)
      go_cut [68] (fun v68 wc => ∃ (kq : Nat) (x68_22 : Bool), v68 = .bool x68_22 ∧ Aside0 (expr_node.j2 kq x68_22 a0_0 a0_1 a0_2 l0_3 = some r) ∧ Aside0 (kq ≤ kj10) ∧ Aside0 (wc.heap[gb115]? = some (.cells #[.int .i64 a0_0, .int .i64 a0_1, .int .i64 a0_2, (.slice A0_3 l0_3.length c0_3)] 24 (0, 0))) ∧ Aside0 (Below w.heap.size w wc))
      case first =>
       have H := HC23.out
       clear HC23
       by_cases c24 : a0_1 < 0
       ·rw [if_pos c24] at H
        have c24b0 : decide (a0_1 < 0) = true := decide_eq_true c24
        clear c24
        (first | rw [c24b0] | (simp only [i64_w, i32_w]; rw [c24b0]) | skip)
        have H' := Aside0.mk H
        clear H
        have hcz25_0 : wc.cell? ⟨gb115, 0, none⟩ = some (.int .i64 a0_0) := (blk_cell BK115.out 0).trans rfl
        have hcz25_1 : wc.cell? ⟨gb115, 1, none⟩ = some (.int .i64 a0_1) := (blk_cell BK115.out 1).trans rfl
        have hcz25_2 : wc.cell? ⟨gb115, 2, none⟩ = some (.int .i64 a0_2) := (blk_cell BK115.out 2).trans rfl
        have hcz25_3 : wc.cell? ⟨gb115, 3, none⟩ = some (.slice A0_3 l0_3.length c0_3) := (blk_cell BK115.out 3).trans rfl
        have hfz25_0 := blk_frozen BK115.out 0
        have hfz25_1 := blk_frozen BK115.out 1
        have hfz25_2 := blk_frozen BK115.out 2
        have hfz25_3 := blk_frozen BK115.out 3
        go_wp2
        go_meet
        case rel => exact ⟨_, (true), zT, H', ⟨by have := HJ1.out; have := HJ10.out; first | omega | exact Nat.le_refl _⟩, ⟨by (with_reducible repeat (first | refine blk_drewN ?_ _ | refine blk_drew ?_ | refine blk_alloc ?_ _)); exact BK115.out⟩, ⟨by repeat (first | (with_reducible first | exact HB.out | apply below_alloc | apply pw_below_drewN | apply below_drew1 | refine below_set ?_ GE115.out) | exact HB.out)⟩⟩
       ·rw [if_neg c24] at H
        have c24b0 : decide (a0_1 < 0) = false := decide_eq_false c24
        clear c24
        (first | rw [c24b0] | (simp only [i64_w, i32_w]; rw [c24b0]) | skip)
        by_cases c26 : a0_1 ≥ 256
        ·rw [if_pos c26] at H
         have c26b0 : decide (256 ≤ a0_1) = true := decide_eq_true c26
         clear c26
         have H' := Aside0.mk H
         clear H
         have hcz27_0 : wc.cell? ⟨gb115, 0, none⟩ = some (.int .i64 a0_0) := (blk_cell BK115.out 0).trans rfl
         have hcz27_1 : wc.cell? ⟨gb115, 1, none⟩ = some (.int .i64 a0_1) := (blk_cell BK115.out 1).trans rfl
         have hcz27_2 : wc.cell? ⟨gb115, 2, none⟩ = some (.int .i64 a0_2) := (blk_cell BK115.out 2).trans rfl
         have hcz27_3 : wc.cell? ⟨gb115, 3, none⟩ = some (.slice A0_3 l0_3.length c0_3) := (blk_cell BK115.out 3).trans rfl
         have hfz27_0 := blk_frozen BK115.out 0
         have hfz27_1 := blk_frozen BK115.out 1
         have hfz27_2 := blk_frozen BK115.out 2
         have hfz27_3 := blk_frozen BK115.out 3
         go_wp2
         go_meet
         case rel => exact ⟨_, (true), zT, H', ⟨by have := HJ1.out; have := HJ10.out; first | omega | exact Nat.le_refl _⟩, ⟨by (with_reducible repeat (first | refine blk_drewN ?_ _ | refine blk_drew ?_ | refine blk_alloc ?_ _)); exact BK115.out⟩, ⟨by repeat (first | (with_reducible first | exact HB.out | apply below_alloc | apply pw_below_drewN | apply below_drew1 | refine below_set ?_ GE115.out) | exact HB.out)⟩⟩
        ·rw [if_neg c26] at H
         have c26b0 : decide (256 ≤ a0_1) = false := decide_eq_false c26
         clear c26
         by_cases c28 : a0_2 < 0
         ·rw [if_pos c28] at H
          have c28b0 : decide (a0_2 < 0) = true := decide_eq_true c28
          clear c28
          have H' := Aside0.mk H
          clear H
          have hcz29_0 : wc.cell? ⟨gb115, 0, none⟩ = some (.int .i64 a0_0) := (blk_cell BK115.out 0).trans rfl
          have hcz29_1 : wc.cell? ⟨gb115, 1, none⟩ = some (.int .i64 a0_1) := (blk_cell BK115.out 1).trans rfl
          have hcz29_2 : wc.cell? ⟨gb115, 2, none⟩ = some (.int .i64 a0_2) := (blk_cell BK115.out 2).trans rfl
          have hcz29_3 : wc.cell? ⟨gb115, 3, none⟩ = some (.slice A0_3 l0_3.length c0_3) := (blk_cell BK115.out 3).trans rfl
          have hfz29_0 := blk_frozen BK115.out 0
          have hfz29_1 := blk_frozen BK115.out 1
          have hfz29_2 := blk_frozen BK115.out 2
          have hfz29_3 := blk_frozen BK115.out 3
          go_wp2
          go_meet
          case rel => exact ⟨_, (true), zT, H', ⟨by have := HJ1.out; have := HJ10.out; first | omega | exact Nat.le_refl _⟩, ⟨by (with_reducible repeat (first | refine blk_drewN ?_ _ | refine blk_drew ?_ | refine blk_alloc ?_ _)); exact BK115.out⟩, ⟨by repeat (first | (with_reducible first | exact HB.out | apply below_alloc | apply pw_below_drewN | apply below_drew1 | refine below_set ?_ GE115.out) | exact HB.out)⟩⟩
         ·rw [if_neg c28] at H
          have c28b0 : decide (a0_2 < 0) = false := decide_eq_false c28
          clear c28
          have H' := Aside0.mk H
          clear H
          have hcz30_0 : wc.cell? ⟨gb115, 0, none⟩ = some (.int .i64 a0_0) := (blk_cell BK115.out 0).trans rfl
          have hcz30_1 : wc.cell? ⟨gb115, 1, none⟩ = some (.int .i64 a0_1) := (blk_cell BK115.out 1).trans rfl
          have hcz30_2 : wc.cell? ⟨gb115, 2, none⟩ = some (.int .i64 a0_2) := (blk_cell BK115.out 2).trans rfl
          have hcz30_3 : wc.cell? ⟨gb115, 3, none⟩ = some (.slice A0_3 l0_3.length c0_3) := (blk_cell BK115.out 3).trans rfl
          have hfz30_0 := blk_frozen BK115.out 0
          have hfz30_1 := blk_frozen BK115.out 1
          have hfz30_2 := blk_frozen BK115.out 2
          have hfz30_3 := blk_frozen BK115.out 3
          go_wp2
          go_meet
          case rel => exact ⟨_, (decide (a0_2 > 9)), zT, H', ⟨by have := HJ1.out; have := HJ10.out; first | omega | exact Nat.le_refl _⟩, ⟨by (with_reducible repeat (first | refine blk_drewN ?_ _ | refine blk_drew ?_ | refine blk_alloc ?_ _)); exact BK115.out⟩, ⟨by repeat (first | (with_reducible first | exact HB.out | apply below_alloc | apply pw_below_drewN | apply below_drew1 | refine below_set ?_ GE115.out) | exact HB.out)⟩⟩
      case rest =>
       clear HC23
       try clear c22
       try clear hcz4_0
       try clear hcz4_1
       try clear hcz4_2
       try clear hcz4_3
       try clear hfz4_0
       try clear hfz4_1
       try clear hfz4_2
       try clear hfz4_3
       obtain ⟨kq, x68_22, rfl, HA, HJ22, BK115, HB⟩ := hcut
       cases kq with
       | zero => exact absurd HA.out (by simp [expr_node.j2])
       | succ kj22 =>
        have H := HA.out
        clear HA
        simp only [expr_node.j2] at H
        by_cases c31 : x68_22 = true
        ·subst c31
         have H1 : (some 6) = some r := by rw [if_pos rfl] at H; exact H
         clear H
         have H := H1
         clear H1
         obtain rfl := Option.some.inj H
         go_wp2
         go_ret
         exact ⟨by first | rfl | (simp [errW_none, errW_some] <;> rfl) | (simp [*, errW_none, errW_some] <;> rfl), by repeat (first | (with_reducible first | exact HB.out | apply below_alloc | apply pw_below_drewN | apply below_drew1 | refine below_set ?_ GE115.out) | exact HB.out)⟩
        ·replace c31 := Bool.eq_false_iff.mpr c31
         subst c31
         have H1 : (expr_node.l0 kj22 l0_3 (l0_3.length : Int) 0) = some r := by rw [if_neg (show ¬ (false = true) by decide)] at H; exact H
         clear H
         have H := H1
         clear H1
         have H' := Aside0.mk H
         clear H
         have hcz32_0 : wc.cell? ⟨gb115, 0, none⟩ = some (.int .i64 a0_0) := (blk_cell BK115.out 0).trans rfl
         have hcz32_1 : wc.cell? ⟨gb115, 1, none⟩ = some (.int .i64 a0_1) := (blk_cell BK115.out 1).trans rfl
         have hcz32_2 : wc.cell? ⟨gb115, 2, none⟩ = some (.int .i64 a0_2) := (blk_cell BK115.out 2).trans rfl
         have hcz32_3 : wc.cell? ⟨gb115, 3, none⟩ = some (.slice A0_3 l0_3.length c0_3) := (blk_cell BK115.out 3).trans rfl
         have hfz32_0 := blk_frozen BK115.out 0
         have hfz32_1 := blk_frozen BK115.out 1
         have hfz32_2 := blk_frozen BK115.out 2
         have hfz32_3 := blk_frozen BK115.out 3
         go_wp2
         go_loopg [72] kj22 (fun kq v72 w' => ∃ (x72_4 : Int), v72 = .int .i64 x72_4 ∧ Aside0 (expr_node.l0 kq l0_3 (l0_3.length : Int) x72_4 = some r) ∧ Aside0 (kq ≤ kj22) ∧ Aside0 (w'.heap[gb115]? = some (.cells #[.int .i64 a0_0, .int .i64 a0_1, .int .i64 a0_2, (.slice A0_3 l0_3.length c0_3)] 24 (0, 0))) ∧ Aside0 (Below w.heap.size w w'))
         case atStart => exact ⟨(0), zT, H', ⟨Nat.le_refl _⟩, ⟨by (with_reducible repeat (first | refine blk_drewN ?_ _ | refine blk_drew ?_ | refine blk_alloc ?_ _)); exact BK115.out⟩, ⟨by repeat (first | (with_reducible first | exact HB.out | apply below_alloc | apply pw_below_drewN | apply below_drew1 | refine below_set ?_ GE115.out) | exact HB.out)⟩⟩
         case round =>
          clear H'
          try clear c22
          try clear c31
          try clear hcz32_0
          try clear hcz32_1
          try clear hcz32_2
          try clear hcz32_3
          try clear hcz4_0
          try clear hcz4_1
          try clear hcz4_2
          try clear hcz4_3
          try clear hfz32_0
          try clear hfz32_1
          try clear hfz32_2
          try clear hfz32_3
          try clear hfz4_0
          try clear hfz4_1
          try clear hfz4_2
          try clear hfz4_3
          obtain ⟨x72_4, rfl, HA, HK4, BK115, HB⟩ := hrel
          cases gk with
          | zero => exact absurd HA.out (by simp [expr_node.l0])
          | succ k4 =>
           have H := HA.out
           clear HA
           simp only [expr_node.l0] at H
           by_cases c33 : x72_4 < (l0_3.length : Int)
           ·rw [if_pos c33] at H
            have c33b0 : decide (x72_4 < (l0_3.length : Int)) = true := decide_eq_true c33
            clear c33
            by_cases c34 : 0 ≤ x72_4
            ·rw [if_pos c34] at H
             have c34b0 : decide (0 ≤ x72_4) = true := decide_eq_true c34
             clear c34
             by_cases c35 : x72_4 < (l0_3.length : Int)
             ·rw [if_pos c35] at H
              have c35b0 : decide (x72_4 < (l0_3.length : Int)) = true := decide_eq_true c35
              clear c35
              replace H := Option.bind_eq_some_iff.mp H
              obtain ⟨t118, A360, H⟩ := H
              replace H : (if t118 = 0 then (expr_node.l0 k4 l0_3 (l0_3.length : Int) (wrap64 (x72_4 + 1))) else (some t118)) = some r := H
              have A36 := Aside0.mk A360
              clear A360
              have HC37 := Aside0.mk H
              clear H
              have p116 : 0 ≤ (x72_4 : Int) := of_decide_eq_true zh
              have q116 : x72_4 < (l0_3.length : Int) := of_decide_eq_true zh
              obtain ⟨ad116, A116_3, c116_3, e116, hx116_0, hx116_1, hx116_2, hx116_3, hl116_3, hi116_3⟩ := at_T24 HR0_3.out x72_4 p116 q116
              cases e116
              replace hx116_0 := (HB.out.cell (World.block_lt_of_cell? w _ hx116_0)).trans hx116_0
              replace hx116_1 := (HB.out.cell (World.block_lt_of_cell? w _ hx116_1)).trans hx116_1
              replace hx116_2 := (HB.out.cell (World.block_lt_of_cell? w _ hx116_2)).trans hx116_2
              replace hx116_3 := (HB.out.cell (World.block_lt_of_cell? w _ hx116_3)).trans hx116_3
              have HR116_3 := Aside0.mk hi116_3
              have HC116_3 := Aside0.mk hl116_3
              clear hi116_3 hl116_3
              replace p116 := eq_true p116
              replace q116 := eq_true q116
              go_upto_if 79 with (first | ((with_reducible refine gate_dst (N := 6) rfl ?_); refine box_event ?hg (N := 6) ?hd (cs := #[.int .i64 0, .int .i64 0, .int .i64 0, .slice none 0 0]) (t := 24) ?hr ?_; (case hd => rfl); (case hg => rfl); (case hr => first | (go_simp; done) | (go_simp; rfl)); intro gb117 hg w38 hbox hb; have n0_ := Aside0.mk (blk_below (g := gb115) (o := .cells #[.int .i64 a0_0, .int .i64 a0_1, .int .i64 a0_2, .slice (some ad116) l0_3.length c0_3] 24 (0, 0)) (zk BK115) hb); have n1_ := Aside0.mk (below_step zB hb); have n2_ := Aside0.mk (hbox); have n3_ := Aside0.mk ((by rw [hg]; exact (below_size zB) : w.heap.size ≤ gb117)); have n4_ := Aside0.mk ((by rw [hg]; exact (below_size zB) : w.heap.size ≤ gb117)); have n5_ := Aside0.mk ((by rw [hg]; exact Nat.ne_of_lt (blk_lt (g := gb115) (o := .cells #[.int .i64 a0_0, .int .i64 a0_1, .int .i64 a0_2, .slice (some ad116) l0_3.length c0_3] 24 (0, 0)) (zk BK115)) : gb115 ≠ gb117)); have n6_ := Aside0.mk ((by rw [hg]; exact Nat.ne_of_gt (blk_lt (g := gb115) (o := .cells #[.int .i64 a0_0, .int .i64 a0_1, .int .i64 a0_2, .slice (some ad116) l0_3.length c0_3] 24 (0, 0)) (zk BK115)) : gb117 ≠ gb115)); clear BK115; clear HB; have BK115 := n0_; have HB := n1_; have BK117 := n2_; have GW117 := n3_; have GE117 := n4_; have NB115_117 := n5_; have NB117_115 := n6_; clear n0_ n1_ n2_ n3_ n4_ n5_ n6_; clear hb hbox hg; have hnb39 := NB117_115.out; have hnc39 := NB115_117.out; have hcz40_0 : w38.cell? ⟨gb117, 0, none⟩ = some (.int .i64 0) := (blk_cell BK117.out 0).trans rfl; have hcz40_1 : w38.cell? ⟨gb117, 1, none⟩ = some (.int .i64 0) := (blk_cell BK117.out 1).trans rfl; have hcz40_2 : w38.cell? ⟨gb117, 2, none⟩ = some (.int .i64 0) := (blk_cell BK117.out 2).trans rfl; have hcz40_3 : w38.cell? ⟨gb117, 3, none⟩ = some (.slice none 0 0) := (blk_cell BK117.out 3).trans rfl; have hfz40_0 := blk_frozen BK117.out 0; have hfz40_1 := blk_frozen BK117.out 1; have hfz40_2 := blk_frozen BK117.out 2; have hfz40_3 := blk_frozen BK117.out 3) | ((with_reducible refine gate_callee (f := 33) rfl ?_); refine goesL_ (some 77) rfl rfl Try.func33 zK rfl #[.agg #[.int .i64 ((rd_T24 l0_3 x72_4).f0), .int .i64 ((rd_T24 l0_3 x72_4).f1), .int .i64 ((rd_T24 l0_3 x72_4).f2), .slice A116_3 ((rd_T24 l0_3 x72_4).f3).length c116_3]] rfl zM ?_; (with_reducible refine (ih k4 (by have := HJ1.out; have := HJ10.out; have := HJ22.out; have := HK4.out; omega) ((rd_T24 l0_3 x72_4).f0) ((rd_T24 l0_3 x72_4).f1) ((rd_T24 l0_3 x72_4).f2) _ _ ((rd_T24 l0_3 x72_4).f3) t118 _ ?side1 ?side2 A36.out).mono ?_); (case side1 => exact Kd.C_below HR116_3.out zB); (case side2 => exact HC116_3.out); rintro e w41 ⟨rfl, hb⟩; refine ⟨_, rfl, ?_⟩; have n0_ := Aside0.mk (blk_below (g := gb115) (o := .cells #[.int .i64 a0_0, .int .i64 a0_1, .int .i64 a0_2, .slice (some ad116) l0_3.length c0_3] 24 (0, 0)) (by (with_reducible repeat (first | refine blk_drewN ?_ _ | refine blk_drew ?_ | refine blk_alloc ?_ _)); refine blk_far ?_ NB115_117.out _; (with_reducible repeat (first | refine blk_drewN ?_ _ | refine blk_drew ?_ | refine blk_alloc ?_ _)); refine blk_far ?_ NB115_117.out _; (with_reducible repeat (first | refine blk_drewN ?_ _ | refine blk_drew ?_ | refine blk_alloc ?_ _)); refine blk_far ?_ NB115_117.out _; (with_reducible repeat (first | refine blk_drewN ?_ _ | refine blk_drew ?_ | refine blk_alloc ?_ _)); refine blk_far ?_ NB115_117.out _; (with_reducible repeat (first | refine blk_drewN ?_ _ | refine blk_drew ?_ | refine blk_alloc ?_ _)); exact BK115.out) hb); have n1_ := Aside0.mk (blk_below (g := gb117) (o := .cells #[.int .i64 ((rd_T24 l0_3 x72_4).f0), .int .i64 ((rd_T24 l0_3 x72_4).f1), .int .i64 ((rd_T24 l0_3 x72_4).f2), .slice A116_3 ((rd_T24 l0_3 x72_4).f3).length c116_3] 24 (0, 0)) (by (with_reducible repeat (first | refine blk_drewN ?_ _ | refine blk_drew ?_ | refine blk_alloc ?_ _)); refine blk_put (cs := #[.int .i64 ((rd_T24 l0_3 x72_4).f0), .int .i64 ((rd_T24 l0_3 x72_4).f1), .int .i64 ((rd_T24 l0_3 x72_4).f2), .slice none 0 0]) ?_ 3 _ rfl; (with_reducible repeat (first | refine blk_drewN ?_ _ | refine blk_drew ?_ | refine blk_alloc ?_ _)); refine blk_put (cs := #[.int .i64 ((rd_T24 l0_3 x72_4).f0), .int .i64 ((rd_T24 l0_3 x72_4).f1), .int .i64 0, .slice none 0 0]) ?_ 2 _ rfl; (with_reducible repeat (first | refine blk_drewN ?_ _ | refine blk_drew ?_ | refine blk_alloc ?_ _)); refine blk_put (cs := #[.int .i64 ((rd_T24 l0_3 x72_4).f0), .int .i64 0, .int .i64 0, .slice none 0 0]) ?_ 1 _ rfl; (with_reducible repeat (first | refine blk_drewN ?_ _ | refine blk_drew ?_ | refine blk_alloc ?_ _)); refine blk_put (cs := #[.int .i64 0, .int .i64 0, .int .i64 0, .slice none 0 0]) ?_ 0 _ rfl; (with_reducible repeat (first | refine blk_drewN ?_ _ | refine blk_drew ?_ | refine blk_alloc ?_ _)); exact BK117.out) hb); have n2_ := Aside0.mk (below_step zB hb); clear BK115; clear BK117; clear HB; have BK115 := n0_; have BK117 := n1_; have HB := n2_; clear n0_ n1_ n2_; (try clear hb); (try clear hb2); (try clear hk); (try clear hi)))
              (try simp only [Act.put, List.setIfInBounds_toArray, List.set_cons_zero, List.set_cons_succ])
              have H := HC37.out
              clear HC37
              by_cases c42 : t118 = 0
              ·rw [if_pos c42] at H
               have c42b0 : (t118 == 0) = true := beq_iff_eq.mpr c42
               have c42b1 : (t118 != 0) = false := bne_eq_false_iff_eq.mpr c42
               clear c42
               (first | rw [c42b0] | (simp only [i64_w, i32_w]; rw [c42b0]) | skip)
               (try rw [c42b1])
               have H' := Aside0.mk H
               clear H
               go_wp2
               go_roundg k4
               case measure => have := HJ1.out; have := HJ10.out; have := HJ22.out; have := HK4.out; omega
               case rel => exact ⟨(wrap64 (x72_4 + 1)), zT, H', ⟨by have := HJ1.out; have := HJ10.out; have := HJ22.out; have := HK4.out; omega⟩, ⟨by (with_reducible repeat (first | refine blk_drewN ?_ _ | refine blk_drew ?_ | refine blk_alloc ?_ _)); exact BK115.out⟩, ⟨by repeat (first | (with_reducible first | exact HB.out | apply below_alloc | apply pw_below_drewN | apply below_drew1 | refine below_set ?_ GE115.out | refine below_set ?_ GE117.out) | exact HB.out)⟩⟩
              ·rw [if_neg c42] at H
               have c42b0 : (t118 == 0) = false := beq_eq_false_iff_ne.mpr c42
               have c42b1 : (t118 != 0) = true := bne_iff_ne.mpr c42
               (first | rw [c42b0] | (simp only [i64_w, i32_w]; rw [c42b0]) | skip)
               (try rw [c42b1])
               obtain rfl := Option.some.inj H
               go_wp2
               go_ret
               exact ⟨by first | rfl | (simp [errW_none, errW_some] <;> rfl) | (simp [*, errW_none, errW_some] <;> rfl), by repeat (first | (with_reducible first | exact HB.out | apply below_alloc | apply pw_below_drewN | apply below_drew1 | refine below_set ?_ GE115.out | refine below_set ?_ GE117.out) | exact HB.out)⟩
             ·rw [if_neg c35] at H
              exact absurd H (by simp)
            ·rw [if_neg c34] at H
             exact absurd H (by simp)
           ·rw [if_neg c33] at H
            have c33b0 : decide (x72_4 < (l0_3.length : Int)) = false := decide_eq_false c33
            clear c33
            obtain rfl := Option.some.inj H
            go_wp2
            go_ret
            exact ⟨by first | rfl | (simp [errW_none, errW_some] <;> rfl) | (simp [*, errW_none, errW_some] <;> rfl), by repeat (first | (with_reducible first | exact HB.out | apply below_alloc | apply pw_below_drewN | apply below_drew1 | refine below_set ?_ GE115.out) | exact HB.out)⟩
end Go.Proofs.Ytpojokndmkhpkaa.M
