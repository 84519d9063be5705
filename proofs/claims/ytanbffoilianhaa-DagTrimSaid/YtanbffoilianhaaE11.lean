-- Written by wip/tools/myprint.py, a program of this session's.
import Derived.Test.YtanbffoilianhaaE0
namespace Go.Proofs.Ytanbffoilianhaa.E
open Go.RowKit Go.Proofs.YtanbffoilianhaaW.PrintWords Go.Proofs.YtanbffoilianhaaW.PrintLast Go.Proofs.YtanbffoilianhaaW.PrintMore
attribute [local go_sem] max2_int min2_int max_two min_two max_three min_three max_four min_four   -- for this text's walks alone
set_option linter.unusedVariables false
set_option linter.unusedSimpArgs false
/-! ### ancepsref09_capped: function 82 -/
def ancepsref09_capped.f (a0 : Int) (a1 : Int) : Option (Int) := if a0 > (wrap64 (4611686018427387905 - a1)) then (some 4611686018427387905) else (some (wrap64 (a0 + a1)))
set_option maxHeartbeats 8000000 in
set_option maxRecDepth 100000 in
theorem ancepsref09_capped.calls (a0 : Int) (a1 : Int) (r : Int) (w : World) (h : ancepsref09_capped.f a0 a1 = some r) :
  Calls Try.prog 82 #[.int .i64 a0, .int .i64 a1] w fun e w' => e = .returned (.int .i64 r) ∧ Drawn0 w w' := by
 have H : (if a0 > (wrap64 (4611686018427387905 - a1)) then (some 4611686018427387905) else (some (wrap64 (a0 + a1)))) = some r := h
 clear h
 by_cases c3 : a0 > (wrap64 (4611686018427387905 - a1))
 ·rw [if_pos c3] at H
  have c3b0 : decide ((wrap64 (4611686018427387905 - a1)) < a0) = true := decide_eq_true c3
  clear c3
  obtain rfl := Option.some.inj H
  go_enter Try.func82, Try.ntmps82
  go_wp2
  go_ret
  exact ⟨by first | rfl | (simp; done) | (simp [*]; done), by repeat (first | exact Drawn0.refl _ | apply Drawn0.step)⟩
 ·rw [if_neg c3] at H
  have c3b0 : decide ((wrap64 (4611686018427387905 - a1)) < a0) = false := decide_eq_false c3
  clear c3
  obtain rfl := Option.some.inj H
  go_enter Try.func82, Try.ntmps82
  go_wp2
  go_ret
  exact ⟨by first | rfl | (simp; done) | (simp [*]; done), by repeat (first | exact Drawn0.refl _ | apply Drawn0.step)⟩
/-! ### ancepsref09_ways: function 57 -/
mutual
def ancepsref09_ways.l0 : Nat → List Int → Int → Int → List (S69) → Option (List Int)
 | 0, _, _, _, _ => none
 | k + 1, x3, x4, x296000, x296001 => if x4 ≥ 0 then (ancepsref09_ways.l1 k x3 x4 0 x296000 x296001) else (some x3)
def ancepsref09_ways.l1 : Nat → List Int → Int → Int → Int → List (S69) → Option (List Int)
 | 0, _, _, _, _, _ => none
 | k + 1, x3, x4, x5, x296000, x296001 => if x5 < (x296001.length : Int) then (if 0 ≤ x5 then (if ((rd_T69 x296001 x5).f0) = x4 then (if 0 ≤ x4 then (if x4 < (x3.length : Int) then (if 0 ≤ ((rd_T69 x296001 x5).f1) then (if ((rd_T69 x296001 x5).f1) < (x3.length : Int) then ((ancepsref09_capped.f (rd x3 x4) (rd x3 ((rd_T69 x296001 x5).f1))).bind fun t304 => (ancepsref09_ways.l1 k (x3.set (x4 : Int).toNat t304) x4 (wrap64 (x5 + 1)) x296000 x296001)) else (none)) else (none)) else (none)) else (none)) else (ancepsref09_ways.l1 k x3 x4 (wrap64 (x5 + 1)) x296000 x296001)) else (none)) else (ancepsref09_ways.l0 k x3 (wrap64 (x4 - 1)) x296000 x296001)
end
def ancepsref09_ways.f (k : Nat) (a0_0 : Int) (l0_1 : List (S69)) : Option (List Int) := if 0 ≤ a0_0 then (if (a0_0 : Int).toNat ≤ 35184372088832 then ((some (List.replicate (a0_0 : Int).toNat 0 : List Int)).bind fun y296 => (if 0 ≤ (wrap64 (a0_0 - 1)) then (if (wrap64 (a0_0 - 1)) < (y296.length : Int) then (ancepsref09_ways.l0 k (y296.set ((wrap64 (a0_0 - 1)) : Int).toNat 1) (wrap64 (a0_0 - 2)) a0_0 l0_1) else (none)) else (none))) else (none)) else (none)
theorem ancepsref09_ways.mono_l : ∀ k, (∀ y0 y1 y2 y3, LeO (ancepsref09_ways.l0 k y0 y1 y2 y3) (ancepsref09_ways.l0 (k + 1) y0 y1 y2 y3)) ∧ (∀ y0 y1 y2 y3 y4, LeO (ancepsref09_ways.l1 k y0 y1 y2 y3 y4) (ancepsref09_ways.l1 (k + 1) y0 y1 y2 y3 y4))
 | 0 => ⟨fun _ _ _ _ r h => by simp [ancepsref09_ways.l0] at h, fun _ _ _ _ _ r h => by simp [ancepsref09_ways.l1] at h⟩
 | k + 1 => by
  obtain ⟨ih0, ih1⟩ := ancepsref09_ways.mono_l k
  refine ⟨?_, ?_⟩
  ·intro y0 y1 y2 y3
   unfold ancepsref09_ways.l0
   repeat' first
   | (with_reducible exact ih0 _ _ _ _)
   | (with_reducible exact ih1 _ _ _ _ _)
   | (with_reducible exact LeO.refl _)
   | (with_reducible exact LeO.none _)
   | (with_reducible refine LeO.ite ?_ ?_)
   | (with_reducible refine LeO.bind ?_ (fun _ => ?_))
   | exact ih0 _ _ _ _
   | exact ih1 _ _ _ _ _
   | exact LeO.none _
   | refine LeO.ite ?_ ?_
   | refine LeO.bind ?_ (fun _ => ?_)
  ·intro y0 y1 y2 y3 y4
   unfold ancepsref09_ways.l1
   repeat' first
   | (with_reducible exact ih0 _ _ _ _)
   | (with_reducible exact ih1 _ _ _ _ _)
   | (with_reducible exact LeO.refl _)
   | (with_reducible exact LeO.none _)
   | (with_reducible refine LeO.ite ?_ ?_)
   | (with_reducible refine LeO.bind ?_ (fun _ => ?_))
   | exact ih0 _ _ _ _
   | exact ih1 _ _ _ _ _
   | exact LeO.none _
   | refine LeO.ite ?_ ?_
   | refine LeO.bind ?_ (fun _ => ?_)
theorem ancepsref09_ways.mono : ∀ a0 a1 k, LeO (ancepsref09_ways.f k a0 a1) (ancepsref09_ways.f (k + 1) a0 a1) := by
 intro a0 a1 k
 obtain ⟨ih0, ih1⟩ := ancepsref09_ways.mono_l k
 unfold ancepsref09_ways.f
 repeat' first
   | (with_reducible exact ih0 _ _ _ _)
   | (with_reducible exact ih1 _ _ _ _ _)
   | (with_reducible exact LeO.refl _)
   | (with_reducible exact LeO.none _)
   | (with_reducible refine LeO.ite ?_ ?_)
   | (with_reducible refine LeO.bind ?_ (fun _ => ?_))
   | exact ih0 _ _ _ _
   | exact ih1 _ _ _ _ _
   | exact LeO.none _
   | refine LeO.ite ?_ ?_
   | refine LeO.bind ?_ (fun _ => ?_)
def ancepsref09_ways.T10 : Bool × List (List Nat × List Nat) := (true, [([], []), ([], []), ([], []), ([], []), ([2, 3], [2, 3]), ([4], [4]), ([], []), ([], []), ([7], [7]), ([], []), ([8, 9], [8, 9]), ([10], [10]), ([11], [11]), ([6, 12], [6, 12]), ([13], [13]), ([5, 14], [5, 14]), ([0, 1, 0, 1, 2, 3, 4, 5, 6, 7, 8, 9, 10, 11, 12, 13, 14, 15], [0, 1]), ([16, 15, 15, 0, 1, 2, 3, 4, 5, 6, 7, 8, 9, 10, 11, 12, 13, 14, 15], [15, 16])])
def ancepsref09_ways.B10 : List Nat := [0, 0, 0, 0, 12, 28, 0, 0, 128, 0, 896, 1920, 3968, 8128, 16320, 32764, 65535, 131071]
theorem ancepsref09_ways.tab10 : rtab .any (opsOf Try.f57 10) = ancepsref09_ways.T10 := by kernel_rfl
theorem ancepsref09_ways.bits10 : waitsOk ancepsref09_ways.T10.2 ancepsref09_ways.B10 = true := by kernel_rfl
set_option maxHeartbeats 8000000 in
set_option maxRecDepth 100000 in
theorem ancepsref09_ways.calls (k : Nat) (a0_0 : Int) (A0_1 : Option Addr) (c0_1 : Nat) (l0_1 : List (S69)) (r : List Int) (w : World) (hr0_1 : Kd.C k69 w A0_1 l0_1.length l0_1) (hc0_1 : l0_1.length ≤ c0_1) (h : ancepsref09_ways.f k a0_0 l0_1 = some r) :
  Calls Try.prog 57 #[.agg #[.int .i64 a0_0, .slice A0_1 l0_1.length c0_1]] w fun e w' => ∃ v0_ : Value, e = .returned (v0_) ∧ Kd.R (Kd.int .i64) 2 w' w.heap.size (fun _ => True) v0_ r ∧ Below w.heap.size w w' := by
 have hu24 := Try.underlying24
 have hu3 := Try.underlying3
 have hu2 := Try.underlying2
 have hu22 := Try.underlying22
 have HR0_1 := Aside0.mk hr0_1
 have HC0_1 := Aside0.mk hc0_1
 clear hr0_1 hc0_1
 have HB := Aside0.mk (Below.refl w.heap.size w)
 have H : (if 0 ≤ a0_0 then (if (a0_0 : Int).toNat ≤ 35184372088832 then ((some (List.replicate (a0_0 : Int).toNat 0 : List Int)).bind fun y296 => (if 0 ≤ (wrap64 (a0_0 - 1)) then (if (wrap64 (a0_0 - 1)) < (y296.length : Int) then (ancepsref09_ways.l0 k (y296.set ((wrap64 (a0_0 - 1)) : Int).toNat 1) (wrap64 (a0_0 - 2)) a0_0 l0_1) else (none)) else (none))) else (none)) else (none)) = some r := h
 clear h
 by_cases c2 : 0 ≤ a0_0
 ·rw [if_pos c2] at H
  have c2b0 := eq_true c2
  have c2b1 : decide (0 ≤ a0_0) = true := decide_eq_true c2
  clear c2
  by_cases c3 : (a0_0 : Int).toNat ≤ 35184372088832
  ·rw [if_pos c3] at H
   have c3b0 := eq_true c3
   have c3b1 : decide ((a0_0 : Int).toNat ≤ 35184372088832) = true := decide_eq_true c3
   clear c3
   obtain ⟨y296, hy296⟩ : ∃ y_ : List Int, y_ = (List.replicate (a0_0 : Int).toNat 0) := ⟨_, rfl⟩
   replace H : (if 0 ≤ (wrap64 (a0_0 - 1)) then (if (wrap64 (a0_0 - 1)) < (y296.length : Int) then (ancepsref09_ways.l0 k (y296.set ((wrap64 (a0_0 - 1)) : Int).toNat 1) (wrap64 (a0_0 - 2)) a0_0 l0_1) else (none)) else (none)) = some r := by first | (rw [hy296]; with_reducible exact H) | (have H2_ := (Option.bind_some _ _).symm.trans H; rw [hy296]; with_reducible exact H2_) | (have H2_ := (Option.bind_some _ _).symm.trans H; with_reducible exact H2_) | with_reducible exact H | (rw [hy296]; exact H) | exact H
   have Ny296 := Aside0.mk hy296
   clear hy296
   obtain ⟨ji4, hji4⟩ : ∃ j_ : Int, (wrap64 (a0_0 - 1)) = j_ := ⟨_, rfl⟩
   replace H : (if 0 ≤ (ji4) then (if (ji4) < (y296.length : Int) then (ancepsref09_ways.l0 k (y296.set ((ji4) : Int).toNat 1) (wrap64 (a0_0 - 2)) a0_0 l0_1) else (none)) else (none)) = some r := by first | (rw [hji4] at H; exact H) | (simp only [hji4] at H ⊢; exact H)
   have hji4w : (IntKind.i64.wrap (a0_0 - 1)) = ji4 := (i64_w _).trans hji4
   by_cases c5 : 0 ≤ (ji4)
   ·rw [if_pos c5] at H
    have c5b0 : decide (0 ≤ (ji4)) = true := decide_eq_true c5
    clear c5
    by_cases c6 : (ji4) < (y296.length : Int)
    ·rw [if_pos c6] at H
     have c6b0 : decide ((ji4) < (y296.length : Int)) = true := decide_eq_true c6
     clear c6
     obtain ⟨y299, hy299⟩ : ∃ y_ : List Int, y_ = (y296.set ((ji4) : Int).toNat 1) := ⟨_, rfl⟩
     replace H : (ancepsref09_ways.l0 k y299 (wrap64 (a0_0 - 2)) a0_0 l0_1) = some r := by first | (rw [hy299]; with_reducible exact H) | (have H2_ := (Option.bind_some _ _).symm.trans H; rw [hy299]; with_reducible exact H2_) | (have H2_ := (Option.bind_some _ _).symm.trans H; with_reducible exact H2_) | with_reducible exact H | (rw [hy299]; exact H) | exact H
     have Ny299 := Aside0.mk hy299
     clear hy299
     have H' := Aside0.mk H
     clear H
     go_enter Try.func57, Try.ntmps57
     go_wp2_with (first | ((with_reducible refine gate_dst (N := 1) rfl ?_); refine box_event ?hg (N := 1) ?hd (cs := #[.int .i64 a0_0, .slice A0_1 l0_1.length c0_1]) (t := 24) ?hr ?_; (case hd => rfl); (case hg => rfl); (case hr => first | (go_simp; done) | (go_simp; rfl)); intro gb295 hg w8 hbox hb; have n0_ := Aside0.mk (below_step zB hb); have n1_ := Aside0.mk (hbox); have n2_ := Aside0.mk ((by rw [hg]; exact (below_size zB) : w.heap.size ≤ gb295)); have n3_ := Aside0.mk ((by rw [hg]; exact (below_size zB) : w.heap.size ≤ gb295)); clear HB; have HB := n0_; have BK295 := n1_; have GW295 := n2_; have GE295 := n3_; clear n0_ n1_ n2_ n3_; clear hb hbox hg; have hcz9_0 : w8.cell? ⟨gb295, 0, none⟩ = some (.int .i64 a0_0) := (blk_cell BK295.out 0).trans rfl; have hcz9_1 : w8.cell? ⟨gb295, 1, none⟩ = some (.slice A0_1 l0_1.length c0_1) := (blk_cell BK295.out 1).trans rfl; have hfz9_0 := blk_frozen BK295.out 0; have hfz9_1 := blk_frozen BK295.out 1) | ((with_reducible refine gate_dst (N := 8) rfl ?_); refine Kd.R_make (Kd.int .i64) _ 2 rfl (N := 8) rfl 71 _ _ rfl a0_0 rfl rfl Try.underlying71 (.int .i64 0) 8 info2 rfl (by decide) (by omega) 0 (ok := fun _ => True) (okp := fun _ => True) rfl (fun _ hk => hk) trivial (of_decide_eq_true zh) (Nat.le_trans (Nat.mul_le_mul_right _ (of_decide_eq_true zh : a0_0.toNat ≤ 35184372088832)) (by omega)) (Below.refl _ _) (Nat.le_refl _) ?_; intro v297 w10 ho11 hb hg_ hnew_; clear hg_ hnew_; (first | rw [← Ny296.out] at ho11 | (simp only [Int.reduceToNat] at ho11; rw [← Ny296.out] at ho11)); have n0_ := Aside0.mk (Kd.R_lower ho11 (below_size zB)); have n1_ := Aside0.mk (blk_below (g := gb295) (o := .cells #[.int .i64 a0_0, .slice A0_1 l0_1.length c0_1] 24 (0, 0)) (zk BK295) hb); have n2_ := Aside0.mk (below_step zB hb); clear BK295; clear HB; have HO298 := n0_; have BK295 := n1_; have HB := n2_; clear n0_ n1_ n2_; clear hb ho11; have hcz12_0 : w10.cell? ⟨gb295, 0, none⟩ = some (.int .i64 a0_0) := (blk_cell BK295.out 0).trans rfl; have hcz12_1 : w10.cell? ⟨gb295, 1, none⟩ = some (.slice A0_1 l0_1.length c0_1) := (blk_cell BK295.out 1).trans rfl; have hfz12_0 := blk_frozen BK295.out 0; have hfz12_1 := blk_frozen BK295.out 1; have p7 : 0 ≤ ((ji4) : Int) := of_decide_eq_true zh; have q7 : ((ji4) : Int) < ((y296.length : Int) : Int) := of_decide_eq_true zh; obtain ⟨go7, co7, eo7, gb7, gl7, cl7, HG7⟩ := Kd.R_form HO298.out (by omega); (first | cases eo7 | (injection eo7 with ea_ en_ ec_; (first | subst ea_ | (injection ea_ with ea_; subst ea_)); subst ec_; clear en_)); have GB7 := Aside0.mk gb7; have GG7 := Aside0.mk HG7; clear gb7 gl7 HG7; obtain ⟨hx7_0, hf7_0⟩ := Kd.R_celln 0 HO298.out ((ji4) : Int) p7 q7; replace p7 := eq_true p7; replace q7 := eq_true q7; obtain ⟨hy13_, hz13_⟩ := Kd.R_celln 0 HO298.out ((ji4) : Int) (of_decide_eq_true zh) (of_decide_eq_true zh); have HP13 := Kd.R_putg HO298.out ((ji4) : Int) 1) | ((with_reducible refine gate_store (t := 2) (p := 13) rfl ?_); refine store_event (t := 2) (p := 13) (v := ?vo_w14) (w1 := (w10.setCell ⟨go7, ((ji4) : Int).toNat, none⟩ (.int .i64 1))) ?hg ?ho ?hn ?hr ?_; (case ho => rfl); (case hg => rfl); (case hn => rfl); (case hr => first | (go_simp; done) | (go_simp; rfl)); intro w14 hw; have hg : w10.grownBy w14 (some go7) := (by rw [hw]; exact HP13.2); have hp_ : Kd.R (Kd.int .i64) 2 w14 w.heap.size (fun _ => True) (.slice (some ⟨go7, 0, none⟩) y296.length co7) y299 := (by rw [hw, Ny299.out]; exact HP13.1); clear HP13; have n0_ := Aside0.mk (blk_grown (g := gb295) (o := .cells #[.int .i64 a0_0, .slice A0_1 l0_1.length c0_1] 24 (0, 0)) (zk BK295) hg (Kd.R_ne HO298.out BK295.out (by decide))); have n1_ := Aside0.mk (hp_); have n2_ := Aside0.mk ((by rw [hw]; exact below_set (HB.out) GB7.out : Below w.heap.size w w14)); clear BK295; clear HO298; clear HB; have BK295 := n0_; have HO298 := n1_; have HB := n2_; clear n0_ n1_ n2_; clear hg hw hp_; have hcz15_0 : w14.cell? ⟨gb295, 0, none⟩ = some (.int .i64 a0_0) := (blk_cell BK295.out 0).trans rfl; have hcz15_1 : w14.cell? ⟨gb295, 1, none⟩ = some (.slice A0_1 l0_1.length c0_1) := (blk_cell BK295.out 1).trans rfl; have hfz15_0 := blk_frozen BK295.out 0; have hfz15_1 := blk_frozen BK295.out 1))
     go_loopg [4] k (fun kq v4 w' => ∃ (x3_1 : List Int) (x4_1 : Int), v4 = .int .i64 x4_1 ∧ Aside0 (ancepsref09_ways.l0 kq x3_1 x4_1 a0_0 l0_1 = some r) ∧ Aside0 (kq ≤ k) ∧ Aside0 (Kd.R (Kd.int .i64) 2 w' w.heap.size (fun _ => True) (.slice (some ⟨go7, 0, none⟩) y296.length co7) x3_1) ∧ Aside0 (w'.heap[gb295]? = some (.cells #[.int .i64 a0_0, (.slice A0_1 l0_1.length c0_1)] 24 (0, 0))) ∧ Aside0 (Below w.heap.size w w'))
     case atStart => exact ⟨(y299), (wrap64 (a0_0 - 2)), zT, H', ⟨Nat.le_refl _⟩, ⟨by (with_reducible repeat (first | apply Kd.R_alloc | apply Kd.R_drewN | apply Kd.R_drew)); exact HO298.out⟩, ⟨by (with_reducible repeat (first | refine blk_drewN ?_ _ | refine blk_drew ?_ | refine blk_alloc ?_ _)); exact BK295.out⟩, ⟨by repeat (first | (with_reducible first | exact HB.out | apply below_alloc | apply pw_below_drewN | apply below_drew1 | refine below_set ?_ GE295.out) | exact HB.out)⟩⟩
     case round =>
      clear H'
      try clear c2
      try clear c2b0
      try clear c2b1
      try clear p2
      try clear c3
      try clear c3b0
      try clear c3b1
      try clear c5
      try clear c5b0
      try clear c6
      try clear c6b0
      try clear p6
      try clear p7
      try clear q7
      try clear hx7
      try clear hf7
      try clear hcz12_0
      try clear hcz12_1
      try clear hcz15_0
      try clear hcz15_1
      try clear hcz9_0
      try clear hcz9_1
      try clear hfz12_0
      try clear hfz12_1
      try clear hfz15_0
      try clear hfz15_1
      try clear hfz9_0
      try clear hfz9_1
      try clear hx7_0
      try clear p7
      try clear q7
      obtain ⟨x3_1, x4_1, rfl, HA, HK1, HO_3, BK295, HB⟩ := hrel
      have hl3_1 := (Kd.R_reads' HO_3.out).1
      rw [hl3_1] at HO_3
      (try simp only [hl3_1])
      (try simp only [hl3_1] at BK295)
      cases gk with
      | zero => exact absurd HA.out (by simp [ancepsref09_ways.l0])
      | succ k1 =>
       have H := HA.out
       clear HA
       simp only [ancepsref09_ways.l0] at H
       by_cases c16 : x4_1 ≥ 0
       ·rw [if_pos c16] at H
        have c16b0 : decide (0 ≤ x4_1) = true := decide_eq_true c16
        clear c16
        have H' := Aside0.mk H
        clear H
        go_wp2
        go_loopg [5] k1 (fun kq v5 w' => ∃ (x3_2 : List Int) (x5_2 : Int), v5 = .int .i64 x5_2 ∧ Aside0 (ancepsref09_ways.l1 kq x3_2 x4_1 x5_2 a0_0 l0_1 = some r) ∧ Aside0 (kq ≤ k1) ∧ Aside0 (Kd.R (Kd.int .i64) 2 w' w.heap.size (fun _ => True) (.slice (some ⟨go7, 0, none⟩) x3_1.length co7) x3_2) ∧ Aside0 (w'.heap[gb295]? = some (.cells #[.int .i64 a0_0, (.slice A0_1 l0_1.length c0_1)] 24 (0, 0))) ∧ Aside0 (Below w.heap.size w w'))
        case atStart => exact ⟨(x3_1), (0), zT, H', ⟨Nat.le_refl _⟩, ⟨by (try simp only [hl3_1]); (with_reducible repeat (first | apply Kd.R_alloc | apply Kd.R_drewN | apply Kd.R_drew)); exact HO_3.out⟩, ⟨by (try simp only [hl3_1]); (with_reducible repeat (first | refine blk_drewN ?_ _ | refine blk_drew ?_ | refine blk_alloc ?_ _)); exact BK295.out⟩, ⟨by repeat (first | (with_reducible first | exact HB.out | apply below_alloc | apply pw_below_drewN | apply below_drew1 | refine below_set ?_ GE295.out) | exact HB.out)⟩⟩
        case round =>
         clear H'
         try clear c1
         try clear c2
         try clear c2b0
         try clear c2b1
         try clear p2
         try clear c3
         try clear c3b0
         try clear c3b1
         try clear c5
         try clear c5b0
         try clear c6
         try clear c6b0
         try clear p6
         try clear p7
         try clear q7
         try clear hx7
         try clear hf7
         try clear c16
         try clear c16b0
         try clear hcz12_0
         try clear hcz12_1
         try clear hcz15_0
         try clear hcz15_1
         try clear hcz9_0
         try clear hcz9_1
         try clear hfz12_0
         try clear hfz12_1
         try clear hfz15_0
         try clear hfz15_1
         try clear hfz9_0
         try clear hfz9_1
         try clear hx7_0
         try clear p2
         try clear p6
         try clear p7
         try clear q7
         obtain ⟨x3_2, x5_2, rfl, HA, HK2, HO_3, BK295, HB⟩ := hrel
         have hl3_2 := (Kd.R_reads' HO_3.out).1
         rw [hl3_2] at HO_3
         (try simp only [hl3_2])
         (try simp only [hl3_2] at BK295)
         cases gk with
         | zero => exact absurd HA.out (by simp [ancepsref09_ways.l1])
         | succ k2 =>
          have H := HA.out
          clear HA
          simp only [ancepsref09_ways.l1] at H
          by_cases c17 : x5_2 < (l0_1.length : Int)
          ·rw [if_pos c17] at H
           have c17b0 : decide (x5_2 < (l0_1.length : Int)) = true := decide_eq_true c17
           clear c17
           by_cases c18 : 0 ≤ x5_2
           ·rw [if_pos c18] at H
            have c18b0 : decide (0 ≤ x5_2) = true := decide_eq_true c18
            clear c18
            by_cases c19 : ((rd_T69 l0_1 x5_2).f0) = x4_1
            ·rw [if_pos c19] at H
             have c19b0 : (((rd_T69 l0_1 x5_2).f0) == x4_1) = true := beq_iff_eq.mpr c19
             have c19b1 : (((rd_T69 l0_1 x5_2).f0) != x4_1) = false := bne_eq_false_iff_eq.mpr c19
             clear c19
             by_cases c20 : 0 ≤ x4_1
             ·rw [if_pos c20] at H
              have c20b0 : decide (0 ≤ x4_1) = true := decide_eq_true c20
              clear c20
              by_cases c21 : x4_1 < (x3_2.length : Int)
              ·rw [if_pos c21] at H
               have c21b0 : decide (x4_1 < (x3_2.length : Int)) = true := decide_eq_true c21
               clear c21
               by_cases c22 : 0 ≤ ((rd_T69 l0_1 x5_2).f1)
               ·rw [if_pos c22] at H
                have c22b0 : decide (0 ≤ ((rd_T69 l0_1 x5_2).f1)) = true := decide_eq_true c22
                clear c22
                by_cases c23 : ((rd_T69 l0_1 x5_2).f1) < (x3_2.length : Int)
                ·rw [if_pos c23] at H
                 have c23b0 : decide (((rd_T69 l0_1 x5_2).f1) < (x3_2.length : Int)) = true := decide_eq_true c23
                 clear c23
                 replace H := Option.bind_eq_some_iff.mp H
                 obtain ⟨t304, A240, H⟩ := H
                 replace H : (ancepsref09_ways.l1 k2 (x3_2.set (x4_1 : Int).toNat t304) x4_1 (wrap64 (x5_2 + 1)) a0_0 l0_1) = some r := H
                 have A24 := Aside0.mk A240
                 clear A240
                 obtain ⟨y305, hy305⟩ : ∃ y_ : List Int, y_ = (x3_2.set (x4_1 : Int).toNat t304) := ⟨_, rfl⟩
                 replace H : (ancepsref09_ways.l1 k2 y305 x4_1 (wrap64 (x5_2 + 1)) a0_0 l0_1) = some r := by first | (rw [hy305]; with_reducible exact H) | (have H2_ := (Option.bind_some _ _).symm.trans H; rw [hy305]; with_reducible exact H2_) | (have H2_ := (Option.bind_some _ _).symm.trans H; with_reducible exact H2_) | with_reducible exact H | (rw [hy305]; exact H) | exact H
                 have Ny305 := Aside0.mk hy305
                 clear hy305
                 have H' := Aside0.mk H
                 clear H
                 have hcz26_0 : wr.cell? ⟨gb295, 0, none⟩ = some (.int .i64 a0_0) := (blk_cell BK295.out 0).trans rfl
                 have hcz26_1 : wr.cell? ⟨gb295, 1, none⟩ = some (.slice A0_1 l0_1.length c0_1) := (blk_cell BK295.out 1).trans rfl
                 have hfz26_0 := blk_frozen BK295.out 0
                 have hfz26_1 := blk_frozen BK295.out 1
                 have p300 : 0 ≤ (x5_2 : Int) := of_decide_eq_true zh
                 have q300 : x5_2 < (l0_1.length : Int) := of_decide_eq_true zh
                 obtain ⟨ad300, e300, hx300_0, hx300_1, hx300_2⟩ := at_T69 HR0_1.out x5_2 p300 q300
                 cases e300
                 replace hx300_0 := (HB.out.cell (World.block_lt_of_cell? w _ hx300_0)).trans hx300_0
                 replace hx300_1 := (HB.out.cell (World.block_lt_of_cell? w _ hx300_1)).trans hx300_1
                 replace hx300_2 := (HB.out.cell (World.block_lt_of_cell? w _ hx300_2)).trans hx300_2
                 replace p300 := eq_true p300
                 replace q300 := eq_true q300
                 try go_wp2
                 have n0_ := Aside0.mk (Kd.R_drew HO_3.out)
                 have n1_ := Aside0.mk (blk_drew BK295.out)
                 have n2_ := Aside0.mk (below_drew1 HB.out)
                 clear HO_3
                 clear BK295
                 clear HB
                 have HO_3 := n0_
                 have BK295 := n1_
                 have HB := n2_
                 clear n0_ n1_ n2_
                 have p301 : 0 ≤ (x4_1 : Int) := of_decide_eq_true zh
                 have q301 : x4_1 < (x3_2.length : Int) := of_decide_eq_true zh
                 obtain ⟨ad301, e301, hx301_0⟩ := Kd.at_int (Kd.R_reads' HO_3.out).2.2 x4_1 p301 q301
                 obtain rfl : (⟨go7, 0, none⟩ : Addr) = ad301 := (by injection e301)
                 (first | simp only [add_plain] at hx301_0 | simp only [add_at] at hx301_0 | simp only [Addr.add, Nat.zero_add] at hx301_0 | skip)
                 replace p301 := eq_true p301
                 replace q301 := eq_true q301
                 have p302 : 0 ≤ (x5_2 : Int) := of_decide_eq_true zh
                 have q302 : x5_2 < (l0_1.length : Int) := of_decide_eq_true zh
                 obtain ⟨ad302, e302, hx302_0, hx302_1, hx302_2⟩ := at_T69 HR0_1.out x5_2 p302 q302
                 have hw302_2 := hx302_2
                 have hw302_1 := hx302_1
                 have hw302_0 := hx302_0
                 obtain rfl : ad300 = ad302 := (by injection e302)
                 replace hx302_0 := (HB.out.cell (World.block_lt_of_cell? w _ hx302_0)).trans hx302_0
                 replace hx302_1 := (HB.out.cell (World.block_lt_of_cell? w _ hx302_1)).trans hx302_1
                 replace hx302_2 := (HB.out.cell (World.block_lt_of_cell? w _ hx302_2)).trans hx302_2
                 replace p302 := eq_true p302
                 replace q302 := eq_true q302
                 have p303 : 0 ≤ (((rd_T69 l0_1 x5_2).f1) : Int) := of_decide_eq_true zh
                 have q303 : ((rd_T69 l0_1 x5_2).f1) < (x3_2.length : Int) := of_decide_eq_true zh
                 obtain ⟨ad303, e303, hx303_0⟩ := Kd.at_int (Kd.R_reads' HO_3.out).2.2 ((rd_T69 l0_1 x5_2).f1) p303 q303
                 obtain rfl : (⟨go7, 0, none⟩ : Addr) = ad303 := (by injection e303)
                 (first | simp only [add_plain] at hx303_0 | simp only [add_at] at hx303_0 | simp only [Addr.add, Nat.zero_add] at hx303_0 | skip)
                 replace p303 := eq_true p303
                 replace q303 := eq_true q303
                 refine start_ (n := 18) (S := fun w' => w'.cell? ⟨gb295, 0, none⟩ = some (.int .i64 a0_0) ∧ w'.cell? ⟨gb295, 1, none⟩ = some (.slice (some ad300) l0_1.length c0_1) ∧ w'.cell? ⟨go7, (x4_1).toNat, none⟩ = some (.int .i64 (rd x3_2 x4_1)) ∧ w'.cell? (ad300.add ((x5_2).toNat * 3)) = some (.int .i64 ((rd_T69 l0_1 x5_2).f0)) ∧ w'.cell? ⟨(ad300.add ((x5_2).toNat * 3)).block, (ad300.add ((x5_2).toNat * 3)).off + 1, none⟩ = some (.int .i64 ((rd_T69 l0_1 x5_2).f1)) ∧ w'.cell? ⟨(ad300.add ((x5_2).toNat * 3)).block, (ad300.add ((x5_2).toNat * 3)).off + 2, none⟩ = some (.int .i64 ((rd_T69 l0_1 x5_2).f2)) ∧ w'.cell? ⟨go7, (((rd_T69 l0_1 x5_2).f1)).toNat, none⟩ = some (.int .i64 (rd x3_2 ((rd_T69 l0_1 x5_2).f1)))) (ds := [17]) #[false, false, false, false, false, false, false, false, false, false, false, false, false, false, false, false, false, false] zK rfl rfl ⟨(blk_cell BK295.out 0).trans rfl, (blk_cell BK295.out 1).trans rfl, hx301_0, ((HB.out.cell (World.block_lt_of_cell? w _ hw302_0)).trans hw302_0), ((HB.out.cell (World.block_lt_of_cell? w _ hw302_1)).trans hw302_1), ((HB.out.cell (World.block_lt_of_cell? w _ hw302_2)).trans hw302_2), hx303_0⟩ (fun hHeld => ?_); refine with_tabW ancepsref09_ways.tab10 ancepsref09_ways.bits10 (fun HT_ HW_ => ?_)
                 generalize wr.drew = w27 at HO_3 BK295 HB hx301_0 hx302_0 hx302_1 hx302_2 hx303_0 hHeld ⊢
                 refine pure_ (i := 0) (N := some 36) (v := ?_) (a' := ?_) #[true, false, false, false, false, false, false, false, false, false, false, false, false, false, false, false, false, false] rfl rfl (any_of HT_.out zK) (fun _ _ _ h => h) (Or.inl ⟨by rfl, ?_⟩) ?_ ?_
                 rotate_left
                 ·intro w'
                  go_simp
                  with_reducible rfl
                 rotate_left
                 ·simp only [Act.put, List.setIfInBounds_toArray, List.set_cons_zero, List.set_cons_succ, i64_w, i32_w]
                  rfl
                 refine pure_ (i := 1) (N := some 37) (v := ?_) (a' := ?_) #[true, true, false, false, false, false, false, false, false, false, false, false, false, false, false, false, false, false] rfl rfl (any_of HT_.out zK) (fun _ _ _ h => h) (Or.inl ⟨by rfl, ?_⟩) ?_ ?_
                 rotate_left
                 ·intro w'
                  go_simp
                  with_reducible rfl
                 rotate_left
                 ·simp only [Act.put, List.setIfInBounds_toArray, List.set_cons_zero, List.set_cons_succ, i64_w, i32_w]
                  rfl
                 refine pure_ (i := 2) (N := some 38) (v := ?_) (a' := ?_) #[true, true, true, false, false, false, false, false, false, false, false, false, false, false, false, false, false, false] rfl rfl (any_of HT_.out zK) (fun _ _ _ h => h) (Or.inl ⟨by rfl, ?_⟩) ?_ ?_
                 rotate_left
                 ·intro w'
                  go_simp
                  with_reducible rfl
                 rotate_left
                 ·simp only [Act.put, List.setIfInBounds_toArray, List.set_cons_zero, List.set_cons_succ, i64_w, i32_w]
                  rfl
                 refine pure_ (i := 3) (N := some 39) (v := ?_) (a' := ?_) #[true, true, true, true, false, false, false, false, false, false, false, false, false, false, false, false, false, false] rfl rfl (any_of HT_.out zK) (fun _ _ _ h => h) (Or.inl ⟨by rfl, ?_⟩) ?_ ?_
                 rotate_left
                 ·intro w'
                  go_simp
                  with_reducible rfl
                 rotate_left
                 ·simp only [Act.put, List.setIfInBounds_toArray, List.set_cons_zero, List.set_cons_succ, i64_w, i32_w]
                  rfl
                 refine pure_ (i := 4) (N := some 40) (v := ?_) (a' := ?_) #[true, true, true, true, true, false, false, false, false, false, false, false, false, false, false, false, false, false] rfl rfl (any_of HT_.out zK) (fun _ _ _ h => h) (Or.inl ⟨by rfl, ?_⟩) ?_ ?_
                 rotate_left
                 ·intro w'
                  go_simp
                  with_reducible rfl
                 rotate_left
                 ·simp only [Act.put, List.setIfInBounds_toArray, List.set_cons_zero, List.set_cons_succ, i64_w, i32_w]
                  rfl
                 refine pure_ (i := 6) (N := some 42) (v := ?_) (a' := ?_) #[true, true, true, true, true, false, true, false, false, false, false, false, false, false, false, false, false, false] rfl rfl (any_of HT_.out zK) (fun _ _ _ h => h) (Or.inl ⟨by rfl, ?_⟩) ?_ ?_
                 rotate_left
                 ·intro w'
                  go_simp
                  with_reducible rfl
                 rotate_left
                 ·simp only [Act.put, List.setIfInBounds_toArray, List.set_cons_zero, List.set_cons_succ, i64_w, i32_w]
                  rfl
                 refine pure_ (i := 7) (N := some 43) (v := ?_) (a' := ?_) #[true, true, true, true, true, false, true, true, false, false, false, false, false, false, false, false, false, false] rfl rfl (any_of HT_.out zK) (fun _ _ _ h => h) (Or.inl ⟨by rfl, ?_⟩) ?_ ?_
                 rotate_left
                 ·intro w'
                  go_simp
                  with_reducible rfl
                 rotate_left
                 ·simp only [Act.put, List.setIfInBounds_toArray, List.set_cons_zero, List.set_cons_succ, i64_w, i32_w]
                  rfl
                 refine pure_ (i := 9) (N := some 45) (v := ?_) (a' := ?_) #[true, true, true, true, true, false, true, true, false, true, false, false, false, false, false, false, false, false] rfl rfl (any_of HT_.out zK) (fun _ _ _ h => h) (Or.inl ⟨by rfl, ?_⟩) ?_ ?_
                 rotate_left
                 ·intro w'
                  go_simp
                  with_reducible rfl
                 rotate_left
                 ·simp only [Act.put, List.setIfInBounds_toArray, List.set_cons_zero, List.set_cons_succ, i64_w, i32_w]
                  rfl
                 refine take_ (i := 5) (N := some 41) (v := ?_) (a' := ?_) #[true, true, true, true, true, true, true, true, false, true, false, false, false, false, false, false, false, false] rfl rfl (take_ofW HT_.out HW_.out zK) (fun _ _ _ h => h) (Or.inl ⟨by rfl, ?_⟩) hHeld ?_ ?_
                 rotate_left
                 ·rintro w' ⟨s0, s1, s2, s3, s4, s5, s6⟩
                  go_simp
                  with_reducible rfl
                 rotate_left
                 ·simp only [Act.put, List.setIfInBounds_toArray, List.set_cons_zero, List.set_cons_succ, i64_w, i32_w]
                  rfl
                 refine take_ (i := 8) (N := some 44) (v := ?_) (a' := ?_) #[true, true, true, true, true, true, true, true, true, true, false, false, false, false, false, false, false, false] rfl rfl (take_ofW HT_.out HW_.out zK) (fun _ _ _ h => h) (Or.inl ⟨by rfl, ?_⟩) hHeld ?_ ?_
                 rotate_left
                 ·rintro w' ⟨s0, s1, s2, s3, s4, s5, s6⟩
                  go_simp
                  with_reducible rfl
                 rotate_left
                 ·simp only [Act.put, List.setIfInBounds_toArray, List.set_cons_zero, List.set_cons_succ, i64_w, i32_w]
                  rfl
                 refine pure_ (i := 10) (N := some 46) (v := ?_) (a' := ?_) #[true, true, true, true, true, true, true, true, true, true, true, false, false, false, false, false, false, false] rfl rfl (any_of HT_.out zK) (fun _ _ _ h => h) (Or.inl ⟨by rfl, ?_⟩) ?_ ?_
                 rotate_left
                 ·intro w'
                  go_simp
                  with_reducible rfl
                 rotate_left
                 ·simp only [Act.put, List.setIfInBounds_toArray, List.set_cons_zero, List.set_cons_succ, i64_w, i32_w]
                  rfl
                 refine pure_ (i := 11) (N := some 47) (v := ?_) (a' := ?_) #[true, true, true, true, true, true, true, true, true, true, true, true, false, false, false, false, false, false] rfl rfl (any_of HT_.out zK) (fun _ _ _ h => h) (Or.inl ⟨by rfl, ?_⟩) ?_ ?_
                 rotate_left
                 ·intro w'
                  go_simp
                  with_reducible rfl
                 rotate_left
                 ·simp only [Act.put, List.setIfInBounds_toArray, List.set_cons_zero, List.set_cons_succ, i64_w, i32_w]
                  rfl
                 refine take_ (i := 12) (N := some 48) (v := ?_) (a' := ?_) #[true, true, true, true, true, true, true, true, true, true, true, true, true, false, false, false, false, false] rfl rfl (take_ofW HT_.out HW_.out zK) (fun _ _ _ h => h) (Or.inl ⟨by rfl, ?_⟩) hHeld ?_ ?_
                 rotate_left
                 ·rintro w' ⟨s0, s1, s2, s3, s4, s5, s6⟩
                  go_simp
                  with_reducible rfl
                 rotate_left
                 ·simp only [Act.put, List.setIfInBounds_toArray, List.set_cons_zero, List.set_cons_succ, i64_w, i32_w]
                  rfl
                 refine pure_ (i := 13) (N := some 49) (v := ?_) (a' := ?_) #[true, true, true, true, true, true, true, true, true, true, true, true, true, true, false, false, false, false] rfl rfl (any_of HT_.out zK) (fun _ _ _ h => h) (Or.inl ⟨by rfl, ?_⟩) ?_ ?_
                 rotate_left
                 ·intro w'
                  go_simp
                  with_reducible rfl
                 rotate_left
                 ·simp only [Act.put, List.setIfInBounds_toArray, List.set_cons_zero, List.set_cons_succ, i64_w, i32_w]
                  rfl
                 refine take_ (i := 14) (N := some 50) (v := ?_) (a' := ?_) #[true, true, true, true, true, true, true, true, true, true, true, true, true, true, true, false, false, false] rfl rfl (take_ofW HT_.out HW_.out zK) (fun _ _ _ h => h) (Or.inl ⟨by rfl, ?_⟩) hHeld ?_ ?_
                 rotate_left
                 ·rintro w' ⟨s0, s1, s2, s3, s4, s5, s6⟩
                  go_simp
                  with_reducible rfl
                 rotate_left
                 ·simp only [Act.put, List.setIfInBounds_toArray, List.set_cons_zero, List.set_cons_succ, i64_w, i32_w]
                  rfl
                 refine one_ (i := 15) (N := some 51) #[true, true, true, true, true, true, true, true, true, true, true, true, true, true, true, true, false, false] rfl rfl (one_of HT_.out zK) (by decide) (fun K hK => ?_)
                 refine goes_ Try.func82 zK rfl #[.int .i64 (rd x3_2 x4_1), .int .i64 (rd x3_2 ((rd_T69 l0_1 x5_2).f1))] (by rfl) rfl rfl zM ?_
                 with_reducible refine (ancepsref09_capped.calls (rd x3_2 x4_1) (rd x3_2 ((rd_T69 l0_1 x5_2).f1)) t304 _ A24.out).mono ?_
                 rintro e w' ⟨rfl, ⟨nd, rfl⟩⟩
                 refine ⟨_, rfl, ?_⟩
                 have p25 : 0 ≤ (x4_1 : Int) := of_decide_eq_true zh
                 have q25 : (x4_1 : Int) < ((x3_2.length : Int) : Int) := of_decide_eq_true zh
                 obtain ⟨hx25_0, hf25_0⟩ := Kd.R_celln 0 HO_3.out (x4_1 : Int) p25 q25
                 replace p25 := eq_true p25
                 replace q25 := eq_true q25
                 have HP28 := Kd.R_putn HO_3.out (x4_1 : Int) t304
                 rw [← Ny305.out] at HP28
                 have HQ28 := Aside0.mk HP28
                 clear HP28
                 refine hK.out _ _ ⟨(blk_cell BK295.out 0).trans rfl, (blk_cell BK295.out 1).trans rfl, hHeld.2.2.1, ((HB.out.cell (World.block_lt_of_cell? w _ hw302_0)).trans hw302_0), ((HB.out.cell (World.block_lt_of_cell? w _ hw302_1)).trans hw302_1), ((HB.out.cell (World.block_lt_of_cell? w _ hw302_2)).trans hw302_2), hHeld.2.2.2.2.2.2⟩ (fun hHeld => ?_)
                 clear hK K
                 refine norm_ (a' := ?_) ?_ ?_
                 rotate_left
                 ·show Act.put _ (some 51) _ = _
                  simp only [Act.put, List.setIfInBounds_toArray, List.set_cons_zero, List.set_cons_succ, i64_w, i32_w]
                  rfl
                 refine pure_ (i := 16) (N := some 52) (v := ?_) (a' := ?_) #[true, true, true, true, true, true, true, true, true, true, true, true, true, true, true, true, true, false] rfl rfl (any_of HT_.out zK) (fun _ _ _ h => h) (Or.inl ⟨by rfl, ?_⟩) ?_ ?_
                 rotate_left
                 ·intro w'
                  go_simp
                  with_reducible rfl
                 rotate_left
                 ·simp only [Act.put, List.setIfInBounds_toArray, List.set_cons_zero, List.set_cons_succ, i64_w, i32_w]
                  rfl
                 refine last_ (i := 17) (N := none) #[true, true, true, true, true, true, true, true, true, true, true, true, true, true, true, true, true, true] rfl rfl (one_of HT_.out zK) (by decide) (fun K hK => ?_)
                 refine skip_ (w1 := ?_) (by rfl) rfl ?_ ?_
                 rotate_left
                 ·go_simp
                  rfl
                 refine hK.out _ _ ?_
                 clear hK K
                 refine done_ (done_of HT_.out zK) ?_
                 try go_wp2
                 (try simp only [← hl3_2])
                 go_roundg k2
                 case measure => have := HK1.out; have := HK2.out; omega
                 case rel => exact ⟨(y305), (wrap64 (x5_2 + 1)), zT, H', ⟨by have := HK1.out; have := HK2.out; omega⟩, ⟨by (try simp only [hl3_1]); (try simp only [hl3_2]); (with_reducible repeat (first | apply Kd.R_alloc | apply Kd.R_drewN | apply Kd.R_drew)); exact HQ28.out⟩, ⟨by (try simp only [hl3_1]); (try simp only [hl3_2]); (with_reducible repeat (first | refine blk_drewN ?_ _ | refine blk_drew ?_ | refine blk_alloc ?_ _)); refine blk_far ?_ (by have h_ := Kd.R_ne HO_3.out BK295.out (by decide); intro e_; exact h_ (by rw [e_]; rfl)) _; (with_reducible repeat (first | refine blk_drewN ?_ _ | refine blk_drew ?_ | refine blk_alloc ?_ _)); exact BK295.out⟩, ⟨by repeat (first | (with_reducible first | exact HB.out | apply below_alloc | apply pw_below_drewN | apply below_drew1 | refine below_set ?_ GB7.out | refine below_set ?_ GE295.out) | exact HB.out)⟩⟩
                ·rw [if_neg c23] at H
                 exact absurd H (by simp)
               ·rw [if_neg c22] at H
                exact absurd H (by simp)
              ·rw [if_neg c21] at H
               exact absurd H (by simp)
             ·rw [if_neg c20] at H
              exact absurd H (by simp)
            ·rw [if_neg c19] at H
             have c19b0 : (((rd_T69 l0_1 x5_2).f0) == x4_1) = false := beq_eq_false_iff_ne.mpr c19
             have c19b1 : (((rd_T69 l0_1 x5_2).f0) != x4_1) = true := bne_iff_ne.mpr c19
             have H' := Aside0.mk H
             clear H
             have hcz29_0 : wr.cell? ⟨gb295, 0, none⟩ = some (.int .i64 a0_0) := (blk_cell BK295.out 0).trans rfl
             have hcz29_1 : wr.cell? ⟨gb295, 1, none⟩ = some (.slice A0_1 l0_1.length c0_1) := (blk_cell BK295.out 1).trans rfl
             have hfz29_0 := blk_frozen BK295.out 0
             have hfz29_1 := blk_frozen BK295.out 1
             have p300 : 0 ≤ (x5_2 : Int) := of_decide_eq_true zh
             have q300 : x5_2 < (l0_1.length : Int) := of_decide_eq_true zh
             obtain ⟨ad300, e300, hx300_0, hx300_1, hx300_2⟩ := at_T69 HR0_1.out x5_2 p300 q300
             cases e300
             replace hx300_0 := (HB.out.cell (World.block_lt_of_cell? w _ hx300_0)).trans hx300_0
             replace hx300_1 := (HB.out.cell (World.block_lt_of_cell? w _ hx300_1)).trans hx300_1
             replace hx300_2 := (HB.out.cell (World.block_lt_of_cell? w _ hx300_2)).trans hx300_2
             replace p300 := eq_true p300
             replace q300 := eq_true q300
             go_wp2
             (try simp only [← hl3_2])
             go_roundg k2
             case measure => have := HK1.out; have := HK2.out; omega
             case rel => exact ⟨(x3_2), (wrap64 (x5_2 + 1)), zT, H', ⟨by have := HK1.out; have := HK2.out; omega⟩, ⟨by (try simp only [hl3_1]); (try simp only [hl3_2]); (with_reducible repeat (first | apply Kd.R_alloc | apply Kd.R_drewN | apply Kd.R_drew)); exact HO_3.out⟩, ⟨by (try simp only [hl3_1]); (try simp only [hl3_2]); (with_reducible repeat (first | refine blk_drewN ?_ _ | refine blk_drew ?_ | refine blk_alloc ?_ _)); exact BK295.out⟩, ⟨by repeat (first | (with_reducible first | exact HB.out | apply below_alloc | apply pw_below_drewN | apply below_drew1 | refine below_set ?_ GE295.out) | exact HB.out)⟩⟩
           ·rw [if_neg c18] at H
            exact absurd H (by simp)
          ·rw [if_neg c17] at H
           have c17b0 : decide (x5_2 < (l0_1.length : Int)) = false := decide_eq_false c17
           clear c17
           have H' := Aside0.mk H
           clear H
           have hcz30_0 : wr.cell? ⟨gb295, 0, none⟩ = some (.int .i64 a0_0) := (blk_cell BK295.out 0).trans rfl
           have hcz30_1 : wr.cell? ⟨gb295, 1, none⟩ = some (.slice A0_1 l0_1.length c0_1) := (blk_cell BK295.out 1).trans rfl
           have hfz30_0 := blk_frozen BK295.out 0
           have hfz30_1 := blk_frozen BK295.out 1
           go_wp2
           (try simp only [← hl3_1, ← hl3_2])
           go_roundg k2
           case measure => have := HK1.out; have := HK2.out; omega
           case rel => exact ⟨(x3_2), (wrap64 (x4_1 - 1)), zT, H', ⟨by have := HK1.out; have := HK2.out; omega⟩, ⟨by (try simp only [hl3_1]); (try simp only [hl3_2]); (with_reducible repeat (first | apply Kd.R_alloc | apply Kd.R_drewN | apply Kd.R_drew)); exact HO_3.out⟩, ⟨by (try simp only [hl3_1]); (try simp only [hl3_2]); (with_reducible repeat (first | refine blk_drewN ?_ _ | refine blk_drew ?_ | refine blk_alloc ?_ _)); exact BK295.out⟩, ⟨by repeat (first | (with_reducible first | exact HB.out | apply below_alloc | apply pw_below_drewN | apply below_drew1 | refine below_set ?_ GE295.out) | exact HB.out)⟩⟩
       ·rw [if_neg c16] at H
        have c16b0 : decide (0 ≤ x4_1) = false := decide_eq_false c16
        clear c16
        obtain rfl := Option.some.inj H
        go_wp2
        go_ret
        exact ⟨_, by first | rfl | (simp [errW_none, errW_some] <;> rfl) | (simp only [← hji4]; first | rfl | (simp [errW_none, errW_some] <;> rfl)) | (simp [*, errW_none, errW_some] <;> rfl), by (with_reducible repeat (first | apply Kd.R_alloc | apply Kd.R_drewN | apply Kd.R_drew)); exact HO_3.out, by repeat (first | (with_reducible first | exact HB.out | apply below_alloc | apply pw_below_drewN | apply below_drew1 | refine below_set ?_ GE295.out) | exact HB.out)⟩
    ·rw [if_neg c6] at H
     exact absurd H (by simp)
   ·rw [if_neg c5] at H
    exact absurd H (by simp)
  ·rw [if_neg c3] at H
   exact absurd H (by simp)
 ·rw [if_neg c2] at H
  exact absurd H (by simp)
end Go.Proofs.Ytanbffoilianhaa.E
