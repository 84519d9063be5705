-- Written by wip/tools/myprint.py, a program of this session's.
import Derived.Test.YtanbffoilianhaaE0
namespace Go.Proofs.Ytanbffoilianhaa.E
open Go.RowKit Go.Proofs.YtanbffoilianhaaW.PrintWords Go.Proofs.YtanbffoilianhaaW.PrintLast Go.Proofs.YtanbffoilianhaaW.PrintMore
attribute [local go_sem] max2_int min2_int max_two min_two max_three min_three max_four min_four   -- for this text's walks alone
set_option linter.unusedVariables false
set_option linter.unusedSimpArgs false
/-! ### ancepsref09_reached: function 66 -/
mutual
def ancepsref09_reached.l0 : Nat → List Bool → Int → Int → List (S69) → Option (List Bool)
 | 0, _, _, _, _ => none
 | k + 1, x3, x4, x435000, x435001 => if x4 < x435000 then (ancepsref09_reached.l1 k x3 x4 0 x435000 x435001) else (some x3)
def ancepsref09_reached.l1 : Nat → List Bool → Int → Int → Int → List (S69) → Option (List Bool)
 | 0, _, _, _, _, _ => none
 | k + 1, x3, x4, x5, x435000, x435001 => if x5 < (x435001.length : Int) then (if 0 ≤ x5 then (if ((rd_T69 x435001 x5).f0) = x4 then (if 0 ≤ x4 then (if x4 < (x3.length : Int) then (if rdOf false x3 x4 = true then (if 0 ≤ ((rd_T69 x435001 x5).f1) then (if ((rd_T69 x435001 x5).f1) < (x3.length : Int) then (ancepsref09_reached.l1 k (x3.set (((rd_T69 x435001 x5).f1) : Int).toNat true) x4 (wrap64 (x5 + 1)) x435000 x435001) else (none)) else (none)) else (ancepsref09_reached.l1 k x3 x4 (wrap64 (x5 + 1)) x435000 x435001)) else (none)) else (none)) else (ancepsref09_reached.l1 k x3 x4 (wrap64 (x5 + 1)) x435000 x435001)) else (none)) else (ancepsref09_reached.l0 k x3 (wrap64 (x4 + 1)) x435000 x435001)
end
def ancepsref09_reached.f (k : Nat) (a0_0 : Int) (l0_1 : List (S69)) : Option (List Bool) := if 0 ≤ a0_0 then (if (a0_0 : Int).toNat ≤ 281474976710656 then ((some (List.replicate (a0_0 : Int).toNat false : List Bool)).bind fun y435 => (if 0 < (y435.length : Int) then (ancepsref09_reached.l0 k (y435.set (0 : Int).toNat true) 0 a0_0 l0_1) else (none))) else (none)) else (none)
theorem ancepsref09_reached.mono_l : ∀ k, (∀ y0 y1 y2 y3, LeO (ancepsref09_reached.l0 k y0 y1 y2 y3) (ancepsref09_reached.l0 (k + 1) y0 y1 y2 y3)) ∧ (∀ y0 y1 y2 y3 y4, LeO (ancepsref09_reached.l1 k y0 y1 y2 y3 y4) (ancepsref09_reached.l1 (k + 1) y0 y1 y2 y3 y4))
 | 0 => ⟨fun _ _ _ _ r h => by simp [ancepsref09_reached.l0] at h, fun _ _ _ _ _ r h => by simp [ancepsref09_reached.l1] at h⟩
 | k + 1 => by
  obtain ⟨ih0, ih1⟩ := ancepsref09_reached.mono_l k
  refine ⟨?_, ?_⟩
  ·intro y0 y1 y2 y3
   unfold ancepsref09_reached.l0
   repeat' first
   | (with_reducible exact ih0 _ _ _ _)
   | (with_reducible exact ih1 _ _ _ _ _)
   | (with_reducible exact LeO.refl _)
   | (with_reducible exact LeO.none _)
   | (with_reducible refine LeO.ite ?_ ?_)
   | (with_reducible refine LeO.bind ?_ (fun _ => ?_))
   | exact ih0 _ _ _ _
   | exact ih1 _ _ _ _ _
   | exact LeO.none _
   | refine LeO.ite ?_ ?_
   | refine LeO.bind ?_ (fun _ => ?_)
  ·intro y0 y1 y2 y3 y4
   unfold ancepsref09_reached.l1
   repeat' first
   | (with_reducible exact ih0 _ _ _ _)
   | (with_reducible exact ih1 _ _ _ _ _)
   | (with_reducible exact LeO.refl _)
   | (with_reducible exact LeO.none _)
   | (with_reducible refine LeO.ite ?_ ?_)
   | (with_reducible refine LeO.bind ?_ (fun _ => ?_))
   | exact ih0 _ _ _ _
   | exact ih1 _ _ _ _ _
   | exact LeO.none _
   | refine LeO.ite ?_ ?_
   | refine LeO.bind ?_ (fun _ => ?_)
theorem ancepsref09_reached.mono : ∀ a0 a1 k, LeO (ancepsref09_reached.f k a0 a1) (ancepsref09_reached.f (k + 1) a0 a1) := by
 intro a0 a1 k
 obtain ⟨ih0, ih1⟩ := ancepsref09_reached.mono_l k
 unfold ancepsref09_reached.f
 repeat' first
   | (with_reducible exact ih0 _ _ _ _)
   | (with_reducible exact ih1 _ _ _ _ _)
   | (with_reducible exact LeO.refl _)
   | (with_reducible exact LeO.none _)
   | (with_reducible refine LeO.ite ?_ ?_)
   | (with_reducible refine LeO.bind ?_ (fun _ => ?_))
   | exact ih0 _ _ _ _
   | exact ih1 _ _ _ _ _
   | exact LeO.none _
   | refine LeO.ite ?_ ?_
   | refine LeO.bind ?_ (fun _ => ?_)
set_option maxHeartbeats 8000000 in
set_option maxRecDepth 100000 in
theorem ancepsref09_reached.calls (k : Nat) (a0_0 : Int) (A0_1 : Option Addr) (c0_1 : Nat) (l0_1 : List (S69)) (r : List Bool) (w : World) (hr0_1 : Kd.C k69 w A0_1 l0_1.length l0_1) (hc0_1 : l0_1.length ≤ c0_1) (h : ancepsref09_reached.f k a0_0 l0_1 = some r) :
  Calls Try.prog 66 #[.agg #[.int .i64 a0_0, .slice A0_1 l0_1.length c0_1]] w fun e w' => ∃ v0_ : Value, e = .returned (v0_) ∧ Kd.R Kd.bool 4 w' w.heap.size (fun _ => True) v0_ r ∧ Below w.heap.size w w' := by
 have hu24 := Try.underlying24
 have hu3 := Try.underlying3
 have hu4 := Try.underlying4
 have hu22 := Try.underlying22
 have HR0_1 := Aside0.mk hr0_1
 have HC0_1 := Aside0.mk hc0_1
 clear hr0_1 hc0_1
 have HB := Aside0.mk (Below.refl w.heap.size w)
 have H : (if 0 ≤ a0_0 then (if (a0_0 : Int).toNat ≤ 281474976710656 then ((some (List.replicate (a0_0 : Int).toNat false : List Bool)).bind fun y435 => (if 0 < (y435.length : Int) then (ancepsref09_reached.l0 k (y435.set (0 : Int).toNat true) 0 a0_0 l0_1) else (none))) else (none)) else (none)) = some r := h
 clear h
 by_cases c2 : 0 ≤ a0_0
 ·rw [if_pos c2] at H
  have c2b0 := eq_true c2
  have c2b1 : decide (0 ≤ a0_0) = true := decide_eq_true c2
  clear c2
  by_cases c3 : (a0_0 : Int).toNat ≤ 281474976710656
  ·rw [if_pos c3] at H
   have c3b0 := eq_true c3
   have c3b1 : decide ((a0_0 : Int).toNat ≤ 281474976710656) = true := decide_eq_true c3
   clear c3
   obtain ⟨y435, hy435⟩ : ∃ y_ : List Bool, y_ = (List.replicate (a0_0 : Int).toNat false) := ⟨_, rfl⟩
   replace H : (if 0 < (y435.length : Int) then (ancepsref09_reached.l0 k (y435.set (0 : Int).toNat true) 0 a0_0 l0_1) else (none)) = some r := by first | (rw [hy435]; with_reducible exact H) | (have H2_ := (Option.bind_some _ _).symm.trans H; rw [hy435]; with_reducible exact H2_) | (have H2_ := (Option.bind_some _ _).symm.trans H; with_reducible exact H2_) | with_reducible exact H | (rw [hy435]; exact H) | exact H
   have Ny435 := Aside0.mk hy435
   clear hy435
   by_cases c4 : 0 < (y435.length : Int)
   ·rw [if_pos c4] at H
    have c4b0 : decide (0 < (y435.length : Int)) = true := decide_eq_true c4
    have c4b1 : decide (0 < y435.length) = true := decide_eq_true (by omega)
    clear c4
    obtain ⟨y438, hy438⟩ : ∃ y_ : List Bool, y_ = (y435.set (0 : Int).toNat true) := ⟨_, rfl⟩
    replace H : (ancepsref09_reached.l0 k y438 0 a0_0 l0_1) = some r := by first | (rw [hy438]; with_reducible exact H) | (have H2_ := (Option.bind_some _ _).symm.trans H; rw [hy438]; with_reducible exact H2_) | (have H2_ := (Option.bind_some _ _).symm.trans H; with_reducible exact H2_) | with_reducible exact H | (rw [hy438]; exact H) | exact H
    have Ny438 := Aside0.mk hy438
    clear hy438
    have H' := Aside0.mk H
    clear H
    go_enter Try.func66, Try.ntmps66
    go_wp2_with (first | ((with_reducible refine gate_dst (N := 1) rfl ?_); refine box_event ?hg (N := 1) ?hd (cs := #[.int .i64 a0_0, .slice A0_1 l0_1.length c0_1]) (t := 24) ?hr ?_; (case hd => rfl); (case hg => rfl); (case hr => first | (go_simp; done) | (go_simp; rfl)); intro gb434 hg w6 hbox hb; have n0_ := Aside0.mk (below_step zB hb); have n1_ := Aside0.mk (hbox); have n2_ := Aside0.mk ((by rw [hg]; exact (below_size zB) : w.heap.size ≤ gb434)); have n3_ := Aside0.mk ((by rw [hg]; exact (below_size zB) : w.heap.size ≤ gb434)); clear HB; have HB := n0_; have BK434 := n1_; have GW434 := n2_; have GE434 := n3_; clear n0_ n1_ n2_ n3_; clear hb hbox hg; have hcz7_0 : w6.cell? ⟨gb434, 0, none⟩ = some (.int .i64 a0_0) := (blk_cell BK434.out 0).trans rfl; have hcz7_1 : w6.cell? ⟨gb434, 1, none⟩ = some (.slice A0_1 l0_1.length c0_1) := (blk_cell BK434.out 1).trans rfl; have hfz7_0 := blk_frozen BK434.out 0; have hfz7_1 := blk_frozen BK434.out 1) | ((with_reducible refine gate_dst (N := 8) rfl ?_); refine Kd.R_make Kd.bool _ 4 rfl (N := 8) rfl 79 _ _ rfl a0_0 rfl rfl Try.underlying79 (.bool false) 1 info4 rfl (by decide) (by omega) false (ok := fun _ => True) (okp := fun _ => True) rfl (fun _ hk => hk) trivial (of_decide_eq_true zh) (Nat.le_trans (Nat.mul_le_mul_right _ (of_decide_eq_true zh : a0_0.toNat ≤ 281474976710656)) (by omega)) (Below.refl _ _) (Nat.le_refl _) ?_; intro v436 w8 ho9 hb hg_ hnew_; clear hg_ hnew_; (first | rw [← Ny435.out] at ho9 | (simp only [Int.reduceToNat] at ho9; rw [← Ny435.out] at ho9)); have n0_ := Aside0.mk (Kd.R_lower ho9 (below_size zB)); have n1_ := Aside0.mk (blk_below (g := gb434) (o := .cells #[.int .i64 a0_0, .slice A0_1 l0_1.length c0_1] 24 (0, 0)) (zk BK434) hb); have n2_ := Aside0.mk (below_step zB hb); clear BK434; clear HB; have HO437 := n0_; have BK434 := n1_; have HB := n2_; clear n0_ n1_ n2_; clear hb ho9; have p5 : 0 ≤ (0 : Int) := (by omega); have q5 : (0 : Int) < ((y435.length : Int) : Int) := of_decide_eq_true zh; have qi5 : (0 < y435.length) = True := eq_true (by omega); obtain ⟨go5, co5, eo5, gb5, gl5, cl5, HG5⟩ := Kd.R_form HO437.out (by omega); (first | cases eo5 | (injection eo5 with ea_ en_ ec_; (first | subst ea_ | (injection ea_ with ea_; subst ea_)); subst ec_; clear en_)); have GB5 := Aside0.mk gb5; have GG5 := Aside0.mk HG5; clear gb5 gl5 HG5; obtain ⟨hx5_0, hf5_0⟩ := Kd.R_celln false HO437.out (0 : Int) p5 q5; (try rw [show ((0 : Int)).toNat = 0 from rfl] at hx5_0); (try simp only [Nat.reduceMul, Nat.zero_mul, Nat.zero_add, Nat.reduceAdd] at hx5_0); (try rw [show ((0 : Int)).toNat = 0 from rfl] at hf5_0); (try simp only [Nat.reduceMul, Nat.zero_mul, Nat.zero_add, Nat.reduceAdd] at hf5_0); replace p5 := eq_true p5; replace q5 := eq_true q5; obtain ⟨hy10_, hz10_⟩ := Kd.R_celln false HO437.out (0 : Int) (by omega) (of_decide_eq_true zh); (try simp only [Int.reduceToNat, Int.toNat_zero, Int.toNat_ofNat, Nat.reduceMul, Nat.zero_mul, Nat.zero_add] at hy10_ hz10_); (try rw [show ((0 : Int)).toNat = 0 from rfl] at hy10_); (try rw [show ((0 : Int)).toNat = 0 from rfl] at hz10_); have HP10 := Kd.R_putg HO437.out (0 : Int) true) | ((with_reducible refine gate_store (t := 4) (p := 10) rfl ?_); refine store_event (t := 4) (p := 10) (v := ?vo_w11) (w1 := (w8.setCell ⟨go5, (0 : Int).toNat, none⟩ (.bool true))) ?hg ?ho ?hn ?hr ?_; (case ho => rfl); (case hg => rfl); (case hn => rfl); (case hr => first | (go_simp; done) | (go_simp; rfl)); intro w11 hw; have hg : w8.grownBy w11 (some go5) := (by rw [hw]; exact HP10.2); have hp_ : Kd.R Kd.bool 4 w11 w.heap.size (fun _ => True) (.slice (some ⟨go5, 0, none⟩) y435.length co5) y438 := (by rw [hw, Ny438.out]; exact HP10.1); clear HP10; have n0_ := Aside0.mk (blk_grown (g := gb434) (o := .cells #[.int .i64 a0_0, .slice A0_1 l0_1.length c0_1] 24 (0, 0)) (zk BK434) hg (Kd.R_ne HO437.out BK434.out (by decide))); have n1_ := Aside0.mk (hp_); have n2_ := Aside0.mk ((by rw [hw]; exact below_set (HB.out) GB5.out : Below w.heap.size w w11)); clear BK434; clear HO437; clear HB; have BK434 := n0_; have HO437 := n1_; have HB := n2_; clear n0_ n1_ n2_; clear hg hw hp_))
    go_loopg [4] k (fun kq v4 w' => ∃ (x3_1 : List Bool) (x4_1 : Int), v4 = .int .i64 x4_1 ∧ Aside0 (ancepsref09_reached.l0 kq x3_1 x4_1 a0_0 l0_1 = some r) ∧ Aside0 (kq ≤ k) ∧ Aside0 (Kd.R Kd.bool 4 w' w.heap.size (fun _ => True) (.slice (some ⟨go5, 0, none⟩) y435.length co5) x3_1) ∧ Aside0 (w'.heap[gb434]? = some (.cells #[.int .i64 a0_0, (.slice A0_1 l0_1.length c0_1)] 24 (0, 0))) ∧ Aside0 (Below w.heap.size w w'))
    case atStart => exact ⟨(y438), (0), zT, H', ⟨Nat.le_refl _⟩, ⟨by (with_reducible repeat (first | apply Kd.R_alloc | apply Kd.R_drewN | apply Kd.R_drew)); exact HO437.out⟩, ⟨by (with_reducible repeat (first | refine blk_drewN ?_ _ | refine blk_drew ?_ | refine blk_alloc ?_ _)); exact BK434.out⟩, ⟨by repeat (first | (with_reducible first | exact HB.out | apply below_alloc | apply pw_below_drewN | apply below_drew1 | refine below_set ?_ GE434.out) | exact HB.out)⟩⟩
    case round =>
     clear H'
     try clear c2
     try clear c2b0
     try clear c2b1
     try clear p2
     try clear c3
     try clear c3b0
     try clear c3b1
     try clear c4
     try clear c4b0
     try clear c4b1
     try clear p5
     try clear q5
     try clear hx5
     try clear qi5
     try clear hf5
     try clear c6
     try clear hcz7_0
     try clear hcz7_1
     try clear hfz7_0
     try clear hfz7_1
     try clear hx5_0
     try clear p5
     try clear q5
     obtain ⟨x3_1, x4_1, rfl, HA, HK1, HO_3, BK434, HB⟩ := hrel
     have hl3_1 := (Kd.R_reads' HO_3.out).1
     rw [hl3_1] at HO_3
     (try simp only [hl3_1])
     (try simp only [hl3_1] at BK434)
     cases gk with
     | zero => exact absurd HA.out (by simp [ancepsref09_reached.l0])
     | succ k1 =>
      have H := HA.out
      clear HA
      simp only [ancepsref09_reached.l0] at H
      by_cases c12 : x4_1 < a0_0
      ·rw [if_pos c12] at H
       have c12b0 : decide (x4_1 < a0_0) = true := decide_eq_true c12
       clear c12
       have H' := Aside0.mk H
       clear H
       have hcz13_0 : wr.cell? ⟨gb434, 0, none⟩ = some (.int .i64 a0_0) := (blk_cell BK434.out 0).trans rfl
       have hcz13_1 : wr.cell? ⟨gb434, 1, none⟩ = some (.slice A0_1 l0_1.length c0_1) := (blk_cell BK434.out 1).trans rfl
       have hfz13_0 := blk_frozen BK434.out 0
       have hfz13_1 := blk_frozen BK434.out 1
       go_wp2
       go_loopg [5] k1 (fun kq v5 w' => ∃ (x3_2 : List Bool) (x5_2 : Int), v5 = .int .i64 x5_2 ∧ Aside0 (ancepsref09_reached.l1 kq x3_2 x4_1 x5_2 a0_0 l0_1 = some r) ∧ Aside0 (kq ≤ k1) ∧ Aside0 (Kd.R Kd.bool 4 w' w.heap.size (fun _ => True) (.slice (some ⟨go5, 0, none⟩) x3_1.length co5) x3_2) ∧ Aside0 (w'.heap[gb434]? = some (.cells #[.int .i64 a0_0, (.slice A0_1 l0_1.length c0_1)] 24 (0, 0))) ∧ Aside0 (Below w.heap.size w w'))
       case atStart => exact ⟨(x3_1), (0), zT, H', ⟨Nat.le_refl _⟩, ⟨by (try simp only [hl3_1]); (with_reducible repeat (first | apply Kd.R_alloc | apply Kd.R_drewN | apply Kd.R_drew)); exact HO_3.out⟩, ⟨by (try simp only [hl3_1]); (with_reducible repeat (first | refine blk_drewN ?_ _ | refine blk_drew ?_ | refine blk_alloc ?_ _)); exact BK434.out⟩, ⟨by repeat (first | (with_reducible first | exact HB.out | apply below_alloc | apply pw_below_drewN | apply below_drew1 | refine below_set ?_ GE434.out) | exact HB.out)⟩⟩
       case round =>
        clear H'
        try clear c1
        try clear c2
        try clear c2b0
        try clear c2b1
        try clear p2
        try clear c3
        try clear c3b0
        try clear c3b1
        try clear c4
        try clear c4b0
        try clear c4b1
        try clear p5
        try clear q5
        try clear hx5
        try clear qi5
        try clear hf5
        try clear c6
        try clear c12
        try clear c12b0
        try clear hcz13_0
        try clear hcz13_1
        try clear hcz7_0
        try clear hcz7_1
        try clear hfz13_0
        try clear hfz13_1
        try clear hfz7_0
        try clear hfz7_1
        try clear hx5_0
        try clear p2
        try clear p5
        try clear q5
        obtain ⟨x3_2, x5_2, rfl, HA, HK2, HO_3, BK434, HB⟩ := hrel
        have hl3_2 := (Kd.R_reads' HO_3.out).1
        rw [hl3_2] at HO_3
        (try simp only [hl3_2])
        (try simp only [hl3_2] at BK434)
        cases gk with
        | zero => exact absurd HA.out (by simp [ancepsref09_reached.l1])
        | succ k2 =>
         have H := HA.out
         clear HA
         simp only [ancepsref09_reached.l1] at H
         by_cases c14 : x5_2 < (l0_1.length : Int)
         ·rw [if_pos c14] at H
          have c14b0 : decide (x5_2 < (l0_1.length : Int)) = true := decide_eq_true c14
          clear c14
          by_cases c15 : 0 ≤ x5_2
          ·rw [if_pos c15] at H
           have c15b0 : decide (0 ≤ x5_2) = true := decide_eq_true c15
           clear c15
           by_cases c16 : ((rd_T69 l0_1 x5_2).f0) = x4_1
           ·rw [if_pos c16] at H
            have c16b0 : (((rd_T69 l0_1 x5_2).f0) == x4_1) = true := beq_iff_eq.mpr c16
            have c16b1 : (((rd_T69 l0_1 x5_2).f0) != x4_1) = false := bne_eq_false_iff_eq.mpr c16
            clear c16
            by_cases c17 : 0 ≤ x4_1
            ·rw [if_pos c17] at H
             have c17b0 : decide (0 ≤ x4_1) = true := decide_eq_true c17
             clear c17
             by_cases c18 : x4_1 < (x3_2.length : Int)
             ·rw [if_pos c18] at H
              have c18b0 : decide (x4_1 < (x3_2.length : Int)) = true := decide_eq_true c18
              clear c18
              obtain ⟨bq19, hbq19⟩ : ∃ b_ : Bool, b_ = (rdOf false x3_2 x4_1) := ⟨_, rfl⟩
              replace H : (if bq19 = true then (if 0 ≤ ((rd_T69 l0_1 x5_2).f1) then (if ((rd_T69 l0_1 x5_2).f1) < (x3_2.length : Int) then (ancepsref09_reached.l1 k2 (x3_2.set (((rd_T69 l0_1 x5_2).f1) : Int).toNat true) x4_1 (wrap64 (x5_2 + 1)) a0_0 l0_1) else (none)) else (none)) else (ancepsref09_reached.l1 k2 x3_2 x4_1 (wrap64 (x5_2 + 1)) a0_0 l0_1)) = some r := by rw [← hbq19] at H; exact H
              have Nbq19 := Aside0.mk hbq19
              clear hbq19
              by_cases c20 : bq19 = true
              ·subst c20
               have H1 : (if 0 ≤ ((rd_T69 l0_1 x5_2).f1) then (if ((rd_T69 l0_1 x5_2).f1) < (x3_2.length : Int) then (ancepsref09_reached.l1 k2 (x3_2.set (((rd_T69 l0_1 x5_2).f1) : Int).toNat true) x4_1 (wrap64 (x5_2 + 1)) a0_0 l0_1) else (none)) else (none)) = some r := by rw [if_pos rfl] at H; exact H
               clear H
               have H := H1
               clear H1
               by_cases c21 : 0 ≤ ((rd_T69 l0_1 x5_2).f1)
               ·rw [if_pos c21] at H
                have c21b0 : decide (0 ≤ ((rd_T69 l0_1 x5_2).f1)) = true := decide_eq_true c21
                clear c21
                by_cases c22 : ((rd_T69 l0_1 x5_2).f1) < (x3_2.length : Int)
                ·rw [if_pos c22] at H
                 have c22b0 : decide (((rd_T69 l0_1 x5_2).f1) < (x3_2.length : Int)) = true := decide_eq_true c22
                 clear c22
                 obtain ⟨y442, hy442⟩ : ∃ y_ : List Bool, y_ = (x3_2.set (((rd_T69 l0_1 x5_2).f1) : Int).toNat true) := ⟨_, rfl⟩
                 replace H : (ancepsref09_reached.l1 k2 y442 x4_1 (wrap64 (x5_2 + 1)) a0_0 l0_1) = some r := by first | (rw [hy442]; with_reducible exact H) | (have H2_ := (Option.bind_some _ _).symm.trans H; rw [hy442]; with_reducible exact H2_) | (have H2_ := (Option.bind_some _ _).symm.trans H; with_reducible exact H2_) | with_reducible exact H | (rw [hy442]; exact H) | exact H
                 have Ny442 := Aside0.mk hy442
                 clear hy442
                 have H' := Aside0.mk H
                 clear H
                 have hcz24_0 : wr.cell? ⟨gb434, 0, none⟩ = some (.int .i64 a0_0) := (blk_cell BK434.out 0).trans rfl
                 have hcz24_1 : wr.cell? ⟨gb434, 1, none⟩ = some (.slice A0_1 l0_1.length c0_1) := (blk_cell BK434.out 1).trans rfl
                 have hfz24_0 := blk_frozen BK434.out 0
                 have hfz24_1 := blk_frozen BK434.out 1
                 have p439 : 0 ≤ (x5_2 : Int) := of_decide_eq_true zh
                 have q439 : x5_2 < (l0_1.length : Int) := of_decide_eq_true zh
                 obtain ⟨ad439, e439, hx439_0, hx439_1, hx439_2⟩ := at_T69 HR0_1.out x5_2 p439 q439
                 cases e439
                 replace hx439_0 := (HB.out.cell (World.block_lt_of_cell? w _ hx439_0)).trans hx439_0
                 replace hx439_1 := (HB.out.cell (World.block_lt_of_cell? w _ hx439_1)).trans hx439_1
                 replace hx439_2 := (HB.out.cell (World.block_lt_of_cell? w _ hx439_2)).trans hx439_2
                 replace p439 := eq_true p439
                 replace q439 := eq_true q439
                 have p440 : 0 ≤ (x4_1 : Int) := of_decide_eq_true zh
                 have q440 : x4_1 < (x3_2.length : Int) := of_decide_eq_true zh
                 obtain ⟨ad440, e440, hx440_0⟩ := Kd.at_bool (Kd.R_reads' HO_3.out).2.2 x4_1 p440 q440
                 (try rw [← Nbq19.out] at hx440_0)
                 obtain rfl : (⟨go5, 0, none⟩ : Addr) = ad440 := (by injection e440)
                 (first | simp only [add_plain] at hx440_0 | simp only [add_at] at hx440_0 | simp only [Addr.add, Nat.zero_add] at hx440_0 | skip)
                 replace p440 := eq_true p440
                 replace q440 := eq_true q440
                 have p441 : 0 ≤ (x5_2 : Int) := of_decide_eq_true zh
                 have q441 : x5_2 < (l0_1.length : Int) := of_decide_eq_true zh
                 obtain ⟨ad441, e441, hx441_0, hx441_1, hx441_2⟩ := at_T69 HR0_1.out x5_2 p441 q441
                 obtain rfl : ad439 = ad441 := (by injection e441)
                 replace hx441_0 := (HB.out.cell (World.block_lt_of_cell? w _ hx441_0)).trans hx441_0
                 replace hx441_1 := (HB.out.cell (World.block_lt_of_cell? w _ hx441_1)).trans hx441_1
                 replace hx441_2 := (HB.out.cell (World.block_lt_of_cell? w _ hx441_2)).trans hx441_2
                 replace p441 := eq_true p441
                 replace q441 := eq_true q441
                 have p23 : 0 ≤ (((rd_T69 l0_1 x5_2).f1) : Int) := of_decide_eq_true zh
                 have q23 : (((rd_T69 l0_1 x5_2).f1) : Int) < ((x3_2.length : Int) : Int) := of_decide_eq_true zh
                 obtain ⟨hx23_0, hf23_0⟩ := Kd.R_celln false HO_3.out (((rd_T69 l0_1 x5_2).f1) : Int) p23 q23
                 replace p23 := eq_true p23
                 replace q23 := eq_true q23
                 have HP25 := Kd.R_putg HO_3.out (((rd_T69 l0_1 x5_2).f1) : Int) true
                 go_wp2_with (first | ((with_reducible refine gate_store (t := 4) (p := 45) rfl ?_); refine store_event (t := 4) (p := 45) (v := ?vo_w26) (w1 := (wr.setCell ⟨go5, (((rd_T69 l0_1 x5_2).f1) : Int).toNat, none⟩ (.bool true))) ?hg ?ho ?hn ?hr ?_; (case ho => rfl); (case hg => rfl); (case hn => rfl); (case hr => first | (go_simp; done) | (go_simp; rfl)); intro w26 hw; have hg : wr.grownBy w26 (some go5) := (by rw [hw]; exact HP25.2); have hp_ : Kd.R Kd.bool 4 w26 w.heap.size (fun _ => True) (.slice (some ⟨go5, 0, none⟩) x3_2.length co5) y442 := (by rw [hw, Ny442.out]; exact HP25.1); clear HP25; have n0_ := Aside0.mk (hp_); have n1_ := Aside0.mk (blk_grown (g := gb434) (o := .cells #[.int .i64 a0_0, .slice (some ad439) l0_1.length c0_1] 24 (0, 0)) (zk BK434) hg (Kd.R_ne HO_3.out BK434.out (by decide))); have n2_ := Aside0.mk ((by rw [hw]; exact below_set (HB.out) GB5.out : Below w.heap.size w w26)); clear HO_3; clear BK434; clear HB; have HO_3 := n0_; have BK434 := n1_; have HB := n2_; clear n0_ n1_ n2_; clear hg hw hp_))
                 (try simp only [← hl3_2])
                 go_roundg k2
                 case measure => have := HK1.out; have := HK2.out; omega
                 case rel => exact ⟨(y442), (wrap64 (x5_2 + 1)), zT, H', ⟨by have := HK1.out; have := HK2.out; omega⟩, ⟨by (try simp only [hl3_1]); (try simp only [hl3_2]); (with_reducible repeat (first | apply Kd.R_alloc | apply Kd.R_drewN | apply Kd.R_drew)); exact HO_3.out⟩, ⟨by (try simp only [hl3_1]); (try simp only [hl3_2]); (with_reducible repeat (first | refine blk_drewN ?_ _ | refine blk_drew ?_ | refine blk_alloc ?_ _)); exact BK434.out⟩, ⟨by repeat (first | (with_reducible first | exact HB.out | apply below_alloc | apply pw_below_drewN | apply below_drew1 | refine below_set ?_ GE434.out) | exact HB.out)⟩⟩
                ·rw [if_neg c22] at H
                 exact absurd H (by simp)
               ·rw [if_neg c21] at H
                exact absurd H (by simp)
              ·replace c20 := Bool.eq_false_iff.mpr c20
               subst c20
               have H1 : (ancepsref09_reached.l1 k2 x3_2 x4_1 (wrap64 (x5_2 + 1)) a0_0 l0_1) = some r := by rw [if_neg (show ¬ (false = true) by decide)] at H; exact H
               clear H
               have H := H1
               clear H1
               have H' := Aside0.mk H
               clear H
               have hcz27_0 : wr.cell? ⟨gb434, 0, none⟩ = some (.int .i64 a0_0) := (blk_cell BK434.out 0).trans rfl
               have hcz27_1 : wr.cell? ⟨gb434, 1, none⟩ = some (.slice A0_1 l0_1.length c0_1) := (blk_cell BK434.out 1).trans rfl
               have hfz27_0 := blk_frozen BK434.out 0
               have hfz27_1 := blk_frozen BK434.out 1
               have p439 : 0 ≤ (x5_2 : Int) := of_decide_eq_true zh
               have q439 : x5_2 < (l0_1.length : Int) := of_decide_eq_true zh
               obtain ⟨ad439, e439, hx439_0, hx439_1, hx439_2⟩ := at_T69 HR0_1.out x5_2 p439 q439
               cases e439
               replace hx439_0 := (HB.out.cell (World.block_lt_of_cell? w _ hx439_0)).trans hx439_0
               replace hx439_1 := (HB.out.cell (World.block_lt_of_cell? w _ hx439_1)).trans hx439_1
               replace hx439_2 := (HB.out.cell (World.block_lt_of_cell? w _ hx439_2)).trans hx439_2
               replace p439 := eq_true p439
               replace q439 := eq_true q439
               have p440 : 0 ≤ (x4_1 : Int) := of_decide_eq_true zh
               have q440 : x4_1 < (x3_2.length : Int) := of_decide_eq_true zh
               obtain ⟨ad440, e440, hx440_0⟩ := Kd.at_bool (Kd.R_reads' HO_3.out).2.2 x4_1 p440 q440
               (try rw [← Nbq19.out] at hx440_0)
               obtain rfl : (⟨go5, 0, none⟩ : Addr) = ad440 := (by injection e440)
               (first | simp only [add_plain] at hx440_0 | simp only [add_at] at hx440_0 | simp only [Addr.add, Nat.zero_add] at hx440_0 | skip)
               replace p440 := eq_true p440
               replace q440 := eq_true q440
               go_wp2
               (try simp only [← hl3_2])
               go_roundg k2
               case measure => have := HK1.out; have := HK2.out; omega
               case rel => exact ⟨(x3_2), (wrap64 (x5_2 + 1)), zT, H', ⟨by have := HK1.out; have := HK2.out; omega⟩, ⟨by (try simp only [hl3_1]); (try simp only [hl3_2]); (with_reducible repeat (first | apply Kd.R_alloc | apply Kd.R_drewN | apply Kd.R_drew)); exact HO_3.out⟩, ⟨by (try simp only [hl3_1]); (try simp only [hl3_2]); (with_reducible repeat (first | refine blk_drewN ?_ _ | refine blk_drew ?_ | refine blk_alloc ?_ _)); exact BK434.out⟩, ⟨by repeat (first | (with_reducible first | exact HB.out | apply below_alloc | apply pw_below_drewN | apply below_drew1 | refine below_set ?_ GE434.out) | exact HB.out)⟩⟩
             ·rw [if_neg c18] at H
              exact absurd H (by simp)
            ·rw [if_neg c17] at H
             exact absurd H (by simp)
           ·rw [if_neg c16] at H
            have c16b0 : (((rd_T69 l0_1 x5_2).f0) == x4_1) = false := beq_eq_false_iff_ne.mpr c16
            have c16b1 : (((rd_T69 l0_1 x5_2).f0) != x4_1) = true := bne_iff_ne.mpr c16
            have H' := Aside0.mk H
            clear H
            have hcz28_0 : wr.cell? ⟨gb434, 0, none⟩ = some (.int .i64 a0_0) := (blk_cell BK434.out 0).trans rfl
            have hcz28_1 : wr.cell? ⟨gb434, 1, none⟩ = some (.slice A0_1 l0_1.length c0_1) := (blk_cell BK434.out 1).trans rfl
            have hfz28_0 := blk_frozen BK434.out 0
            have hfz28_1 := blk_frozen BK434.out 1
            have p439 : 0 ≤ (x5_2 : Int) := of_decide_eq_true zh
            have q439 : x5_2 < (l0_1.length : Int) := of_decide_eq_true zh
            obtain ⟨ad439, e439, hx439_0, hx439_1, hx439_2⟩ := at_T69 HR0_1.out x5_2 p439 q439
            cases e439
            replace hx439_0 := (HB.out.cell (World.block_lt_of_cell? w _ hx439_0)).trans hx439_0
            replace hx439_1 := (HB.out.cell (World.block_lt_of_cell? w _ hx439_1)).trans hx439_1
            replace hx439_2 := (HB.out.cell (World.block_lt_of_cell? w _ hx439_2)).trans hx439_2
            replace p439 := eq_true p439
            replace q439 := eq_true q439
            go_wp2
            (try simp only [← hl3_2])
            go_roundg k2
            case measure => have := HK1.out; have := HK2.out; omega
            case rel => exact ⟨(x3_2), (wrap64 (x5_2 + 1)), zT, H', ⟨by have := HK1.out; have := HK2.out; omega⟩, ⟨by (try simp only [hl3_1]); (try simp only [hl3_2]); (with_reducible repeat (first | apply Kd.R_alloc | apply Kd.R_drewN | apply Kd.R_drew)); exact HO_3.out⟩, ⟨by (try simp only [hl3_1]); (try simp only [hl3_2]); (with_reducible repeat (first | refine blk_drewN ?_ _ | refine blk_drew ?_ | refine blk_alloc ?_ _)); exact BK434.out⟩, ⟨by repeat (first | (with_reducible first | exact HB.out | apply below_alloc | apply pw_below_drewN | apply below_drew1 | refine below_set ?_ GE434.out) | exact HB.out)⟩⟩
          ·rw [if_neg c15] at H
           exact absurd H (by simp)
         ·rw [if_neg c14] at H
          have c14b0 : decide (x5_2 < (l0_1.length : Int)) = false := decide_eq_false c14
          clear c14
          have H' := Aside0.mk H
          clear H
          have hcz29_0 : wr.cell? ⟨gb434, 0, none⟩ = some (.int .i64 a0_0) := (blk_cell BK434.out 0).trans rfl
          have hcz29_1 : wr.cell? ⟨gb434, 1, none⟩ = some (.slice A0_1 l0_1.length c0_1) := (blk_cell BK434.out 1).trans rfl
          have hfz29_0 := blk_frozen BK434.out 0
          have hfz29_1 := blk_frozen BK434.out 1
          go_wp2
          (try simp only [← hl3_1, ← hl3_2])
          go_roundg k2
          case measure => have := HK1.out; have := HK2.out; omega
          case rel => exact ⟨(x3_2), (wrap64 (x4_1 + 1)), zT, H', ⟨by have := HK1.out; have := HK2.out; omega⟩, ⟨by (try simp only [hl3_1]); (try simp only [hl3_2]); (with_reducible repeat (first | apply Kd.R_alloc | apply Kd.R_drewN | apply Kd.R_drew)); exact HO_3.out⟩, ⟨by (try simp only [hl3_1]); (try simp only [hl3_2]); (with_reducible repeat (first | refine blk_drewN ?_ _ | refine blk_drew ?_ | refine blk_alloc ?_ _)); exact BK434.out⟩, ⟨by repeat (first | (with_reducible first | exact HB.out | apply below_alloc | apply pw_below_drewN | apply below_drew1 | refine below_set ?_ GE434.out) | exact HB.out)⟩⟩
      ·rw [if_neg c12] at H
       have c12b0 : decide (x4_1 < a0_0) = false := decide_eq_false c12
       clear c12
       obtain rfl := Option.some.inj H
       have hcz30_0 : wr.cell? ⟨gb434, 0, none⟩ = some (.int .i64 a0_0) := (blk_cell BK434.out 0).trans rfl
       have hcz30_1 : wr.cell? ⟨gb434, 1, none⟩ = some (.slice A0_1 l0_1.length c0_1) := (blk_cell BK434.out 1).trans rfl
       have hfz30_0 := blk_frozen BK434.out 0
       have hfz30_1 := blk_frozen BK434.out 1
       go_wp2
       go_ret
       exact ⟨_, by first | rfl | (simp [errW_none, errW_some] <;> rfl) | (simp [*, errW_none, errW_some] <;> rfl), by (with_reducible repeat (first | apply Kd.R_alloc | apply Kd.R_drewN | apply Kd.R_drew)); exact HO_3.out, by repeat (first | (with_reducible first | exact HB.out | apply below_alloc | apply pw_below_drewN | apply below_drew1 | refine below_set ?_ GE434.out) | exact HB.out)⟩
   ·rw [if_neg c4] at H
    exact absurd H (by simp)
  ·rw [if_neg c3] at H
   exact absurd H (by simp)
 ·rw [if_neg c2] at H
  exact absurd H (by simp)
end Go.Proofs.Ytanbffoilianhaa.E
