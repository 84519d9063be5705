-- Written by wip/tools/myprint.py, a program of this session's.
import Derived.Test.YtbagnalcabdlhaaS0
import Derived.Test.YtbagnalcabdlhaaS6
import Derived.Test.YtbagnalcabdlhaaS7
import Derived.Test.YtbagnalcabdlhaaS8
import Derived.Test.YtbagnalcabdlhaaS20
import Derived.Test.YtbagnalcabdlhaaS21
namespace Go.Proofs.Ytbagnalcabdlhaa.S
open Go.RowKit Go.Proofs.YtbagnalcabdlhaaW.PrintWords Go.Proofs.YtbagnalcabdlhaaW.PrintLast Go.Proofs.YtbagnalcabdlhaaW.PrintMore
attribute [local go_sem] max2_int min2_int max_two min_two max_three min_three max_four min_four   -- for this text's walks alone
set_option linter.unusedVariables false
set_option linter.unusedSimpArgs false
/-! ### ancepsref40_Check: function 20 -/
mutual
def ancepsref40_Check.j0 : Nat → List (S61) → Bool → List (S35) → Option (Bool)
 | 0, _, _, _ => none
 | k + 1, x0, x21, x596000 => if x21 = true then (some false) else (if 0 ≤ (x596000.length : Int) then (if ((x596000.length : Int) : Int).toNat ≤ 281474976710656 then ((ancepsref40_below.f k x0 x596000 0 0 0 (List.replicate ((x596000.length : Int) : Int).toNat false)).bind fun bt600 => (if bt600.1 = true then (ancepsref40_Check.l0 k bt600.2 0) else (some false))) else (none)) else (none))
def ancepsref40_Check.l0 : Nat → List Bool → Int → Option (Bool)
 | 0, _, _ => none
 | k + 1, x5, x6 => if x6 < (x5.length : Int) then (if 0 ≤ x6 then (if rdOf false x5 x6 = true then (ancepsref40_Check.l0 k x5 (wrap64 (x6 + 1))) else (some false)) else (none)) else (some true)
end
def ancepsref40_Check.f (k : Nat) (l0 : List (S61)) (l1_0 : List (S35)) : Option (Bool) := (ancepsref40_Valid.f k l0).bind fun t596 => (if t596 = 0 then (if (l1_0.length : Int) = 0 then (ancepsref40_Check.j0 k l0 true l1_0) else (ancepsref40_Check.j0 k l0 (decide ((l1_0.length : Int) > 2000)) l1_0)) else (ancepsref40_Check.j0 k l0 true l1_0))
theorem ancepsref40_Check.mono_l : ∀ k, (∀ y0 y1 y2, LeO (ancepsref40_Check.j0 k y0 y1 y2) (ancepsref40_Check.j0 (k + 1) y0 y1 y2)) ∧ (∀ y0 y1, LeO (ancepsref40_Check.l0 k y0 y1) (ancepsref40_Check.l0 (k + 1) y0 y1))
 | 0 => ⟨fun _ _ _ r h => by simp [ancepsref40_Check.j0] at h, fun _ _ r h => by simp [ancepsref40_Check.l0] at h⟩
 | k + 1 => by
  obtain ⟨ih0, ih1⟩ := ancepsref40_Check.mono_l k
  refine ⟨?_, ?_⟩
  ·intro y0 y1 y2
   unfold ancepsref40_Check.j0
   repeat' first
   | (with_reducible exact ih0 _ _ _)
   | (with_reducible exact ih1 _ _)
   | (with_reducible exact ancepsref40_Valid.mono _ _)
   | (with_reducible exact ancepsref40_below.mono _ _ _ _ _ _ _)
   | (with_reducible exact LeO.refl _)
   | (with_reducible exact LeO.none _)
   | (with_reducible refine LeO.ite ?_ ?_)
   | (with_reducible refine LeO.bind ?_ (fun _ => ?_))
   | exact ih0 _ _ _
   | exact ih1 _ _
   | exact ancepsref40_Valid.mono _ _
   | exact ancepsref40_below.mono _ _ _ _ _ _ _
   | exact LeO.none _
   | refine LeO.ite ?_ ?_
   | refine LeO.bind ?_ (fun _ => ?_)
  ·intro y0 y1
   unfold ancepsref40_Check.l0
   repeat' first
   | (with_reducible exact ih0 _ _ _)
   | (with_reducible exact ih1 _ _)
   | (with_reducible exact ancepsref40_Valid.mono _ _)
   | (with_reducible exact ancepsref40_below.mono _ _ _ _ _ _ _)
   | (with_reducible exact LeO.refl _)
   | (with_reducible exact LeO.none _)
   | (with_reducible refine LeO.ite ?_ ?_)
   | (with_reducible refine LeO.bind ?_ (fun _ => ?_))
   | exact ih0 _ _ _
   | exact ih1 _ _
   | exact ancepsref40_Valid.mono _ _
   | exact ancepsref40_below.mono _ _ _ _ _ _ _
   | exact LeO.none _
   | refine LeO.ite ?_ ?_
   | refine LeO.bind ?_ (fun _ => ?_)
theorem ancepsref40_Check.mono : ∀ a0 a1 k, LeO (ancepsref40_Check.f k a0 a1) (ancepsref40_Check.f (k + 1) a0 a1) := by
 intro a0 a1 k
 obtain ⟨ih0, ih1⟩ := ancepsref40_Check.mono_l k
 unfold ancepsref40_Check.f
 repeat' first
   | (with_reducible exact ih0 _ _ _)
   | (with_reducible exact ih1 _ _)
   | (with_reducible exact ancepsref40_Valid.mono _ _)
   | (with_reducible exact ancepsref40_below.mono _ _ _ _ _ _ _)
   | (with_reducible exact LeO.refl _)
   | (with_reducible exact LeO.none _)
   | (with_reducible refine LeO.ite ?_ ?_)
   | (with_reducible refine LeO.bind ?_ (fun _ => ?_))
   | exact ih0 _ _ _
   | exact ih1 _ _
   | exact ancepsref40_Valid.mono _ _
   | exact ancepsref40_below.mono _ _ _ _ _ _ _
   | exact LeO.none _
   | refine LeO.ite ?_ ?_
   | refine LeO.bind ?_ (fun _ => ?_)
set_option maxHeartbeats 8000000 in
set_option maxRecDepth 100000 in
theorem ancepsref40_Check.calls (k : Nat) (A0 : Option Addr) (c0 : Nat) (l0 : List (S61)) (A1_0 : Option Addr) (c1_0 : Nat) (l1_0 : List (S35)) (r : Bool) (w : World) (hr0 : Kd.C k61 w A0 l0.length l0) (hc0 : l0.length ≤ c0) (hr1_0 : Kd.C k35 w A1_0 l1_0.length l1_0) (hc1_0 : l1_0.length ≤ c1_0) (h : ancepsref40_Check.f k l0 l1_0 = some r) :
  Calls Try.prog 20 #[.slice A0 l0.length c0, .agg #[.slice A1_0 l1_0.length c1_0]] w fun e w' => e = .returned (.bool r) ∧ Below w.heap.size w w' := by
 have hu27 := Try.underlying27
 have hu25 := Try.underlying25
 have hu74 := Try.underlying74
 have hu4 := Try.underlying4
 have HR0 := Aside0.mk hr0
 have HC0 := Aside0.mk hc0
 clear hr0 hc0
 have HR1_0 := Aside0.mk hr1_0
 have HC1_0 := Aside0.mk hc1_0
 clear hr1_0 hc1_0
 have HB := Aside0.mk (Below.refl w.heap.size w)
 have H : ((ancepsref40_Valid.f k l0).bind fun t596 => (if t596 = 0 then (if (l1_0.length : Int) = 0 then (ancepsref40_Check.j0 k l0 true l1_0) else (ancepsref40_Check.j0 k l0 (decide ((l1_0.length : Int) > 2000)) l1_0)) else (ancepsref40_Check.j0 k l0 true l1_0))) = some r := h
 clear h
 have HC3 := Aside0.mk H
 clear H
 go_enter Try.func20, Try.ntmps20
 go_upto_region 1 with (first | ((with_reducible refine gate_dst (N := 3) rfl ?_); (try (refine gate_guard (by rfl) ?_; dsimp only)); refine box_event ?hg (N := 3) ?hd (cs := #[.slice A1_0 l1_0.length c1_0]) (t := 27) ?hr ?_; (case hd => rfl); (case hg => rfl); (case hr => first | (go_simp; done) | (go_simp; rfl)); intro gb595 hg w4 hbox hb; have n0_ := Aside0.mk (below_step zB hb); have n1_ := Aside0.mk (hbox); have n2_ := Aside0.mk ((by rw [hg]; exact (below_size zB) : w.heap.size ≤ gb595)); have n3_ := Aside0.mk ((by rw [hg]; exact (below_size zB) : w.heap.size ≤ gb595)); clear HB; have HB := n0_; have BK595 := n1_; have GW595 := n2_; have GE595 := n3_; clear n0_ n1_ n2_ n3_; clear hb hbox hg))
 (try simp only [Act.put, List.setIfInBounds_toArray, List.set_cons_zero, List.set_cons_succ])
 go_cut [21] (fun v21 wc => ∃ (kq : Nat) (x21_2 : Bool), v21 = .bool x21_2 ∧ Aside0 (ancepsref40_Check.j0 kq l0 x21_2 l1_0 = some r) ∧ Aside0 (kq ≤ k) ∧ Aside0 (wc.heap[gb595]? = some (.cells #[(.slice A1_0 l1_0.length c1_0)] 27 (0, 0))) ∧ Aside0 (Below w.heap.size w wc))
 case first =>
  have H := HC3.out
  clear HC3
  replace H := Option.bind_eq_some_iff.mp H
  obtain ⟨t596, A50, H⟩ := H
  replace H : (if t596 = 0 then (if (l1_0.length : Int) = 0 then (ancepsref40_Check.j0 k l0 true l1_0) else (ancepsref40_Check.j0 k l0 (decide ((l1_0.length : Int) > 2000)) l1_0)) else (ancepsref40_Check.j0 k l0 true l1_0)) = some r := H
  have A5 := Aside0.mk A50
  clear A50
  by_cases c6 : t596 = 0
  ·rw [if_pos c6] at H
   have c6b0 : (t596 == 0) = true := beq_iff_eq.mpr c6
   have c6b1 : (t596 != 0) = false := bne_eq_false_iff_eq.mpr c6
   clear c6
   (first | rw [c6b0] | (simp only [i64_w, i32_w]; rw [c6b0]) | skip)
   (try rw [c6b1])
   by_cases c7 : (l1_0.length : Int) = 0
   ·rw [if_pos c7] at H
    have c7b0 : ((l1_0.length : Int) == 0) = true := beq_iff_eq.mpr c7
    have c7b1 : ((l1_0.length : Int) != 0) = false := bne_eq_false_iff_eq.mpr c7
    clear c7
    have H' := Aside0.mk H
    clear H
    go_wp2_with (first | ((with_reducible refine gate_callee (f := 50) rfl ?_); refine goesL_ (some 8) rfl rfl Try.func50 zK rfl #[.slice A0 l0.length c0] rfl zM ?_; (with_reducible refine (ancepsref40_Valid.calls k _ _ l0 t596 _ ?side1 ?side2 A5.out).mono ?_); (case side1 => repeat (first | exact (Kd.C_below HR0.out HB.out) | (with_reducible refine Kd.C_alloc ?_ _) | (with_reducible refine Kd.C_drewN ?_ _) | (with_reducible refine Kd.C_drew ?_))); (case side2 => exact HC0.out); rintro e w8 ⟨rfl, hb⟩; refine ⟨_, rfl, ?_⟩; have n0_ := Aside0.mk (blk_below (g := gb595) (o := .cells #[.slice A1_0 l1_0.length c1_0] 27 (0, 0)) (zk BK595) hb); have n1_ := Aside0.mk (below_step zB hb); clear BK595; clear HB; have BK595 := n0_; have HB := n1_; clear n0_ n1_; (try clear hb); (try clear hb2); (try clear hk); (try clear hi); have hcz9_0 : w8.cell? ⟨gb595, 0, none⟩ = some (.slice A1_0 l1_0.length c1_0) := (blk_cell BK595.out 0).trans rfl; have hfz9_0 := blk_frozen BK595.out 0))
    go_meet
    case rel => exact ⟨_, (true), zT, H', ⟨by first | omega | exact Nat.le_refl _⟩, ⟨by (with_reducible repeat (first | refine blk_drewN ?_ _ | refine blk_drew ?_ | refine blk_alloc ?_ _)); exact BK595.out⟩, ⟨by repeat (first | (with_reducible first | exact HB.out | apply below_alloc | apply pw_below_drewN | apply below_drew1 | refine below_set ?_ GE595.out) | exact HB.out)⟩⟩
   ·rw [if_neg c7] at H
    have c7b0 : ((l1_0.length : Int) == 0) = false := beq_eq_false_iff_ne.mpr c7
    have c7b1 : ((l1_0.length : Int) != 0) = true := bne_iff_ne.mpr c7
    have c7b2 : ¬ (l1_0 = []) := fun h_ => c7 (by rw [h_]; rfl)
    have H' := Aside0.mk H
    clear H
    go_wp2_with (first | ((with_reducible refine gate_callee (f := 50) rfl ?_); refine goesL_ (some 8) rfl rfl Try.func50 zK rfl #[.slice A0 l0.length c0] rfl zM ?_; (with_reducible refine (ancepsref40_Valid.calls k _ _ l0 t596 _ ?side1 ?side2 A5.out).mono ?_); (case side1 => repeat (first | exact (Kd.C_below HR0.out HB.out) | (with_reducible refine Kd.C_alloc ?_ _) | (with_reducible refine Kd.C_drewN ?_ _) | (with_reducible refine Kd.C_drew ?_))); (case side2 => exact HC0.out); rintro e w10 ⟨rfl, hb⟩; refine ⟨_, rfl, ?_⟩; have n0_ := Aside0.mk (blk_below (g := gb595) (o := .cells #[.slice A1_0 l1_0.length c1_0] 27 (0, 0)) (zk BK595) hb); have n1_ := Aside0.mk (below_step zB hb); clear BK595; clear HB; have BK595 := n0_; have HB := n1_; clear n0_ n1_; (try clear hb); (try clear hb2); (try clear hk); (try clear hi); have hcz11_0 : w10.cell? ⟨gb595, 0, none⟩ = some (.slice A1_0 l1_0.length c1_0) := (blk_cell BK595.out 0).trans rfl; have hfz11_0 := blk_frozen BK595.out 0))
    go_meet
    case rel => exact ⟨_, (decide ((l1_0.length : Int) > 2000)), zT, H', ⟨by first | omega | exact Nat.le_refl _⟩, ⟨by (with_reducible repeat (first | refine blk_drewN ?_ _ | refine blk_drew ?_ | refine blk_alloc ?_ _)); exact BK595.out⟩, ⟨by repeat (first | (with_reducible first | exact HB.out | apply below_alloc | apply pw_below_drewN | apply below_drew1 | refine below_set ?_ GE595.out) | exact HB.out)⟩⟩
  ·rw [if_neg c6] at H
   have c6b0 : (t596 == 0) = false := beq_eq_false_iff_ne.mpr c6
   have c6b1 : (t596 != 0) = true := bne_iff_ne.mpr c6
   (first | rw [c6b0] | (simp only [i64_w, i32_w]; rw [c6b0]) | skip)
   (try rw [c6b1])
   have H' := Aside0.mk H
   clear H
   go_wp2_with (first | ((with_reducible refine gate_callee (f := 50) rfl ?_); refine goesL_ (some 8) rfl rfl Try.func50 zK rfl #[.slice A0 l0.length c0] rfl zM ?_; (with_reducible refine (ancepsref40_Valid.calls k _ _ l0 t596 _ ?side1 ?side2 A5.out).mono ?_); (case side1 => repeat (first | exact (Kd.C_below HR0.out HB.out) | (with_reducible refine Kd.C_alloc ?_ _) | (with_reducible refine Kd.C_drewN ?_ _) | (with_reducible refine Kd.C_drew ?_))); (case side2 => exact HC0.out); rintro e w12 ⟨rfl, hb⟩; refine ⟨_, rfl, ?_⟩; have n0_ := Aside0.mk (blk_below (g := gb595) (o := .cells #[.slice A1_0 l1_0.length c1_0] 27 (0, 0)) (zk BK595) hb); have n1_ := Aside0.mk (below_step zB hb); clear BK595; clear HB; have BK595 := n0_; have HB := n1_; clear n0_ n1_; (try clear hb); (try clear hb2); (try clear hk); (try clear hi)))
   go_meet
   case rel => exact ⟨_, (true), zT, H', ⟨by first | omega | exact Nat.le_refl _⟩, ⟨by (with_reducible repeat (first | refine blk_drewN ?_ _ | refine blk_drew ?_ | refine blk_alloc ?_ _)); exact BK595.out⟩, ⟨by repeat (first | (with_reducible first | exact HB.out | apply below_alloc | apply pw_below_drewN | apply below_drew1 | refine below_set ?_ GE595.out) | exact HB.out)⟩⟩
 case rest =>
  clear HC3
  obtain ⟨kq, x21_2, rfl, HA, HJ2, BK595, HB⟩ := hcut
  cases kq with
  | zero => exact absurd HA.out (by simp [ancepsref40_Check.j0])
  | succ kj2 =>
   have H := HA.out
   clear HA
   simp only [ancepsref40_Check.j0] at H
   by_cases c13 : x21_2 = true
   ·subst c13
    have H1 : (some false) = some r := by rw [if_pos rfl] at H; exact H
    clear H
    have H := H1
    clear H1
    obtain rfl := Option.some.inj H
    go_wp2
    go_ret
    exact ⟨by first | rfl | (simp [errW_none, errW_some] <;> rfl) | (simp [*, errW_none, errW_some] <;> rfl), by repeat (first | (with_reducible first | exact HB.out | apply below_alloc | apply pw_below_drewN | apply below_drew1 | refine below_set ?_ GE595.out) | exact HB.out)⟩
   ·replace c13 := Bool.eq_false_iff.mpr c13
    subst c13
    have H1 : (if 0 ≤ (l1_0.length : Int) then (if ((l1_0.length : Int) : Int).toNat ≤ 281474976710656 then ((ancepsref40_below.f kj2 l0 l1_0 0 0 0 (List.replicate ((l1_0.length : Int) : Int).toNat false)).bind fun bt600 => (if bt600.1 = true then (ancepsref40_Check.l0 kj2 bt600.2 0) else (some false))) else (none)) else (none)) = some r := by rw [if_neg (show ¬ (false = true) by decide)] at H; exact H
    clear H
    have H := H1
    clear H1
    by_cases c14 : 0 ≤ (l1_0.length : Int)
    ·rw [if_pos c14] at H
     have c14b0 := eq_true c14
     have c14b1 : decide (0 ≤ (l1_0.length : Int)) = true := decide_eq_true c14
     clear c14
     by_cases c15 : ((l1_0.length : Int) : Int).toNat ≤ 281474976710656
     ·rw [if_pos c15] at H
      have c15b0 := eq_true c15
      have c15b1 : decide (((l1_0.length : Int) : Int).toNat ≤ 281474976710656) = true := decide_eq_true c15
      clear c15
      obtain ⟨y597, hy597⟩ : ∃ y_ : List Bool, y_ = (List.replicate ((l1_0.length : Int) : Int).toNat false) := ⟨_, rfl⟩
      replace H : ((ancepsref40_below.f kj2 l0 l1_0 0 0 0 y597).bind fun bt600 => (if bt600.1 = true then (ancepsref40_Check.l0 kj2 bt600.2 0) else (some false))) = some r := by first | (rw [hy597]; with_reducible exact H) | (have H2_ := (Option.bind_some _ _).symm.trans H; rw [hy597]; with_reducible exact H2_) | (have H2_ := (Option.bind_some _ _).symm.trans H; with_reducible exact H2_) | with_reducible exact H | (rw [hy597]; exact H) | exact H
      have Ny597 := Aside0.mk hy597
      clear hy597
      replace H := Option.bind_eq_some_iff.mp H
      obtain ⟨⟨t600, t601⟩, A160, H⟩ := H
      replace H : (if t600 = true then (ancepsref40_Check.l0 kj2 t601 0) else (some false)) = some r := H
      have A16 := Aside0.mk A160
      clear A160
      have HC17 := Aside0.mk H
      clear H
      have hcz18_0 : wc.cell? ⟨gb595, 0, none⟩ = some (.slice A1_0 l1_0.length c1_0) := (blk_cell BK595.out 0).trans rfl
      have hfz18_0 := blk_frozen BK595.out 0
      go_upto_if 32 with (first | ((with_reducible refine gate_dst (N := 25) rfl ?_); (try (refine gate_guard (by rfl) ?_; dsimp only)); refine Kd.R_make Kd.bool _ 4 rfl (N := 25) rfl 76 _ _ rfl (l1_0.length : Int) rfl rfl Try.underlying76 (.bool false) 1 info4 rfl (by decide) (by omega) false (ok := fun _ => True) (okp := fun _ => True) rfl (fun _ hk => hk) trivial (of_decide_eq_true zh) (Nat.le_trans (Nat.mul_le_mul_right _ (of_decide_eq_true zh : (l1_0.length : Int).toNat ≤ 281474976710656)) (by omega)) (Below.refl _ _) (Nat.le_refl _) ?_; intro v598 w19 ho20 hb hg_ hnew_; clear hg_ hnew_; (first | rw [← Ny597.out] at ho20 | (simp only [Int.reduceToNat] at ho20; rw [← Ny597.out] at ho20)); have n0_ := Aside0.mk (Kd.R_lower ho20 (below_size zB)); have n1_ := Aside0.mk (blk_below (g := gb595) (o := .cells #[.slice A1_0 l1_0.length c1_0] 27 (0, 0)) (zk BK595) hb); have n2_ := Aside0.mk (below_step zB hb); clear BK595; clear HB; have HO599 := n0_; have BK595 := n1_; have HB := n2_; clear n0_ n1_ n2_; clear hb ho20; have hcz21_0 : w19.cell? ⟨gb595, 0, none⟩ = some (.slice A1_0 l1_0.length c1_0) := (blk_cell BK595.out 0).trans rfl; have hfz21_0 := blk_frozen BK595.out 0; obtain ⟨Ao22, co22, eo22⟩ := Kd.R_slice HO599.out; subst eo22) | ((with_reducible refine gate_callee (f := 55) rfl ?_); refine goesL_ (some 31) rfl rfl Try.func55 zK rfl #[.slice A0 l0.length c0, .slice A1_0 l1_0.length c1_0, .int .i64 0, .agg #[.int .i64 0, .int .i64 0], .slice Ao22 y597.length co22] rfl zM ?_; (with_reducible refine (ancepsref40_below.calls kj2 _ _ l0 _ _ l1_0 0 0 0 (fun k_ => some k_ = (.slice Ao22 y597.length co22 : Value).ownBlock) (.slice Ao22 y597.length co22) y597 t600 t601 w _ ?side1 ?side2 ?side3 ?side4 ?side5 ?side6 A16.out).mono ?_); (case side1 => repeat (first | (with_reducible first | exact HB.out | apply below_alloc | apply pw_below_drewN | apply below_drew1 | refine below_set ?_ GE595.out) | exact HB.out)); (case side2 => exact Kd.C_kept_came k61_heap HR0.out zB (fun k_ hs_ => (fun e_ => Kd.R_base HO599.out k_ e_.symm) hs_)); (case side3 => exact HC0.out); (case side4 => exact Kd.C_kept_came k35_heap HR1_0.out zB (fun k_ hs_ => (fun e_ => Kd.R_base HO599.out k_ e_.symm) hs_)); (case side5 => exact HC1_0.out); (case side6 => exact Kd.R_tight rfl HO599.out); rintro e w23 ⟨rfl, hy0, hb, hkp⟩; refine ⟨_, rfl, ?_⟩; have n0_ := Aside0.mk (blk_kept (zk BK595) hkp (fun hs_ => (fun e_ => (Kd.R_ne HO599.out BK595.out (by decide)) e_) hs_)); have n1_ := Aside0.mk (Kd.R_reok rfl hy0 (fun k_ e_ => HO599.out.1 k_ e_)); have n2_ := Aside0.mk (hb); clear BK595; clear HO599; clear HB; have BK595 := n0_; have HO599 := n1_; have HB := n2_; clear n0_ n1_ n2_; (try clear hb); (try clear hkp); (try clear hy0)))
      (try simp only [Act.put, List.setIfInBounds_toArray, List.set_cons_zero, List.set_cons_succ])
      have H := HC17.out
      clear HC17
      by_cases c24 : t600 = true
      ·subst c24
       have H1 : (ancepsref40_Check.l0 kj2 t601 0) = some r := by rw [if_pos rfl] at H; exact H
       clear H
       have H := H1
       clear H1
       have H' := Aside0.mk H
       clear H
       go_wp2
       go_loopg [6] kj2 (fun kq v6 w' => ∃ (x6_2 : Int), v6 = .int .i64 x6_2 ∧ Aside0 (ancepsref40_Check.l0 kq t601 x6_2 = some r) ∧ Aside0 (kq ≤ kj2) ∧ Aside0 (Kd.R Kd.bool 4 w' w.heap.size (fun _ => True) (.slice Ao22 y597.length co22) t601) ∧ Aside0 (w'.heap[gb595]? = some (.cells #[(.slice A1_0 l1_0.length c1_0)] 27 (0, 0))) ∧ Aside0 (Below w.heap.size w w'))
       case atStart => exact ⟨(0), zT, H', ⟨Nat.le_refl _⟩, ⟨by (with_reducible repeat (first | apply Kd.R_alloc | apply Kd.R_drewN | apply Kd.R_drew)); exact HO599.out⟩, ⟨by (with_reducible repeat (first | refine blk_drewN ?_ _ | refine blk_drew ?_ | refine blk_alloc ?_ _)); exact BK595.out⟩, ⟨by repeat (first | (with_reducible first | exact HB.out | apply below_alloc | apply pw_below_drewN | apply below_drew1 | refine below_set ?_ GE595.out) | exact HB.out)⟩⟩
       case round =>
        clear H'
        try clear c13
        try clear c14
        try clear c14b0
        try clear c14b1
        try clear c15
        try clear c15b0
        try clear c15b1
        try clear c24
        try clear hcz18_0
        try clear hcz21_0
        try clear hfz18_0
        try clear hfz21_0
        obtain ⟨x6_2, rfl, HA, HK2, HO_5, BK595, HB⟩ := hrel
        have hl5_2 := (Kd.R_reads' HO_5.out).1
        rw [hl5_2] at HO_5
        (try simp only [hl5_2])
        (try simp only [hl5_2] at BK595)
        cases gk with
        | zero => exact absurd HA.out (by simp [ancepsref40_Check.l0])
        | succ k2 =>
         have H := HA.out
         clear HA
         simp only [ancepsref40_Check.l0] at H
         by_cases c25 : x6_2 < (t601.length : Int)
         ·rw [if_pos c25] at H
          have c25b0 : decide (x6_2 < (t601.length : Int)) = true := decide_eq_true c25
          clear c25
          (first | rw [c25b0] | (simp only [i64_w, i32_w]; rw [c25b0]) | skip)
          by_cases c26 : 0 ≤ x6_2
          ·rw [if_pos c26] at H
           have c26b0 : decide (0 ≤ x6_2) = true := decide_eq_true c26
           clear c26
           obtain ⟨bq27, hbq27⟩ : ∃ b_ : Bool, b_ = (rdOf false t601 x6_2) := ⟨_, rfl⟩
           replace H : (if bq27 = true then (ancepsref40_Check.l0 k2 t601 (wrap64 (x6_2 + 1))) else (some false)) = some r := by rw [← hbq27] at H; exact H
           have Nbq27 := Aside0.mk hbq27
           clear hbq27
           by_cases c28 : bq27 = true
           ·subst c28
            have H1 : (ancepsref40_Check.l0 k2 t601 (wrap64 (x6_2 + 1))) = some r := by rw [if_pos rfl] at H; exact H
            clear H
            have H := H1
            clear H1
            have H' := Aside0.mk H
            clear H
            have p602 : 0 ≤ (x6_2 : Int) := of_decide_eq_true zh
            have q602 : x6_2 < (t601.length : Int) := of_decide_eq_true zh
            obtain ⟨ad602, e602, hx602_0⟩ := Kd.at_bool (Kd.R_reads' HO_5.out).2.2 x6_2 p602 q602
            (try rw [← Nbq27.out] at hx602_0)
            cases e602
            replace p602 := eq_true p602
            replace q602 := eq_true q602
            go_wp2
            (try simp only [← hl5_2])
            go_roundg k2
            case measure => have := HJ2.out; have := HK2.out; omega
            case rel => exact ⟨(wrap64 (x6_2 + 1)), zT, H', ⟨by have := HJ2.out; have := HK2.out; omega⟩, ⟨by (try simp only [hl5_2]); (with_reducible repeat (first | apply Kd.R_alloc | apply Kd.R_drewN | apply Kd.R_drew)); exact HO_5.out⟩, ⟨by (try simp only [hl5_2]); (with_reducible repeat (first | refine blk_drewN ?_ _ | refine blk_drew ?_ | refine blk_alloc ?_ _)); exact BK595.out⟩, ⟨by repeat (first | (with_reducible first | exact HB.out | apply below_alloc | apply pw_below_drewN | apply below_drew1 | refine below_set ?_ GE595.out) | exact HB.out)⟩⟩
           ·replace c28 := Bool.eq_false_iff.mpr c28
            subst c28
            have H1 : (some false) = some r := by rw [if_neg (show ¬ (false = true) by decide)] at H; exact H
            clear H
            have H := H1
            clear H1
            obtain rfl := Option.some.inj H
            have p602 : 0 ≤ (x6_2 : Int) := of_decide_eq_true zh
            have q602 : x6_2 < (t601.length : Int) := of_decide_eq_true zh
            obtain ⟨ad602, e602, hx602_0⟩ := Kd.at_bool (Kd.R_reads' HO_5.out).2.2 x6_2 p602 q602
            (try rw [← Nbq27.out] at hx602_0)
            cases e602
            replace p602 := eq_true p602
            replace q602 := eq_true q602
            go_wp2
            go_ret
            exact ⟨by first | rfl | (simp [errW_none, errW_some] <;> rfl) | (simp [*, errW_none, errW_some] <;> rfl), by repeat (first | (with_reducible first | exact HB.out | apply below_alloc | apply pw_below_drewN | apply below_drew1 | refine below_set ?_ GE595.out) | exact HB.out)⟩
          ·rw [if_neg c26] at H
           exact absurd H (by simp)
         ·rw [if_neg c25] at H
          have c25b0 : decide (x6_2 < (t601.length : Int)) = false := decide_eq_false c25
          clear c25
          (first | rw [c25b0] | (simp only [i64_w, i32_w]; rw [c25b0]) | skip)
          obtain rfl := Option.some.inj H
          go_wp2
          go_ret
          exact ⟨by first | rfl | (simp [errW_none, errW_some] <;> rfl) | (simp [*, errW_none, errW_some] <;> rfl), by repeat (first | (with_reducible first | exact HB.out | apply below_alloc | apply pw_below_drewN | apply below_drew1 | refine below_set ?_ GE595.out) | exact HB.out)⟩
      ·replace c24 := Bool.eq_false_iff.mpr c24
       subst c24
       have H1 : (some false) = some r := by rw [if_neg (show ¬ (false = true) by decide)] at H; exact H
       clear H
       have H := H1
       clear H1
       obtain rfl := Option.some.inj H
       go_wp2
       go_ret
       exact ⟨by first | rfl | (simp [errW_none, errW_some] <;> rfl) | (simp [*, errW_none, errW_some] <;> rfl), by repeat (first | (with_reducible first | exact HB.out | apply below_alloc | apply pw_below_drewN | apply below_drew1 | refine below_set ?_ GE595.out) | exact HB.out)⟩
     ·rw [if_neg c15] at H
      exact absurd H (by simp)
    ·rw [if_neg c14] at H
     exact absurd H (by simp)
/-! ### ancepslaw40_SolveCheck: function 4 -/
def ancepslaw40_SolveCheck.j0 : Nat → List (S61) → Bool → List (S35) → Option (Bool)
 | 0, _, _, _ => none
 | k + 1, x0, x20, x604000 => if x20 = true then ((ancepslaw40_awake.f k).bind fun t606 => (some t606)) else ((api_Branch.f x604000).bind fun t607 => ((solve_Check.f k x0 t607).bind fun t610 => ((solve_First.f k x0).bind fun bt611 => ((ancepsref40_Check.f k x0 x604000).bind fun t613 => (if (t610 == t613) = true then (if t610 = true then (some (bt611.2 == 10)) else (some true)) else (some false))))))
def ancepslaw40_SolveCheck.f (k : Nat) (l0 : List (S61)) (l1_0 : List (S35)) : Option (Bool) := (ancepslaw40_awake.f k).bind fun t604 => (if t604 = true then ((ancepsref40_Few.f k l0).bind fun t605 => (if t605 = true then (ancepslaw40_SolveCheck.j0 k l0 (decide ((l1_0.length : Int) > 2010)) l1_0) else (ancepslaw40_SolveCheck.j0 k l0 true l1_0))) else (ancepslaw40_SolveCheck.j0 k l0 true l1_0))
theorem ancepslaw40_SolveCheck.mono_l : ∀ k, (∀ y0 y1 y2, LeO (ancepslaw40_SolveCheck.j0 k y0 y1 y2) (ancepslaw40_SolveCheck.j0 (k + 1) y0 y1 y2))
 | 0 => fun _ _ _ r h => by simp [ancepslaw40_SolveCheck.j0] at h
 | k + 1 => by
  have ih0 := ancepslaw40_SolveCheck.mono_l k
  ·intro y0 y1 y2
   unfold ancepslaw40_SolveCheck.j0
   repeat' first
   | (with_reducible exact ih0 _ _ _)
   | (with_reducible exact ancepslaw40_awake.mono _)
   | (with_reducible exact ancepsref40_Check.mono _ _ _)
   | (with_reducible exact ancepsref40_Few.mono _ _)
   | (with_reducible exact solve_Check.mono _ _ _)
   | (with_reducible exact solve_First.mono _ _)
   | (with_reducible exact LeO.refl _)
   | (with_reducible exact LeO.none _)
   | (with_reducible refine LeO.ite ?_ ?_)
   | (with_reducible refine LeO.bind ?_ (fun _ => ?_))
   | exact ih0 _ _ _
   | exact ancepslaw40_awake.mono _
   | exact ancepsref40_Check.mono _ _ _
   | exact ancepsref40_Few.mono _ _
   | exact solve_Check.mono _ _ _
   | exact solve_First.mono _ _
   | exact LeO.none _
   | refine LeO.ite ?_ ?_
   | refine LeO.bind ?_ (fun _ => ?_)
theorem ancepslaw40_SolveCheck.mono : ∀ a0 a1 k, LeO (ancepslaw40_SolveCheck.f k a0 a1) (ancepslaw40_SolveCheck.f (k + 1) a0 a1) := by
 intro a0 a1 k
 have ih0 := ancepslaw40_SolveCheck.mono_l k
 unfold ancepslaw40_SolveCheck.f
 repeat' first
   | (with_reducible exact ih0 _ _ _)
   | (with_reducible exact ancepslaw40_awake.mono _)
   | (with_reducible exact ancepsref40_Check.mono _ _ _)
   | (with_reducible exact ancepsref40_Few.mono _ _)
   | (with_reducible exact solve_Check.mono _ _ _)
   | (with_reducible exact solve_First.mono _ _)
   | (with_reducible exact LeO.refl _)
   | (with_reducible exact LeO.none _)
   | (with_reducible refine LeO.ite ?_ ?_)
   | (with_reducible refine LeO.bind ?_ (fun _ => ?_))
   | exact ih0 _ _ _
   | exact ancepslaw40_awake.mono _
   | exact ancepsref40_Check.mono _ _ _
   | exact ancepsref40_Few.mono _ _
   | exact solve_Check.mono _ _ _
   | exact solve_First.mono _ _
   | exact LeO.none _
   | refine LeO.ite ?_ ?_
   | refine LeO.bind ?_ (fun _ => ?_)
set_option maxHeartbeats 8000000 in
set_option maxRecDepth 100000 in
theorem ancepslaw40_SolveCheck.calls (k : Nat) (A0 : Option Addr) (c0 : Nat) (l0 : List (S61)) (A1_0 : Option Addr) (c1_0 : Nat) (l1_0 : List (S35)) (r : Bool) (w : World) (hr0 : Kd.C k61 w A0 l0.length l0) (hc0 : l0.length ≤ c0) (hr1_0 : Kd.C k35 w A1_0 l1_0.length l1_0) (hc1_0 : l1_0.length ≤ c1_0) (h : ancepslaw40_SolveCheck.f k l0 l1_0 = some r) :
  Calls Try.prog 4 #[.slice A0 l0.length c0, .agg #[.slice A1_0 l1_0.length c1_0]] w fun e w' => e = .returned (.bool r) ∧ Below w.heap.size w w' := by
 have hu27 := Try.underlying27
 have hu25 := Try.underlying25
 have HR0 := Aside0.mk hr0
 have HC0 := Aside0.mk hc0
 clear hr0 hc0
 have HR1_0 := Aside0.mk hr1_0
 have HC1_0 := Aside0.mk hc1_0
 clear hr1_0 hc1_0
 have HB := Aside0.mk (Below.refl w.heap.size w)
 have H : ((ancepslaw40_awake.f k).bind fun t604 => (if t604 = true then ((ancepsref40_Few.f k l0).bind fun t605 => (if t605 = true then (ancepslaw40_SolveCheck.j0 k l0 (decide ((l1_0.length : Int) > 2010)) l1_0) else (ancepslaw40_SolveCheck.j0 k l0 true l1_0))) else (ancepslaw40_SolveCheck.j0 k l0 true l1_0))) = some r := h
 clear h
 have HC3 := Aside0.mk H
 clear H
 go_enter Try.func4, Try.ntmps4
 go_upto_region 1 with (first | ((with_reducible refine gate_dst (N := 3) rfl ?_); (try (refine gate_guard (by rfl) ?_; dsimp only)); refine box_event ?hg (N := 3) ?hd (cs := #[.slice A1_0 l1_0.length c1_0]) (t := 27) ?hr ?_; (case hd => rfl); (case hg => rfl); (case hr => first | (go_simp; done) | (go_simp; rfl)); intro gb603 hg w4 hbox hb; have n0_ := Aside0.mk (below_step zB hb); have n1_ := Aside0.mk (hbox); have n2_ := Aside0.mk ((by rw [hg]; exact (below_size zB) : w.heap.size ≤ gb603)); have n3_ := Aside0.mk ((by rw [hg]; exact (below_size zB) : w.heap.size ≤ gb603)); clear HB; have HB := n0_; have BK603 := n1_; have GW603 := n2_; have GE603 := n3_; clear n0_ n1_ n2_ n3_; clear hb hbox hg))
 (try simp only [Act.put, List.setIfInBounds_toArray, List.set_cons_zero, List.set_cons_succ])
 go_cut [20] (fun v20 wc => ∃ (kq : Nat) (x20_2 : Bool), v20 = .bool x20_2 ∧ Aside0 (ancepslaw40_SolveCheck.j0 kq l0 x20_2 l1_0 = some r) ∧ Aside0 (kq ≤ k) ∧ Aside0 (wc.heap[gb603]? = some (.cells #[(.slice A1_0 l1_0.length c1_0)] 27 (0, 0))) ∧ Aside0 (Below w.heap.size w wc))
 case first =>
  have H := HC3.out
  clear HC3
  replace H := Option.bind_eq_some_iff.mp H
  obtain ⟨t604, A50, H⟩ := H
  replace H : (if t604 = true then ((ancepsref40_Few.f k l0).bind fun t605 => (if t605 = true then (ancepslaw40_SolveCheck.j0 k l0 (decide ((l1_0.length : Int) > 2010)) l1_0) else (ancepslaw40_SolveCheck.j0 k l0 true l1_0))) else (ancepslaw40_SolveCheck.j0 k l0 true l1_0)) = some r := H
  have A5 := Aside0.mk A50
  clear A50
  by_cases c6 : t604 = true
  ·subst c6
   have H1 : ((ancepsref40_Few.f k l0).bind fun t605 => (if t605 = true then (ancepslaw40_SolveCheck.j0 k l0 (decide ((l1_0.length : Int) > 2010)) l1_0) else (ancepslaw40_SolveCheck.j0 k l0 true l1_0))) = some r := by rw [if_pos rfl] at H; exact H
   clear H
   have H := H1
   clear H1
   replace H := Option.bind_eq_some_iff.mp H
   obtain ⟨t605, A70, H⟩ := H
   replace H : (if t605 = true then (ancepslaw40_SolveCheck.j0 k l0 (decide ((l1_0.length : Int) > 2010)) l1_0) else (ancepslaw40_SolveCheck.j0 k l0 true l1_0)) = some r := H
   have A7 := Aside0.mk A70
   clear A70
   by_cases c8 : t605 = true
   ·subst c8
    have H1 : (ancepslaw40_SolveCheck.j0 k l0 (decide ((l1_0.length : Int) > 2010)) l1_0) = some r := by rw [if_pos rfl] at H; exact H
    clear H
    have H := H1
    clear H1
    have H' := Aside0.mk H
    clear H
    go_wp2_with (first | ((with_reducible refine gate_callee (f := 12) rfl ?_); refine goesL_ (some 8) rfl rfl Try.func12 zK rfl #[] rfl zM ?_; (with_reducible refine (ancepslaw40_awake.calls k  true _ A5.out).mono ?_); rintro e w9 ⟨rfl, hb⟩; refine ⟨_, rfl, ?_⟩; have n0_ := Aside0.mk (blk_below (g := gb603) (o := .cells #[.slice A1_0 l1_0.length c1_0] 27 (0, 0)) (zk BK603) hb); have n1_ := Aside0.mk (below_step zB hb); clear BK603; clear HB; have BK603 := n0_; have HB := n1_; clear n0_ n1_; (try clear hb); (try clear hb2); (try clear hk); (try clear hi)) | (go_at_call 13; (with_reducible refine (ancepsref40_Few.calls k _ _ l0 true _ ?side1 ?side2 A7.out).mono ?_); (case side1 => repeat (first | exact (Kd.C_below HR0.out HB.out) | (with_reducible refine Kd.C_alloc ?_ _) | (with_reducible refine Kd.C_drewN ?_ _) | (with_reducible refine Kd.C_drew ?_))); (case side2 => exact HC0.out); rintro e w10 ⟨rfl, hb⟩; have n0_ := Aside0.mk (blk_below (g := gb603) (o := .cells #[.slice A1_0 l1_0.length c1_0] 27 (0, 0)) (zk BK603) hb); have n1_ := Aside0.mk (below_step zB hb); clear BK603; clear HB; have BK603 := n0_; have HB := n1_; clear n0_ n1_; (try clear hb); (try clear hb2); (try clear hk); (try clear hi); have hcz11_0 : w10.cell? ⟨gb603, 0, none⟩ = some (.slice A1_0 l1_0.length c1_0) := (blk_cell BK603.out 0).trans rfl; have hfz11_0 := blk_frozen BK603.out 0))
    go_meet
    case rel => exact ⟨_, (decide ((l1_0.length : Int) > 2010)), zT, H', ⟨by first | omega | exact Nat.le_refl _⟩, ⟨by (with_reducible repeat (first | refine blk_drewN ?_ _ | refine blk_drew ?_ | refine blk_alloc ?_ _)); exact BK603.out⟩, ⟨by repeat (first | (with_reducible first | exact HB.out | apply below_alloc | apply pw_below_drewN | apply below_drew1 | refine below_set ?_ GE603.out) | exact HB.out)⟩⟩
   ·replace c8 := Bool.eq_false_iff.mpr c8
    subst c8
    have H1 : (ancepslaw40_SolveCheck.j0 k l0 true l1_0) = some r := by rw [if_neg (show ¬ (false = true) by decide)] at H; exact H
    clear H
    have H := H1
    clear H1
    have H' := Aside0.mk H
    clear H
    go_wp2_with (first | ((with_reducible refine gate_callee (f := 12) rfl ?_); refine goesL_ (some 8) rfl rfl Try.func12 zK rfl #[] rfl zM ?_; (with_reducible refine (ancepslaw40_awake.calls k  true _ A5.out).mono ?_); rintro e w12 ⟨rfl, hb⟩; refine ⟨_, rfl, ?_⟩; have n0_ := Aside0.mk (blk_below (g := gb603) (o := .cells #[.slice A1_0 l1_0.length c1_0] 27 (0, 0)) (zk BK603) hb); have n1_ := Aside0.mk (below_step zB hb); clear BK603; clear HB; have BK603 := n0_; have HB := n1_; clear n0_ n1_; (try clear hb); (try clear hb2); (try clear hk); (try clear hi)) | (go_at_call 13; (with_reducible refine (ancepsref40_Few.calls k _ _ l0 false _ ?side1 ?side2 A7.out).mono ?_); (case side1 => repeat (first | exact (Kd.C_below HR0.out HB.out) | (with_reducible refine Kd.C_alloc ?_ _) | (with_reducible refine Kd.C_drewN ?_ _) | (with_reducible refine Kd.C_drew ?_))); (case side2 => exact HC0.out); rintro e w13 ⟨rfl, hb⟩; have n0_ := Aside0.mk (blk_below (g := gb603) (o := .cells #[.slice A1_0 l1_0.length c1_0] 27 (0, 0)) (zk BK603) hb); have n1_ := Aside0.mk (below_step zB hb); clear BK603; clear HB; have BK603 := n0_; have HB := n1_; clear n0_ n1_; (try clear hb); (try clear hb2); (try clear hk); (try clear hi)))
    go_meet
    case rel => exact ⟨_, (true), zT, H', ⟨by first | omega | exact Nat.le_refl _⟩, ⟨by (with_reducible repeat (first | refine blk_drewN ?_ _ | refine blk_drew ?_ | refine blk_alloc ?_ _)); exact BK603.out⟩, ⟨by repeat (first | (with_reducible first | exact HB.out | apply below_alloc | apply pw_below_drewN | apply below_drew1 | refine below_set ?_ GE603.out) | exact HB.out)⟩⟩
  ·replace c6 := Bool.eq_false_iff.mpr c6
   subst c6
   have H1 : (ancepslaw40_SolveCheck.j0 k l0 true l1_0) = some r := by rw [if_neg (show ¬ (false = true) by decide)] at H; exact H
   clear H
   have H := H1
   clear H1
   have H' := Aside0.mk H
   clear H
   go_wp2_with (first | ((with_reducible refine gate_callee (f := 12) rfl ?_); refine goesL_ (some 8) rfl rfl Try.func12 zK rfl #[] rfl zM ?_; (with_reducible refine (ancepslaw40_awake.calls k  false _ A5.out).mono ?_); rintro e w14 ⟨rfl, hb⟩; refine ⟨_, rfl, ?_⟩; have n0_ := Aside0.mk (blk_below (g := gb603) (o := .cells #[.slice A1_0 l1_0.length c1_0] 27 (0, 0)) (zk BK603) hb); have n1_ := Aside0.mk (below_step zB hb); clear BK603; clear HB; have BK603 := n0_; have HB := n1_; clear n0_ n1_; (try clear hb); (try clear hb2); (try clear hk); (try clear hi)))
   go_meet
   case rel => exact ⟨_, (true), zT, H', ⟨by first | omega | exact Nat.le_refl _⟩, ⟨by (with_reducible repeat (first | refine blk_drewN ?_ _ | refine blk_drew ?_ | refine blk_alloc ?_ _)); exact BK603.out⟩, ⟨by repeat (first | (with_reducible first | exact HB.out | apply below_alloc | apply pw_below_drewN | apply below_drew1 | refine below_set ?_ GE603.out) | exact HB.out)⟩⟩
 case rest =>
  clear HC3
  obtain ⟨kq, x20_2, rfl, HA, HJ2, BK603, HB⟩ := hcut
  cases kq with
  | zero => exact absurd HA.out (by simp [ancepslaw40_SolveCheck.j0])
  | succ kj2 =>
   have H := HA.out
   clear HA
   simp only [ancepslaw40_SolveCheck.j0] at H
   by_cases c15 : x20_2 = true
   ·subst c15
    have H1 : ((ancepslaw40_awake.f kj2).bind fun t606 => (some t606)) = some r := by rw [if_pos rfl] at H; exact H
    clear H
    have H := H1
    clear H1
    replace H := Option.bind_eq_some_iff.mp H
    obtain ⟨t606, A160, H⟩ := H
    replace H : (some t606) = some r := H
    have A16 := Aside0.mk A160
    clear A160
    obtain rfl := Option.some.inj H
    go_wp2_with (first | ((with_reducible refine gate_callee (f := 12) rfl ?_); refine goesL_ (some 21) rfl rfl Try.func12 zK rfl #[] rfl zM ?_; (with_reducible refine (ancepslaw40_awake.calls kj2  t606 _ A16.out).mono ?_); rintro e w17 ⟨rfl, hb⟩; refine ⟨_, rfl, ?_⟩; have n0_ := Aside0.mk (blk_below (g := gb603) (o := .cells #[.slice A1_0 l1_0.length c1_0] 27 (0, 0)) (zk BK603) hb); have n1_ := Aside0.mk (below_step zB hb); clear BK603; clear HB; have BK603 := n0_; have HB := n1_; clear n0_ n1_; (try clear hb); (try clear hb2); (try clear hk); (try clear hi)))
    go_ret
    exact ⟨by first | rfl | (simp [errW_none, errW_some] <;> rfl) | (simp [*, errW_none, errW_some] <;> rfl), by repeat (first | (with_reducible first | exact HB.out | apply below_alloc | apply pw_below_drewN | apply below_drew1 | refine below_set ?_ GE603.out) | exact HB.out)⟩
   ·replace c15 := Bool.eq_false_iff.mpr c15
    subst c15
    have H1 : ((api_Branch.f l1_0).bind fun t607 => ((solve_Check.f kj2 l0 t607).bind fun t610 => ((solve_First.f kj2 l0).bind fun bt611 => ((ancepsref40_Check.f kj2 l0 l1_0).bind fun t613 => (if (t610 == t613) = true then (if t610 = true then (some (bt611.2 == 10)) else (some true)) else (some false)))))) = some r := by rw [if_neg (show ¬ (false = true) by decide)] at H; exact H
    clear H
    have H := H1
    clear H1
    replace H := Option.bind_eq_some_iff.mp H
    obtain ⟨t607, A180, H⟩ := H
    replace H : ((solve_Check.f kj2 l0 t607).bind fun t610 => ((solve_First.f kj2 l0).bind fun bt611 => ((ancepsref40_Check.f kj2 l0 l1_0).bind fun t613 => (if (t610 == t613) = true then (if t610 = true then (some (bt611.2 == 10)) else (some true)) else (some false))))) = some r := H
    have A18 := Aside0.mk A180
    clear A180
    replace H := Option.bind_eq_some_iff.mp H
    obtain ⟨t610, A190, H⟩ := H
    replace H : ((solve_First.f kj2 l0).bind fun bt611 => ((ancepsref40_Check.f kj2 l0 l1_0).bind fun t613 => (if (t610 == t613) = true then (if t610 = true then (some (bt611.2 == 10)) else (some true)) else (some false)))) = some r := H
    have A19 := Aside0.mk A190
    clear A190
    replace H := Option.bind_eq_some_iff.mp H
    obtain ⟨⟨t611, t612⟩, A200, H⟩ := H
    replace H : ((ancepsref40_Check.f kj2 l0 l1_0).bind fun t613 => (if (t610 == t613) = true then (if t610 = true then (some (t612 == 10)) else (some true)) else (some false))) = some r := H
    have A20 := Aside0.mk A200
    clear A200
    have HC21 := Aside0.mk H
    clear H
    have hcz22_0 : wc.cell? ⟨gb603, 0, none⟩ = some (.slice A1_0 l1_0.length c1_0) := (blk_cell BK603.out 0).trans rfl
    have hfz22_0 := blk_frozen BK603.out 0
    go_upto_region 5 with (first | ((with_reducible refine gate_callee (f := 18) rfl ?_); refine goesL_ (some 25) rfl rfl Try.func18 zK rfl #[.slice A1_0 l1_0.length c1_0] rfl zM ?_; (with_reducible refine (api_Branch.calls _ _ l1_0 t607 _ ?side1 ?side2 A18.out).mono ?_); (case side1 => repeat (first | exact (Kd.C_below HR1_0.out HB.out) | (with_reducible refine Kd.C_alloc ?_ _) | (with_reducible refine Kd.C_drewN ?_ _) | (with_reducible refine Kd.C_drew ?_))); (case side2 => exact HC1_0.out); rintro e w23 ⟨v608, rfl, ho0, hb⟩; refine ⟨_, rfl, ?_⟩; have n0_ := Aside0.mk (Kd.R_lower ho0 (below_size zB)); have n1_ := Aside0.mk (blk_below (g := gb603) (o := .cells #[.slice A1_0 l1_0.length c1_0] 27 (0, 0)) (zk BK603) hb); have n2_ := Aside0.mk (below_step zB hb); clear BK603; clear HB; have HO609 := n0_; have BK603 := n1_; have HB := n2_; clear n0_ n1_ n2_; (try clear hb); (try clear hb2); (try clear hk); (try clear hi); (try clear ho0); obtain ⟨Ao24, co24, eo24⟩ := Kd.R_slice HO609.out; subst eo24) | ((with_reducible refine gate_callee (f := 17) rfl ?_); refine goesL_ (some 27) rfl rfl Try.func17 zK rfl #[.slice A0 l0.length c0, .agg #[.slice Ao24 t607.length co24]] rfl zM ?_; (with_reducible refine (solve_Check.calls kj2 _ _ l0 _ _ t607 t610 _ ?side1 ?side2 ?side3 ?side4 A19.out).mono ?_); (case side1 => repeat (first | exact (Kd.C_below HR0.out HB.out) | (with_reducible refine Kd.C_alloc ?_ _) | (with_reducible refine Kd.C_drewN ?_ _) | (with_reducible refine Kd.C_drew ?_))); (case side2 => exact HC0.out); (case side3 => repeat (first | exact (Kd.R_reads' HO609.out).2.2 | (with_reducible refine Kd.C_alloc ?_ _) | (with_reducible refine Kd.C_drewN ?_ _) | (with_reducible refine Kd.C_drew ?_))); (case side4 => exact (Kd.R_reads' HO609.out).2.1); rintro e w25 ⟨rfl, hb⟩; refine ⟨_, rfl, ?_⟩; have n0_ := Aside0.mk (Kd.R_below (zR HO609) hb); have n1_ := Aside0.mk (blk_below (g := gb603) (o := .cells #[.slice A1_0 l1_0.length c1_0] 27 (0, 0)) (zk BK603) hb); have n2_ := Aside0.mk (below_step zB hb); clear HO609; clear BK603; clear HB; have HO609 := n0_; have BK603 := n1_; have HB := n2_; clear n0_ n1_ n2_; (try clear hb); (try clear hb2); (try clear hk); (try clear hi)) | ((with_reducible refine gate_callee (f := 19) rfl ?_); refine goesL_ (some 30) rfl rfl Try.func19 zK rfl #[.slice A0 l0.length c0] rfl zM ?_; (with_reducible refine (solve_First.calls kj2 _ _ l0 t611 t612 _ ?side1 ?side2 A20.out).mono ?_); (case side1 => repeat (first | exact (Kd.C_below HR0.out HB.out) | (with_reducible refine Kd.C_alloc ?_ _) | (with_reducible refine Kd.C_drewN ?_ _) | (with_reducible refine Kd.C_drew ?_))); (case side2 => exact HC0.out); rintro e w26 ⟨rfl, hb⟩; refine ⟨_, rfl, ?_⟩; have n0_ := Aside0.mk (Kd.R_below (zR HO609) hb); have n1_ := Aside0.mk (blk_below (g := gb603) (o := .cells #[.slice A1_0 l1_0.length c1_0] 27 (0, 0)) (zk BK603) hb); have n2_ := Aside0.mk (below_step zB hb); clear HO609; clear BK603; clear HB; have HO609 := n0_; have BK603 := n1_; have HB := n2_; clear n0_ n1_ n2_; (try clear hb); (try clear hb2); (try clear hk); (try clear hi)))
    (try simp only [Act.put, List.setIfInBounds_toArray, List.set_cons_zero, List.set_cons_succ])
    have H := HC21.out
    clear HC21
    replace H := Option.bind_eq_some_iff.mp H
    obtain ⟨t613, A270, H⟩ := H
    replace H : (if (t610 == t613) = true then (if t610 = true then (some (t612 == 10)) else (some true)) else (some false)) = some r := H
    have A27 := Aside0.mk A270
    clear A270
    by_cases c28 : (t610 == t613) = true
    ·rw [if_pos c28] at H
     have c28b0 : (t610 == t613) = true := c28
     (try (have c28b1 : decide (t610 = t613) = true := by simpa using c28))
     (try (have c28b2 : (t610 == t613) = true := by simpa using c28))
     clear c28
     (first | rw [c28b0] | (simp only [i64_w, i32_w]; rw [c28b0]) | skip)
     (try rw [c28b1])
     (try rw [c28b2])
     by_cases c29 : t610 = true
     ·subst c29
      have H1 : (some (t612 == 10)) = some r := by rw [if_pos rfl] at H; exact H
      clear H
      have H := H1
      clear H1
      obtain rfl := Option.some.inj H
      have hcz30_0 : w26.cell? ⟨gb603, 0, none⟩ = some (.slice A1_0 l1_0.length c1_0) := (blk_cell BK603.out 0).trans rfl
      have hfz30_0 := blk_frozen BK603.out 0
      go_wp2_with (first | ((with_reducible refine gate_callee (f := 20) rfl ?_); refine goesL_ (some 36) rfl rfl Try.func20 zK rfl #[.slice A0 l0.length c0, .agg #[.slice A1_0 l1_0.length c1_0]] rfl zM ?_; (with_reducible refine (ancepsref40_Check.calls kj2 _ _ l0 _ _ l1_0 t613 _ ?side1 ?side2 ?side3 ?side4 A27.out).mono ?_); (case side1 => repeat (first | exact (Kd.C_below HR0.out HB.out) | (with_reducible refine Kd.C_alloc ?_ _) | (with_reducible refine Kd.C_drewN ?_ _) | (with_reducible refine Kd.C_drew ?_))); (case side2 => exact HC0.out); (case side3 => repeat (first | exact (Kd.C_below HR1_0.out HB.out) | (with_reducible refine Kd.C_alloc ?_ _) | (with_reducible refine Kd.C_drewN ?_ _) | (with_reducible refine Kd.C_drew ?_))); (case side4 => exact HC1_0.out); rintro e w31 ⟨rfl, hb⟩; refine ⟨_, rfl, ?_⟩; have n0_ := Aside0.mk (Kd.R_below (zR HO609) hb); have n1_ := Aside0.mk (blk_below (g := gb603) (o := .cells #[.slice A1_0 l1_0.length c1_0] 27 (0, 0)) (zk BK603) hb); have n2_ := Aside0.mk (below_step zB hb); clear HO609; clear BK603; clear HB; have HO609 := n0_; have BK603 := n1_; have HB := n2_; clear n0_ n1_ n2_; (try clear hb); (try clear hb2); (try clear hk); (try clear hi)))
      go_ret
      exact ⟨by first | rfl | (simp [errW_none, errW_some] <;> rfl) | (simp [*, errW_none, errW_some] <;> rfl), by repeat (first | (with_reducible first | exact HB.out | apply below_alloc | apply pw_below_drewN | apply below_drew1 | refine below_set ?_ GE603.out) | exact HB.out)⟩
     ·replace c29 := Bool.eq_false_iff.mpr c29
      subst c29
      have H1 : (some true) = some r := by rw [if_neg (show ¬ (false = true) by decide)] at H; exact H
      clear H
      have H := H1
      clear H1
      obtain rfl := Option.some.inj H
      have hcz32_0 : w26.cell? ⟨gb603, 0, none⟩ = some (.slice A1_0 l1_0.length c1_0) := (blk_cell BK603.out 0).trans rfl
      have hfz32_0 := blk_frozen BK603.out 0
      go_wp2_with (first | ((with_reducible refine gate_callee (f := 20) rfl ?_); refine goesL_ (some 36) rfl rfl Try.func20 zK rfl #[.slice A0 l0.length c0, .agg #[.slice A1_0 l1_0.length c1_0]] rfl zM ?_; (with_reducible refine (ancepsref40_Check.calls kj2 _ _ l0 _ _ l1_0 t613 _ ?side1 ?side2 ?side3 ?side4 A27.out).mono ?_); (case side1 => repeat (first | exact (Kd.C_below HR0.out HB.out) | (with_reducible refine Kd.C_alloc ?_ _) | (with_reducible refine Kd.C_drewN ?_ _) | (with_reducible refine Kd.C_drew ?_))); (case side2 => exact HC0.out); (case side3 => repeat (first | exact (Kd.C_below HR1_0.out HB.out) | (with_reducible refine Kd.C_alloc ?_ _) | (with_reducible refine Kd.C_drewN ?_ _) | (with_reducible refine Kd.C_drew ?_))); (case side4 => exact HC1_0.out); rintro e w33 ⟨rfl, hb⟩; refine ⟨_, rfl, ?_⟩; have n0_ := Aside0.mk (Kd.R_below (zR HO609) hb); have n1_ := Aside0.mk (blk_below (g := gb603) (o := .cells #[.slice A1_0 l1_0.length c1_0] 27 (0, 0)) (zk BK603) hb); have n2_ := Aside0.mk (below_step zB hb); clear HO609; clear BK603; clear HB; have HO609 := n0_; have BK603 := n1_; have HB := n2_; clear n0_ n1_ n2_; (try clear hb); (try clear hb2); (try clear hk); (try clear hi)))
      go_ret
      exact ⟨by first | rfl | (simp [errW_none, errW_some] <;> rfl) | (simp [*, errW_none, errW_some] <;> rfl), by repeat (first | (with_reducible first | exact HB.out | apply below_alloc | apply pw_below_drewN | apply below_drew1 | refine below_set ?_ GE603.out) | exact HB.out)⟩
    ·rw [if_neg c28] at H
     have c28b0 : (t610 == t613) = false := by simpa using c28
     (try (have c28b1 : decide (t610 = t613) = false := by simpa using c28))
     (try (have c28b2 : (t610 == t613) = false := by simpa using c28))
     (try (have c28b3 : ¬ (t610 = t613) := by simpa using c28))
     clear c28
     (first | rw [c28b0] | (simp only [i64_w, i32_w]; rw [c28b0]) | skip)
     (try rw [c28b1])
     (try rw [c28b2])
     (try rw [c28b3])
     obtain rfl := Option.some.inj H
     have hcz34_0 : w26.cell? ⟨gb603, 0, none⟩ = some (.slice A1_0 l1_0.length c1_0) := (blk_cell BK603.out 0).trans rfl
     have hfz34_0 := blk_frozen BK603.out 0
     go_wp2_with (first | ((with_reducible refine gate_callee (f := 20) rfl ?_); refine goesL_ (some 36) rfl rfl Try.func20 zK rfl #[.slice A0 l0.length c0, .agg #[.slice A1_0 l1_0.length c1_0]] rfl zM ?_; (with_reducible refine (ancepsref40_Check.calls kj2 _ _ l0 _ _ l1_0 t613 _ ?side1 ?side2 ?side3 ?side4 A27.out).mono ?_); (case side1 => repeat (first | exact (Kd.C_below HR0.out HB.out) | (with_reducible refine Kd.C_alloc ?_ _) | (with_reducible refine Kd.C_drewN ?_ _) | (with_reducible refine Kd.C_drew ?_))); (case side2 => exact HC0.out); (case side3 => repeat (first | exact (Kd.C_below HR1_0.out HB.out) | (with_reducible refine Kd.C_alloc ?_ _) | (with_reducible refine Kd.C_drewN ?_ _) | (with_reducible refine Kd.C_drew ?_))); (case side4 => exact HC1_0.out); rintro e w35 ⟨rfl, hb⟩; refine ⟨_, rfl, ?_⟩; have n0_ := Aside0.mk (Kd.R_below (zR HO609) hb); have n1_ := Aside0.mk (blk_below (g := gb603) (o := .cells #[.slice A1_0 l1_0.length c1_0] 27 (0, 0)) (zk BK603) hb); have n2_ := Aside0.mk (below_step zB hb); clear HO609; clear BK603; clear HB; have HO609 := n0_; have BK603 := n1_; have HB := n2_; clear n0_ n1_ n2_; (try clear hb); (try clear hb2); (try clear hk); (try clear hi)))
     go_ret
     exact ⟨by first | rfl | (simp [errW_none, errW_some] <;> rfl) | (simp [*, errW_none, errW_some] <;> rfl), by repeat (first | (with_reducible first | exact HB.out | apply below_alloc | apply pw_below_drewN | apply below_drew1 | refine below_set ?_ GE603.out) | exact HB.out)⟩
end Go.Proofs.Ytbagnalcabdlhaa.S
