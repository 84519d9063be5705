-- Written by wip/tools/myprint.py, a program of this session's.
import Derived.Test.YtbagnalcabdlhaaS0
import Derived.Test.YtbagnalcabdlhaaS8
namespace Go.Proofs.Ytbagnalcabdlhaa.S
open Go.RowKit Go.Proofs.YtbagnalcabdlhaaW.PrintWords Go.Proofs.YtbagnalcabdlhaaW.PrintLast Go.Proofs.YtbagnalcabdlhaaW.PrintMore
attribute [local go_sem] max2_int min2_int max_two min_two max_three min_three max_four min_four   -- for this text's walks alone
set_option linter.unusedVariables false
set_option linter.unusedSimpArgs false
/-! ### ancepsref40_Vars: function 31 -/
mutual
def ancepsref40_Vars.l0 : Nat → List (S61) → List Bool → Int → Option (List Int)
 | 0, _, _, _ => none
 | k + 1, x0, x3, x4 => if x4 < (x0.length : Int) then (ancepsref40_Vars.l1 k x0 x3 x4 0) else (ancepsref40_Vars.l2 k x3 ([] : List Int) 0)
def ancepsref40_Vars.l1 : Nat → List (S61) → List Bool → Int → Int → Option (List Int)
 | 0, _, _, _, _ => none
 | k + 1, x0, x3, x4, x5 => if 0 ≤ x4 then (if x4 < (x0.length : Int) then (if x5 < (((rd_T61 x0 x4).f0).length : Int) then (if 0 ≤ x5 then (if 0 ≤ (rd ((rd_T61 x0 x4).f0) x5) then (if (rd ((rd_T61 x0 x4).f0) x5) < (x3.length : Int) then (ancepsref40_Vars.l1 k x0 (x3.set ((rd ((rd_T61 x0 x4).f0) x5) : Int).toNat true) x4 (wrap64 (x5 + 1))) else (none)) else (none)) else (none)) else (ancepsref40_Vars.l0 k x0 x3 (wrap64 (x4 + 1)))) else (none)) else (none)
def ancepsref40_Vars.l2 : Nat → List Bool → List Int → Int → Option (List Int)
 | 0, _, _, _ => none
 | k + 1, x3, x6, x7 => if x7 < 24 then (if 0 ≤ x7 then (if x7 < (x3.length : Int) then (if rdOf false x3 x7 = true then (if x6.length < 17592186044416 then (ancepsref40_Vars.l2 k x3 (x6 ++ [x7]) (wrap64 (x7 + 1))) else (none)) else (ancepsref40_Vars.l2 k x3 x6 (wrap64 (x7 + 1)))) else (none)) else (none)) else (some x6)
end
def ancepsref40_Vars.f (k : Nat) (l0 : List (S61)) : Option (List Int) := (ancepsref40_Valid.f k l0).bind fun t125 => (if t125 = 0 then (if 24 ≤ 281474976710656 then (ancepsref40_Vars.l0 k l0 (List.replicate 24 false) 0) else (none)) else (some ([] : List Int)))
theorem ancepsref40_Vars.mono_l : ∀ k, (∀ y0 y1 y2, LeO (ancepsref40_Vars.l0 k y0 y1 y2) (ancepsref40_Vars.l0 (k + 1) y0 y1 y2)) ∧ (∀ y0 y1 y2 y3, LeO (ancepsref40_Vars.l1 k y0 y1 y2 y3) (ancepsref40_Vars.l1 (k + 1) y0 y1 y2 y3)) ∧ (∀ y0 y1 y2, LeO (ancepsref40_Vars.l2 k y0 y1 y2) (ancepsref40_Vars.l2 (k + 1) y0 y1 y2))
 | 0 => ⟨fun _ _ _ r h => by simp [ancepsref40_Vars.l0] at h, fun _ _ _ _ r h => by simp [ancepsref40_Vars.l1] at h, fun _ _ _ r h => by simp [ancepsref40_Vars.l2] at h⟩
 | k + 1 => by
  obtain ⟨ih0, ih1, ih2⟩ := ancepsref40_Vars.mono_l k
  refine ⟨?_, ?_, ?_⟩
  ·intro y0 y1 y2
   unfold ancepsref40_Vars.l0
   repeat' first
   | (with_reducible exact ih0 _ _ _)
   | (with_reducible exact ih1 _ _ _ _)
   | (with_reducible exact ih2 _ _ _)
   | (with_reducible exact ancepsref40_Valid.mono _ _)
   | (with_reducible exact LeO.refl _)
   | (with_reducible exact LeO.none _)
   | (with_reducible refine LeO.ite ?_ ?_)
   | (with_reducible refine LeO.bind ?_ (fun _ => ?_))
   | exact ih0 _ _ _
   | exact ih1 _ _ _ _
   | exact ih2 _ _ _
   | exact ancepsref40_Valid.mono _ _
   | exact LeO.none _
   | refine LeO.ite ?_ ?_
   | refine LeO.bind ?_ (fun _ => ?_)
  ·intro y0 y1 y2 y3
   unfold ancepsref40_Vars.l1
   repeat' first
   | (with_reducible exact ih0 _ _ _)
   | (with_reducible exact ih1 _ _ _ _)
   | (with_reducible exact ih2 _ _ _)
   | (with_reducible exact ancepsref40_Valid.mono _ _)
   | (with_reducible exact LeO.refl _)
   | (with_reducible exact LeO.none _)
   | (with_reducible refine LeO.ite ?_ ?_)
   | (with_reducible refine LeO.bind ?_ (fun _ => ?_))
   | exact ih0 _ _ _
   | exact ih1 _ _ _ _
   | exact ih2 _ _ _
   | exact ancepsref40_Valid.mono _ _
   | exact LeO.none _
   | refine LeO.ite ?_ ?_
   | refine LeO.bind ?_ (fun _ => ?_)
  ·intro y0 y1 y2
   unfold ancepsref40_Vars.l2
   repeat' first
   | (with_reducible exact ih0 _ _ _)
   | (with_reducible exact ih1 _ _ _ _)
   | (with_reducible exact ih2 _ _ _)
   | (with_reducible exact ancepsref40_Valid.mono _ _)
   | (with_reducible exact LeO.refl _)
   | (with_reducible exact LeO.none _)
   | (with_reducible refine LeO.ite ?_ ?_)
   | (with_reducible refine LeO.bind ?_ (fun _ => ?_))
   | exact ih0 _ _ _
   | exact ih1 _ _ _ _
   | exact ih2 _ _ _
   | exact ancepsref40_Valid.mono _ _
   | exact LeO.none _
   | refine LeO.ite ?_ ?_
   | refine LeO.bind ?_ (fun _ => ?_)
theorem ancepsref40_Vars.mono : ∀ a0 k, LeO (ancepsref40_Vars.f k a0) (ancepsref40_Vars.f (k + 1) a0) := by
 intro a0 k
 obtain ⟨ih0, ih1, ih2⟩ := ancepsref40_Vars.mono_l k
 unfold ancepsref40_Vars.f
 repeat' first
   | (with_reducible exact ih0 _ _ _)
   | (with_reducible exact ih1 _ _ _ _)
   | (with_reducible exact ih2 _ _ _)
   | (with_reducible exact ancepsref40_Valid.mono _ _)
   | (with_reducible exact LeO.refl _)
   | (with_reducible exact LeO.none _)
   | (with_reducible refine LeO.ite ?_ ?_)
   | (with_reducible refine LeO.bind ?_ (fun _ => ?_))
   | exact ih0 _ _ _
   | exact ih1 _ _ _ _
   | exact ih2 _ _ _
   | exact ancepsref40_Valid.mono _ _
   | exact LeO.none _
   | refine LeO.ite ?_ ?_
   | refine LeO.bind ?_ (fun _ => ?_)
set_option maxHeartbeats 8000000 in
set_option maxRecDepth 100000 in
theorem ancepsref40_Vars.calls (k : Nat) (A0 : Option Addr) (c0 : Nat) (l0 : List (S61)) (r : List Int) (w : World) (hr0 : Kd.C k61 w A0 l0.length l0) (hc0 : l0.length ≤ c0) (h : ancepsref40_Vars.f k l0 = some r) :
  Calls Try.prog 31 #[.slice A0 l0.length c0] w fun e w' => ∃ v0_ : Value, e = .returned (v0_) ∧ Kd.R (Kd.int .i64) 3 w' w.heap.size (fun _ => True) v0_ r ∧ Below w.heap.size w w' := by
 have hu42 := Try.underlying42
 have hu3 := Try.underlying3
 have hu4 := Try.underlying4
 have HR0 := Aside0.mk hr0
 have HC0 := Aside0.mk hc0
 clear hr0 hc0
 have HB := Aside0.mk (Below.refl w.heap.size w)
 have H : ((ancepsref40_Valid.f k l0).bind fun t125 => (if t125 = 0 then (if 24 ≤ 281474976710656 then (ancepsref40_Vars.l0 k l0 (List.replicate 24 false) 0) else (none)) else (some ([] : List Int)))) = some r := h
 clear h
 replace H := Option.bind_eq_some_iff.mp H
 obtain ⟨t125, A20, H⟩ := H
 replace H : (if t125 = 0 then (if 24 ≤ 281474976710656 then (ancepsref40_Vars.l0 k l0 (List.replicate 24 false) 0) else (none)) else (some ([] : List Int))) = some r := H
 have A2 := Aside0.mk A20
 clear A20
 have HC3 := Aside0.mk H
 clear H
 go_enter Try.func31, Try.ntmps31
 go_upto_if 10 with (first | ((with_reducible refine gate_callee (f := 50) rfl ?_); refine goesL_ (some 9) rfl rfl Try.func50 zK rfl #[.slice A0 l0.length c0] rfl zM ?_; (with_reducible refine (ancepsref40_Valid.calls k _ _ l0 t125 _ ?side1 ?side2 A2.out).mono ?_); (case side1 => repeat (first | exact HR0.out | (with_reducible refine Kd.C_alloc ?_ _) | (with_reducible refine Kd.C_drewN ?_ _) | (with_reducible refine Kd.C_drew ?_))); (case side2 => exact HC0.out); rintro e w4 ⟨rfl, hb⟩; refine ⟨_, rfl, ?_⟩; have n0_ := Aside0.mk (below_step zB hb); clear HB; have HB := n0_; clear n0_; (try clear hb); (try clear hb2); (try clear hk); (try clear hi)))
 (try simp only [Act.put, List.setIfInBounds_toArray, List.set_cons_zero, List.set_cons_succ])
 have H := HC3.out
 clear HC3
 by_cases c5 : t125 = 0
 ·rw [if_pos c5] at H
  have c5b0 : (t125 == 0) = true := beq_iff_eq.mpr c5
  have c5b1 : (t125 != 0) = false := bne_eq_false_iff_eq.mpr c5
  clear c5
  (first | rw [c5b0] | (simp only [i64_w, i32_w]; rw [c5b0]) | skip)
  (try rw [c5b1])
  by_cases c6 : 24 ≤ 281474976710656
  ·rw [if_pos c6] at H
   have c6b0 := eq_true c6
   have c6b1 : decide (24 ≤ 281474976710656) = true := decide_eq_true c6
   clear c6
   obtain ⟨y126, hy126⟩ : ∃ y_ : List Bool, y_ = (List.replicate 24 false) := ⟨_, rfl⟩
   replace H : (ancepsref40_Vars.l0 k l0 y126 0) = some r := by first | (rw [hy126]; with_reducible exact H) | (have H2_ := (Option.bind_some _ _).symm.trans H; rw [hy126]; with_reducible exact H2_) | (have H2_ := (Option.bind_some _ _).symm.trans H; with_reducible exact H2_) | with_reducible exact H | (rw [hy126]; exact H) | exact H
   have Ny126 := Aside0.mk hy126
   clear hy126
   have H' := Aside0.mk H
   clear H
   go_wp2_with (first | ((with_reducible refine gate_dst (N := 3) rfl ?_); refine box_event ?hg (N := 3) ?hd (cs := #[.bool false, .bool false, .bool false, .bool false, .bool false, .bool false, .bool false, .bool false, .bool false, .bool false, .bool false, .bool false, .bool false, .bool false, .bool false, .bool false, .bool false, .bool false, .bool false, .bool false, .bool false, .bool false, .bool false, .bool false]) (t := 62) ?hr ?_; (case hd => rfl); (case hg => rfl); (case hr => first | (go_simp; done) | (go_simp; rfl)); intro ga hgA w7 hbox hb; have ho8 := arr_box hbox (Nat.le_of_eq hgA.symm); clear hbox hgA; rw [← Ny126.out] at ho8; have n0_ := Aside0.mk (Kd.R_lower ho8 (below_size zB)); have n1_ := Aside0.mk (below_step zB hb); clear HB; have HO128 := n0_; have HB := n1_; clear n0_ n1_; clear hb ho8))
   go_loopg [4] k (fun kq v4 w' => ∃ (x3_1 : List Bool) (x4_1 : Int), v4 = .int .i64 x4_1 ∧ Aside0 (ancepsref40_Vars.l0 kq l0 x3_1 x4_1 = some r) ∧ Aside0 (kq ≤ k) ∧ Aside0 (Kd.R Kd.bool 62 w' w.heap.size (fun _ => True) (.slice (some ⟨ga, 0, none⟩) 24 24) x3_1) ∧ Aside0 (Below w.heap.size w w'))
   case atStart => exact ⟨(y126), (0), zT, H', ⟨Nat.le_refl _⟩, ⟨by (with_reducible repeat (first | apply Kd.R_alloc | apply Kd.R_drewN | apply Kd.R_drew)); exact HO128.out⟩, ⟨by repeat (first | (with_reducible first | exact HB.out | apply below_alloc | apply pw_below_drewN | apply below_drew1) | exact HB.out)⟩⟩
   case round =>
    clear H'
    try clear c5
    try clear c5b0
    try clear c5b1
    try clear c6
    try clear c6b0
    try clear c6b1
    obtain ⟨x3_1, x4_1, rfl, HA, HK1, HO_3, HB⟩ := hrel
    cases gk with
    | zero => exact absurd HA.out (by simp [ancepsref40_Vars.l0])
    | succ k1 =>
     have H := HA.out
     clear HA
     simp only [ancepsref40_Vars.l0] at H
     by_cases c9 : x4_1 < (l0.length : Int)
     ·rw [if_pos c9] at H
      have c9b0 : decide (x4_1 < (l0.length : Int)) = true := decide_eq_true c9
      clear c9
      have H' := Aside0.mk H
      clear H
      go_wp2
      go_loopg [5] k1 (fun kq v5 w' => ∃ (x3_2 : List Bool) (x5_2 : Int), v5 = .int .i64 x5_2 ∧ Aside0 (ancepsref40_Vars.l1 kq l0 x3_2 x4_1 x5_2 = some r) ∧ Aside0 (kq ≤ k1) ∧ Aside0 (Kd.R Kd.bool 62 w' w.heap.size (fun _ => True) (.slice (some ⟨ga, 0, none⟩) 24 24) x3_2) ∧ Aside0 (Below w.heap.size w w'))
      case atStart => exact ⟨(x3_1), (0), zT, H', ⟨Nat.le_refl _⟩, ⟨by (with_reducible repeat (first | apply Kd.R_alloc | apply Kd.R_drewN | apply Kd.R_drew)); exact HO_3.out⟩, ⟨by repeat (first | (with_reducible first | exact HB.out | apply below_alloc | apply pw_below_drewN | apply below_drew1) | exact HB.out)⟩⟩
      case round =>
       clear H'
       try clear c5
       try clear c5b0
       try clear c5b1
       try clear c6
       try clear c6b0
       try clear c6b1
       try clear c9
       try clear c9b0
       obtain ⟨x3_2, x5_2, rfl, HA, HK2, HO_3, HB⟩ := hrel
       cases gk with
       | zero => exact absurd HA.out (by simp [ancepsref40_Vars.l1])
       | succ k2 =>
        have H := HA.out
        clear HA
        simp only [ancepsref40_Vars.l1] at H
        by_cases c10 : 0 ≤ x4_1
        ·rw [if_pos c10] at H
         have c10b0 : decide (0 ≤ x4_1) = true := decide_eq_true c10
         clear c10
         by_cases c11 : x4_1 < (l0.length : Int)
         ·rw [if_pos c11] at H
          have c11b0 : decide (x4_1 < (l0.length : Int)) = true := decide_eq_true c11
          clear c11
          by_cases c12 : x5_2 < (((rd_T61 l0 x4_1).f0).length : Int)
          ·rw [if_pos c12] at H
           have c12b0 : decide (x5_2 < (((rd_T61 l0 x4_1).f0).length : Int)) = true := decide_eq_true c12
           clear c12
           by_cases c13 : 0 ≤ x5_2
           ·rw [if_pos c13] at H
            have c13b0 : decide (0 ≤ x5_2) = true := decide_eq_true c13
            clear c13
            by_cases c14 : 0 ≤ (rd ((rd_T61 l0 x4_1).f0) x5_2)
            ·rw [if_pos c14] at H
             have c14b0 : decide (0 ≤ (rd ((rd_T61 l0 x4_1).f0) x5_2)) = true := decide_eq_true c14
             clear c14
             by_cases c15 : (rd ((rd_T61 l0 x4_1).f0) x5_2) < (x3_2.length : Int)
             ·rw [if_pos c15] at H
              have c15b0 : decide ((rd ((rd_T61 l0 x4_1).f0) x5_2) < (x3_2.length : Int)) = true := decide_eq_true c15
              clear c15
              obtain ⟨y132, hy132⟩ : ∃ y_ : List Bool, y_ = (x3_2.set ((rd ((rd_T61 l0 x4_1).f0) x5_2) : Int).toNat true) := ⟨_, rfl⟩
              replace H : (ancepsref40_Vars.l1 k2 l0 y132 x4_1 (wrap64 (x5_2 + 1))) = some r := by first | (rw [hy132]; with_reducible exact H) | (have H2_ := (Option.bind_some _ _).symm.trans H; rw [hy132]; with_reducible exact H2_) | (have H2_ := (Option.bind_some _ _).symm.trans H; with_reducible exact H2_) | with_reducible exact H | (rw [hy132]; exact H) | exact H
              have Ny132 := Aside0.mk hy132
              clear hy132
              have H' := Aside0.mk H
              clear H
              have p129 : 0 ≤ (x4_1 : Int) := of_decide_eq_true zh
              have q129 : x4_1 < (l0.length : Int) := of_decide_eq_true zh
              obtain ⟨ad129, A129_0, c129_0, A129_1, c129_1, e129, hx129_0, hx129_1, hl129_0, hi129_0, hl129_1, hi129_1⟩ := at_T61 HR0.out x4_1 p129 q129
              cases e129
              replace hx129_0 := (HB.out.cell (World.block_lt_of_cell? w _ hx129_0)).trans hx129_0
              replace hx129_1 := (HB.out.cell (World.block_lt_of_cell? w _ hx129_1)).trans hx129_1
              have HR129_0 := Aside0.mk hi129_0
              have HC129_0 := Aside0.mk hl129_0
              clear hi129_0 hl129_0
              have HR129_1 := Aside0.mk hi129_1
              have HC129_1 := Aside0.mk hl129_1
              clear hi129_1 hl129_1
              replace p129 := eq_true p129
              replace q129 := eq_true q129
              have p130 : 0 ≤ (x4_1 : Int) := of_decide_eq_true zh
              have q130 : x4_1 < (l0.length : Int) := of_decide_eq_true zh
              obtain ⟨ad130, A130_0, c130_0, A130_1, c130_1, e130, hx130_0, hx130_1, hl130_0, hi130_0, hl130_1, hi130_1⟩ := at_T61 HR0.out x4_1 p130 q130
              obtain rfl : ad129 = ad130 := (by injection e130)
              replace hx130_0 := (HB.out.cell (World.block_lt_of_cell? w _ hx130_0)).trans hx130_0
              replace hx130_1 := (HB.out.cell (World.block_lt_of_cell? w _ hx130_1)).trans hx130_1
              have HR130_0 := Aside0.mk hi130_0
              have HC130_0 := Aside0.mk hl130_0
              clear hi130_0 hl130_0
              have HR130_1 := Aside0.mk hi130_1
              have HC130_1 := Aside0.mk hl130_1
              clear hi130_1 hl130_1
              replace p130 := eq_true p130
              replace q130 := eq_true q130
              have ea_ := Option.some.inj (hx129_0.symm.trans hx130_0)
              injection ea_ with ea_ en_ ec_
              subst ea_
              subst ec_
              clear en_
              have ea_ := Option.some.inj (hx129_1.symm.trans hx130_1)
              injection ea_ with ea_ en_ ec_
              subst ea_
              subst ec_
              clear en_
              have p131 : 0 ≤ (x5_2 : Int) := of_decide_eq_true zh
              have q131 : x5_2 < (((rd_T61 l0 x4_1).f0).length : Int) := of_decide_eq_true zh
              obtain ⟨ad131, e131, hx131_0⟩ := Kd.at_int HR130_0.out x5_2 p131 q131
              cases e131
              replace hx131_0 := (HB.out.cell (World.block_lt_of_cell? w _ hx131_0)).trans hx131_0
              replace p131 := eq_true p131
              replace q131 := eq_true q131
              have p16 : 0 ≤ ((rd ((rd_T61 l0 x4_1).f0) x5_2) : Int) := of_decide_eq_true zh
              have q16 : ((rd ((rd_T61 l0 x4_1).f0) x5_2) : Int) < 24 := by first | omega | exact of_decide_eq_true zh | (have h2_ : (rd ((rd_T61 l0 x4_1).f0) x5_2) < (x3_2.length : Int) := of_decide_eq_true zh; have h3_ := arr_len HO_3.out; omega)
              have hl24b_ := arr_len HO_3.out
              have gb16 := Kd.R_base HO_3.out ga rfl
              have GB16 := Aside0.mk gb16
              clear gb16
              obtain ⟨hx16_0, hf16_0⟩ := Kd.R_celln false HO_3.out ((rd ((rd_T61 l0 x4_1).f0) x5_2) : Int) p16 q16
              replace p16 := eq_true p16
              replace q16 := eq_true q16
              have HP17 := Kd.R_putg HO_3.out ((rd ((rd_T61 l0 x4_1).f0) x5_2) : Int) true
              go_wp2_with (first | ((with_reducible refine gate_store (t := 4) (p := 35) rfl ?_); refine store_event (t := 4) (p := 35) (v := ?vo_w18) (w1 := (wr.setCell ⟨ga, ((rd ((rd_T61 l0 x4_1).f0) x5_2) : Int).toNat, none⟩ (.bool true))) ?hg ?ho ?hn ?hr ?_; (case ho => rfl); (case hg => rfl); (case hn => rfl); (case hr => first | (go_simp; done) | (go_simp; rfl)); intro w18 hw; have hg : wr.grownBy w18 (some ga) := (by rw [hw]; exact HP17.2); have hp_ : Kd.R Kd.bool 62 w18 w.heap.size (fun _ => True) (.slice (some ⟨ga, 0, none⟩) 24 24) y132 := (by rw [hw, Ny132.out]; exact HP17.1); clear HP17; have n0_ := Aside0.mk (hp_); have n1_ := Aside0.mk ((by rw [hw]; exact below_set (HB.out) GB16.out : Below w.heap.size w w18)); clear HO_3; clear HB; have HO_3 := n0_; have HB := n1_; clear n0_ n1_; clear hg hw hp_))
              go_roundg k2
              case measure => have := HK1.out; have := HK2.out; omega
              case rel => exact ⟨(y132), (wrap64 (x5_2 + 1)), zT, H', ⟨by have := HK1.out; have := HK2.out; omega⟩, ⟨by (with_reducible repeat (first | apply Kd.R_alloc | apply Kd.R_drewN | apply Kd.R_drew)); exact HO_3.out⟩, ⟨by repeat (first | (with_reducible first | exact HB.out | apply below_alloc | apply pw_below_drewN | apply below_drew1) | exact HB.out)⟩⟩
             ·rw [if_neg c15] at H
              exact absurd H (by simp)
            ·rw [if_neg c14] at H
             exact absurd H (by simp)
           ·rw [if_neg c13] at H
            exact absurd H (by simp)
          ·rw [if_neg c12] at H
           have c12b0 : decide (x5_2 < (((rd_T61 l0 x4_1).f0).length : Int)) = false := decide_eq_false c12
           clear c12
           have H' := Aside0.mk H
           clear H
           have p129 : 0 ≤ (x4_1 : Int) := of_decide_eq_true zh
           have q129 : x4_1 < (l0.length : Int) := of_decide_eq_true zh
           obtain ⟨ad129, A129_0, c129_0, A129_1, c129_1, e129, hx129_0, hx129_1, hl129_0, hi129_0, hl129_1, hi129_1⟩ := at_T61 HR0.out x4_1 p129 q129
           cases e129
           replace hx129_0 := (HB.out.cell (World.block_lt_of_cell? w _ hx129_0)).trans hx129_0
           replace hx129_1 := (HB.out.cell (World.block_lt_of_cell? w _ hx129_1)).trans hx129_1
           have HR129_0 := Aside0.mk hi129_0
           have HC129_0 := Aside0.mk hl129_0
           clear hi129_0 hl129_0
           have HR129_1 := Aside0.mk hi129_1
           have HC129_1 := Aside0.mk hl129_1
           clear hi129_1 hl129_1
           replace p129 := eq_true p129
           replace q129 := eq_true q129
           go_wp2
           go_roundg k2
           case measure => have := HK1.out; have := HK2.out; omega
           case rel => exact ⟨(x3_2), (wrap64 (x4_1 + 1)), zT, H', ⟨by have := HK1.out; have := HK2.out; omega⟩, ⟨by (with_reducible repeat (first | apply Kd.R_alloc | apply Kd.R_drewN | apply Kd.R_drew)); exact HO_3.out⟩, ⟨by repeat (first | (with_reducible first | exact HB.out | apply below_alloc | apply pw_below_drewN | apply below_drew1) | exact HB.out)⟩⟩
         ·rw [if_neg c11] at H
          exact absurd H (by simp)
        ·rw [if_neg c10] at H
         exact absurd H (by simp)
     ·rw [if_neg c9] at H
      have c9b0 : decide (x4_1 < (l0.length : Int)) = false := decide_eq_false c9
      clear c9
      have H' := Aside0.mk H
      clear H
      go_wp2
      go_loopg [6, 7] k1 (fun kq v6 v7 w' => ∃ (x6_2 : List Int) (x7_2 : Int), v7 = .int .i64 x7_2 ∧ Aside0 (ancepsref40_Vars.l2 kq x3_1 x6_2 x7_2 = some r) ∧ Aside0 (kq ≤ k1) ∧ Aside0 (Kd.R Kd.bool 62 w' w.heap.size (fun _ => True) (.slice (some ⟨ga, 0, none⟩) 24 24) x3_1) ∧ Aside0 (Kd.R (Kd.int .i64) 3 w' w.heap.size (fun _ => True) v6 x6_2) ∧ Aside0 (Below w.heap.size w w'))
      case atStart => exact ⟨(([] : List Int)), (0), zT, H', ⟨Nat.le_refl _⟩, ⟨by (with_reducible repeat (first | apply Kd.R_alloc | apply Kd.R_drewN | apply Kd.R_drew)); exact HO_3.out⟩, ⟨by first | exact Kd.R_nil _ _ _ _ _ | exact Kd.N_nil _ _ _ _ _ | exact Kd.V_nil _ _ _ _ _ | exact Kd.Q_nil _ _ _ _ _ | exact Kd.S_nil _ _ _ _ _⟩, ⟨by repeat (first | (with_reducible first | exact HB.out | apply below_alloc | apply pw_below_drewN | apply below_drew1) | exact HB.out)⟩⟩
      case round =>
       clear H'
       try clear c5
       try clear c5b0
       try clear c5b1
       try clear c6
       try clear c6b0
       try clear c6b1
       try clear c9
       try clear c9b0
       obtain ⟨x6_2, x7_2, rfl, HA, HK2, HO_3, HO_6, HB⟩ := hrel
       cases gk with
       | zero => exact absurd HA.out (by simp [ancepsref40_Vars.l2])
       | succ k2 =>
        have H := HA.out
        clear HA
        simp only [ancepsref40_Vars.l2] at H
        by_cases c19 : x7_2 < 24
        ·rw [if_pos c19] at H
         have c19b0 : decide (x7_2 < 24) = true := decide_eq_true c19
         clear c19
         by_cases c20 : 0 ≤ x7_2
         ·rw [if_pos c20] at H
          have c20b0 : decide (0 ≤ x7_2) = true := decide_eq_true c20
          clear c20
          by_cases c21 : x7_2 < (x3_1.length : Int)
          ·rw [if_pos c21] at H
           have c21b0 : decide (x7_2 < (x3_1.length : Int)) = true := decide_eq_true c21
           clear c21
           obtain ⟨bq22, hbq22⟩ : ∃ b_ : Bool, b_ = (rdOf false x3_1 x7_2) := ⟨_, rfl⟩
           replace H : (if bq22 = true then (if x6_2.length < 17592186044416 then (ancepsref40_Vars.l2 k2 x3_1 (x6_2 ++ [x7_2]) (wrap64 (x7_2 + 1))) else (none)) else (ancepsref40_Vars.l2 k2 x3_1 x6_2 (wrap64 (x7_2 + 1)))) = some r := by rw [← hbq22] at H; exact H
           have Nbq22 := Aside0.mk hbq22
           clear hbq22
           by_cases c23 : bq22 = true
           ·subst c23
            have H1 : (if x6_2.length < 17592186044416 then (ancepsref40_Vars.l2 k2 x3_1 (x6_2 ++ [x7_2]) (wrap64 (x7_2 + 1))) else (none)) = some r := by rw [if_pos rfl] at H; exact H
            clear H
            have H := H1
            clear H1
            by_cases c24 : x6_2.length < 17592186044416
            ·rw [if_pos c24] at H
             have LMc24 := Aside0.mk c24
             clear c24
             obtain ⟨y134, hy134⟩ : ∃ y_ : List Int, y_ = (x6_2 ++ [x7_2]) := ⟨_, rfl⟩
             replace H : (ancepsref40_Vars.l2 k2 x3_1 y134 (wrap64 (x7_2 + 1))) = some r := by first | (rw [hy134]; with_reducible exact H) | (have H2_ := (Option.bind_some _ _).symm.trans H; rw [hy134]; with_reducible exact H2_) | (have H2_ := (Option.bind_some _ _).symm.trans H; with_reducible exact H2_) | with_reducible exact H | (rw [hy134]; exact H) | exact H
             have Ny134 := Aside0.mk hy134
             clear hy134
             have H' := Aside0.mk H
             clear H
             have p133 : 0 ≤ (x7_2 : Int) := of_decide_eq_true zh
             have q133 : x7_2 < (x3_1.length : Int) := of_decide_eq_true zh
             have hl24_ := arr_len HO_3.out
             have ha24_ : (x7_2 < 24) = True := eq_true (by omega)
             have hx133_0 := (Kd.R_celln false HO_3.out x7_2 p133 (by omega)).1
             (try rw [← Nbq22.out] at hx133_0)
             replace p133 := eq_true p133
             replace q133 := eq_true q133
             go_wp2_with (first | ((with_reducible refine gate_builtin (b := .append) (xs := #[.tmp 43, .tmp 45]) rfl ?_); at_builtin; refine Kd.R_append (Kd.int .i64) (w0 := w) w.heap.size rfl (.tmp 43) (.tmp 45) 42 3 (.int .i64 0) 8 rfl Try.underlying42 info3 rfl (by decide) (by omega) u6 x6_2 x7_2 [.int .i64 x7_2] (fun _ => True) (fun _ => False) rfl rfl ?aP (fun _ hk => hk.elim) ?aF ?aO ?aB ?aS ?aL ?_; (case aP => exact rfl); (case aB => exact zB); (case aF => exact (fun _ _ => trivial)); (case aO => exact (zR HO_6)); (case aS => exact (below_size zB)); (case aL => have := LMc24.out; omega); intro v135 w26 ho hb hg hat; rw [← Ny134.out] at ho; have n0_ := Aside0.mk (Kd.R_over' (zR HO_3) (Kd.R_typed (zR HO_6)) (by decide) hg); have n1_ := Aside0.mk (hb); have n2_ := Aside0.mk (ho); clear HO_3; clear HB; clear HO_6; have HO_3 := n0_; have HB := n1_; have HO136 := n2_; clear n0_ n1_ n2_; clear ho hb hg hat))
             go_roundg k2
             case measure => have := HK1.out; have := HK2.out; omega
             case rel => exact ⟨(y134), (wrap64 (x7_2 + 1)), zT, H', ⟨by have := HK1.out; have := HK2.out; omega⟩, ⟨by (with_reducible repeat (first | apply Kd.R_alloc | apply Kd.R_drewN | apply Kd.R_drew)); exact HO_3.out⟩, ⟨by (with_reducible repeat (first | apply Kd.R_alloc | apply Kd.R_drewN | apply Kd.R_drew)); exact HO136.out⟩, ⟨by repeat (first | (with_reducible first | exact HB.out | apply below_alloc | apply pw_below_drewN | apply below_drew1) | exact HB.out)⟩⟩
            ·rw [if_neg c24] at H
             exact absurd H (by simp)
           ·replace c23 := Bool.eq_false_iff.mpr c23
            subst c23
            have H1 : (ancepsref40_Vars.l2 k2 x3_1 x6_2 (wrap64 (x7_2 + 1))) = some r := by rw [if_neg (show ¬ (false = true) by decide)] at H; exact H
            clear H
            have H := H1
            clear H1
            have H' := Aside0.mk H
            clear H
            have p133 : 0 ≤ (x7_2 : Int) := of_decide_eq_true zh
            have q133 : x7_2 < (x3_1.length : Int) := of_decide_eq_true zh
            have hl24_ := arr_len HO_3.out
            have ha24_ : (x7_2 < 24) = True := eq_true (by omega)
            have hx133_0 := (Kd.R_celln false HO_3.out x7_2 p133 (by omega)).1
            (try rw [← Nbq22.out] at hx133_0)
            replace p133 := eq_true p133
            replace q133 := eq_true q133
            go_wp2
            go_roundg k2
            case measure => have := HK1.out; have := HK2.out; omega
            case rel => exact ⟨(x6_2), (wrap64 (x7_2 + 1)), zT, H', ⟨by have := HK1.out; have := HK2.out; omega⟩, ⟨by (with_reducible repeat (first | apply Kd.R_alloc | apply Kd.R_drewN | apply Kd.R_drew)); exact HO_3.out⟩, ⟨by (with_reducible repeat (first | apply Kd.R_alloc | apply Kd.R_drewN | apply Kd.R_drew)); exact HO_6.out⟩, ⟨by repeat (first | (with_reducible first | exact HB.out | apply below_alloc | apply pw_below_drewN | apply below_drew1) | exact HB.out)⟩⟩
          ·rw [if_neg c21] at H
           exact absurd H (by simp)
         ·rw [if_neg c20] at H
          exact absurd H (by simp)
        ·rw [if_neg c19] at H
         have c19b0 : decide (x7_2 < 24) = false := decide_eq_false c19
         clear c19
         obtain rfl := Option.some.inj H
         go_wp2
         go_ret
         exact ⟨_, by first | rfl | (simp [errW_none, errW_some] <;> rfl) | (simp [*, errW_none, errW_some] <;> rfl), by (with_reducible repeat (first | apply Kd.R_alloc | apply Kd.R_drewN | apply Kd.R_drew)); exact HO_6.out, by repeat (first | (with_reducible first | exact HB.out | apply below_alloc | apply pw_below_drewN | apply below_drew1) | exact HB.out)⟩
  ·rw [if_neg c6] at H
   exact absurd H (by simp)
 ·rw [if_neg c5] at H
  have c5b0 : (t125 == 0) = false := beq_eq_false_iff_ne.mpr c5
  have c5b1 : (t125 != 0) = true := bne_iff_ne.mpr c5
  (first | rw [c5b0] | (simp only [i64_w, i32_w]; rw [c5b0]) | skip)
  (try rw [c5b1])
  obtain rfl := Option.some.inj H
  go_wp2
  go_ret
  exact ⟨_, by first | rfl | (simp [errW_none, errW_some] <;> rfl) | (simp [*, errW_none, errW_some] <;> rfl), by first | exact Kd.R_nil _ _ _ _ _ | exact Kd.N_nil _ _ _ _ _ | exact Kd.V_nil _ _ _ _ _ | exact Kd.Q_nil _ _ _ _ _ | exact Kd.S_nil _ _ _ _ _, by repeat (first | (with_reducible first | exact HB.out | apply below_alloc | apply pw_below_drewN | apply below_drew1) | exact HB.out)⟩
/-! ### ancepsref38_Row: function 60 -/
def ancepsref38_Row.l0 : Nat → List Int → Int → Int → Int → Option (Int)
 | 0, _, _, _, _ => none
 | k + 1, x0, x1, x5, x6 => if x6 < (x0.length : Int) then (if 0 ≤ x6 then (if 0 ≤ (rd x0 x6) then (ancepsref38_Row.l0 k x0 x1 (wrap64 (x5 + (shl .i64 (Int.tmod (shr .i64 x1 (rd x0 x6)) 2) x6))) (wrap64 (x6 + 1))) else (none)) else (none)) else (some x5)
def ancepsref38_Row.f (k : Nat) (l0 : List Int) (a1 : Int) : Option (Int) := ancepsref38_Row.l0 k l0 a1 0 0
theorem ancepsref38_Row.mono_l : ∀ k, (∀ y0 y1 y2 y3, LeO (ancepsref38_Row.l0 k y0 y1 y2 y3) (ancepsref38_Row.l0 (k + 1) y0 y1 y2 y3))
 | 0 => fun _ _ _ _ r h => by simp [ancepsref38_Row.l0] at h
 | k + 1 => by
  have ih0 := ancepsref38_Row.mono_l k
  ·intro y0 y1 y2 y3
   unfold ancepsref38_Row.l0
   repeat' first
   | (with_reducible exact ih0 _ _ _ _)
   | (with_reducible exact LeO.refl _)
   | (with_reducible exact LeO.none _)
   | (with_reducible refine LeO.ite ?_ ?_)
   | (with_reducible refine LeO.bind ?_ (fun _ => ?_))
   | exact ih0 _ _ _ _
   | exact LeO.none _
   | refine LeO.ite ?_ ?_
   | refine LeO.bind ?_ (fun _ => ?_)
theorem ancepsref38_Row.mono : ∀ a0 a1 k, LeO (ancepsref38_Row.f k a0 a1) (ancepsref38_Row.f (k + 1) a0 a1) := by
 intro a0 a1 k
 have ih0 := ancepsref38_Row.mono_l k
 unfold ancepsref38_Row.f
 repeat' first
   | (with_reducible exact ih0 _ _ _ _)
   | (with_reducible exact LeO.refl _)
   | (with_reducible exact LeO.none _)
   | (with_reducible refine LeO.ite ?_ ?_)
   | (with_reducible refine LeO.bind ?_ (fun _ => ?_))
   | exact ih0 _ _ _ _
   | exact LeO.none _
   | refine LeO.ite ?_ ?_
   | refine LeO.bind ?_ (fun _ => ?_)
set_option maxHeartbeats 8000000 in
set_option maxRecDepth 100000 in
theorem ancepsref38_Row.calls (k : Nat) (A0 : Option Addr) (c0 : Nat) (l0 : List Int) (a1 : Int) (r : Int) (w : World) (hr0 : Kd.C (Kd.int .i64) w A0 l0.length l0) (hc0 : l0.length ≤ c0) (h : ancepsref38_Row.f k l0 a1 = some r) :
  Calls Try.prog 60 #[.slice A0 l0.length c0, .int .i64 a1] w fun e w' => e = .returned (.int .i64 r) ∧ Drawn0 w w' := by
 have hu3 := Try.underlying3
 have HR0 := Aside0.mk hr0
 have HC0 := Aside0.mk hc0
 clear hr0 hc0
 have H : (ancepsref38_Row.l0 k l0 a1 0 0) = some r := h
 clear h
 have H' := Aside0.mk H
 clear H
 go_enter Try.func60, Try.ntmps60
 go_wp2
 go_loopg [5, 6] k (fun kq v5 v6 w' => ∃ (x5_1 : Int) (x6_1 : Int), v5 = .int .i64 x5_1 ∧ v6 = .int .i64 x6_1 ∧ Aside0 (ancepsref38_Row.l0 kq l0 a1 x5_1 x6_1 = some r) ∧ Aside0 (kq ≤ k) ∧ Drawn0 w w')
 case atStart => exact ⟨(0), (0), zT, zT, H', ⟨Nat.le_refl _⟩, by repeat (first | exact Drawn0.refl _ | apply Drawn0.step)⟩
 case round =>
  clear H'
  obtain ⟨x5_1, x6_1, rfl, rfl, HA, HK1, ⟨m1, rfl⟩⟩ := hrel
  cases gk with
  | zero => exact absurd HA.out (by simp [ancepsref38_Row.l0])
  | succ k1 =>
   have H := HA.out
   clear HA
   simp only [ancepsref38_Row.l0] at H
   by_cases c3 : x6_1 < (l0.length : Int)
   ·rw [if_pos c3] at H
    have c3b0 : decide (x6_1 < (l0.length : Int)) = true := decide_eq_true c3
    clear c3
    by_cases c4 : 0 ≤ x6_1
    ·rw [if_pos c4] at H
     have c4b0 : decide (0 ≤ x6_1) = true := decide_eq_true c4
     clear c4
     by_cases c5 : 0 ≤ (rd l0 x6_1)
     ·rw [if_pos c5] at H
      have c5b0 := eq_true c5
      have c5b1 : decide (0 ≤ (rd l0 x6_1)) = true := decide_eq_true c5
      clear c5
      obtain ⟨ji6, hji6⟩ : ∃ j_ : Int, (shr .i64 a1 (rd l0 x6_1)) = j_ := ⟨_, rfl⟩
      replace H : (ancepsref38_Row.l0 k1 l0 a1 (wrap64 (x5_1 + (shl .i64 (Int.tmod (ji6) 2) x6_1))) (wrap64 (x6_1 + 1))) = some r := by first | (rw [hji6] at H; exact H) | (simp only [hji6] at H ⊢; exact H)
      have hji6_ : (a1 / 2 ^ min (rd l0 x6_1).toNat 64) = ji6 := hji6
      have hji6z : (rd l0 x6_1) ≤ 64 → (a1 / 2 ^ (rd l0 x6_1).toNat) = ji6 := shr_small hji6
      have c7b0 := eq_true (of_decide_eq_true zh : 0 ≤ x6_1)
      obtain ⟨ji8, hji8⟩ : ∃ j_ : Int, (shl .i64 (Int.tmod (ji6) 2) x6_1) = j_ := ⟨_, rfl⟩
      replace H : (ancepsref38_Row.l0 k1 l0 a1 (wrap64 (x5_1 + (ji8))) (wrap64 (x6_1 + 1))) = some r := by first | (rw [hji8] at H; exact H) | (simp only [hji8] at H ⊢; exact H)
      have hji8_ : (IntKind.i64.wrap ((Int.tmod (ji6) 2) * 2 ^ min x6_1.toNat 64)) = ji8 := hji8
      have hji8z : x6_1 ≤ 64 → (IntKind.i64.wrap ((Int.tmod (ji6) 2) * 2 ^ x6_1.toNat)) = ji8 := shl_small hji8
      have hji8y : (wrap64 ((Int.tmod (ji6) 2) * 2 ^ min x6_1.toNat 64)) = ji8 := (i64_w _).symm.trans hji8_
      have hji8x : x6_1 ≤ 64 → (wrap64 ((Int.tmod (ji6) 2) * 2 ^ x6_1.toNat)) = ji8 := fun h_ => (i64_w _).symm.trans (hji8z h_)
      have H' := Aside0.mk H
      clear H
      have p377 : 0 ≤ (x6_1 : Int) := of_decide_eq_true zh
      have q377 : x6_1 < (l0.length : Int) := of_decide_eq_true zh
      obtain ⟨ad377, e377, hx377_0⟩ := Kd.at_int HR0.out x6_1 p377 q377
      cases e377
      replace p377 := eq_true p377
      replace q377 := eq_true q377
      go_wp2
      go_roundg k1
      case measure => have := HK1.out; omega
      case rel => exact ⟨(wrap64 (x5_1 + (ji8))), (wrap64 (x6_1 + 1)), (by first | rfl | (simp; done) | (simp only [← hji8] <;> (first | rfl | simp)) | (simp [*]; done)), zT, H', ⟨by have := HK1.out; omega⟩, by repeat (first | exact Drawn0.refl _ | apply Drawn0.step)⟩
     ·rw [if_neg c5] at H
      exact absurd H (by simp)
    ·rw [if_neg c4] at H
     exact absurd H (by simp)
   ·rw [if_neg c3] at H
    have c3b0 : decide (x6_1 < (l0.length : Int)) = false := decide_eq_false c3
    clear c3
    obtain rfl := Option.some.inj H
    go_wp2
    go_ret
    exact ⟨by first | rfl | (simp; done) | (simp [*]; done), by repeat (first | exact Drawn0.refl _ | apply Drawn0.step)⟩
/-! ### ancepsref38_in: function 94 -/
def ancepsref38_in.l0 : Nat → List Int → Int → Int → Option (Bool)
 | 0, _, _, _ => none
 | k + 1, x0, x1, x5 => if x5 < (x0.length : Int) then (if 0 ≤ x5 then (if (rd x0 x5) = x1 then (some true) else (ancepsref38_in.l0 k x0 x1 (wrap64 (x5 + 1)))) else (none)) else (some false)
def ancepsref38_in.f (k : Nat) (l0 : List Int) (a1 : Int) : Option (Bool) := ancepsref38_in.l0 k l0 a1 0
theorem ancepsref38_in.mono_l : ∀ k, (∀ y0 y1 y2, LeO (ancepsref38_in.l0 k y0 y1 y2) (ancepsref38_in.l0 (k + 1) y0 y1 y2))
 | 0 => fun _ _ _ r h => by simp [ancepsref38_in.l0] at h
 | k + 1 => by
  have ih0 := ancepsref38_in.mono_l k
  ·intro y0 y1 y2
   unfold ancepsref38_in.l0
   repeat' first
   | (with_reducible exact ih0 _ _ _)
   | (with_reducible exact LeO.refl _)
   | (with_reducible exact LeO.none _)
   | (with_reducible refine LeO.ite ?_ ?_)
   | (with_reducible refine LeO.bind ?_ (fun _ => ?_))
   | exact ih0 _ _ _
   | exact LeO.none _
   | refine LeO.ite ?_ ?_
   | refine LeO.bind ?_ (fun _ => ?_)
theorem ancepsref38_in.mono : ∀ a0 a1 k, LeO (ancepsref38_in.f k a0 a1) (ancepsref38_in.f (k + 1) a0 a1) := by
 intro a0 a1 k
 have ih0 := ancepsref38_in.mono_l k
 unfold ancepsref38_in.f
 repeat' first
   | (with_reducible exact ih0 _ _ _)
   | (with_reducible exact LeO.refl _)
   | (with_reducible exact LeO.none _)
   | (with_reducible refine LeO.ite ?_ ?_)
   | (with_reducible refine LeO.bind ?_ (fun _ => ?_))
   | exact ih0 _ _ _
   | exact LeO.none _
   | refine LeO.ite ?_ ?_
   | refine LeO.bind ?_ (fun _ => ?_)
set_option maxHeartbeats 8000000 in
set_option maxRecDepth 100000 in
theorem ancepsref38_in.calls (k : Nat) (A0 : Option Addr) (c0 : Nat) (l0 : List Int) (a1 : Int) (r : Bool) (w : World) (hr0 : Kd.C (Kd.int .i64) w A0 l0.length l0) (hc0 : l0.length ≤ c0) (h : ancepsref38_in.f k l0 a1 = some r) :
  Calls Try.prog 94 #[.slice A0 l0.length c0, .int .i64 a1] w fun e w' => e = .returned (.bool r) ∧ Drawn0 w w' := by
 have hu3 := Try.underlying3
 have HR0 := Aside0.mk hr0
 have HC0 := Aside0.mk hc0
 clear hr0 hc0
 have H : (ancepsref38_in.l0 k l0 a1 0) = some r := h
 clear h
 have H' := Aside0.mk H
 clear H
 go_enter Try.func94, Try.ntmps94
 go_wp2
 go_loopg [5] k (fun kq v5 w' => ∃ (x5_1 : Int), v5 = .int .i64 x5_1 ∧ Aside0 (ancepsref38_in.l0 kq l0 a1 x5_1 = some r) ∧ Aside0 (kq ≤ k) ∧ Drawn0 w w')
 case atStart => exact ⟨(0), zT, H', ⟨Nat.le_refl _⟩, by repeat (first | exact Drawn0.refl _ | apply Drawn0.step)⟩
 case round =>
  clear H'
  obtain ⟨x5_1, rfl, HA, HK1, ⟨m1, rfl⟩⟩ := hrel
  cases gk with
  | zero => exact absurd HA.out (by simp [ancepsref38_in.l0])
  | succ k1 =>
   have H := HA.out
   clear HA
   simp only [ancepsref38_in.l0] at H
   by_cases c3 : x5_1 < (l0.length : Int)
   ·rw [if_pos c3] at H
    have c3b0 : decide (x5_1 < (l0.length : Int)) = true := decide_eq_true c3
    clear c3
    by_cases c4 : 0 ≤ x5_1
    ·rw [if_pos c4] at H
     have c4b0 : decide (0 ≤ x5_1) = true := decide_eq_true c4
     clear c4
     by_cases c5 : (rd l0 x5_1) = a1
     ·rw [if_pos c5] at H
      have c5b0 : ((rd l0 x5_1) == a1) = true := beq_iff_eq.mpr c5
      have c5b1 : ((rd l0 x5_1) != a1) = false := bne_eq_false_iff_eq.mpr c5
      clear c5
      obtain rfl := Option.some.inj H
      have p378 : 0 ≤ (x5_1 : Int) := of_decide_eq_true zh
      have q378 : x5_1 < (l0.length : Int) := of_decide_eq_true zh
      obtain ⟨ad378, e378, hx378_0⟩ := Kd.at_int HR0.out x5_1 p378 q378
      cases e378
      replace p378 := eq_true p378
      replace q378 := eq_true q378
      go_wp2
      go_ret
      exact ⟨by first | rfl | (simp; done) | (simp [*]; done), by repeat (first | exact Drawn0.refl _ | apply Drawn0.step)⟩
     ·rw [if_neg c5] at H
      have c5b0 : ((rd l0 x5_1) == a1) = false := beq_eq_false_iff_ne.mpr c5
      have c5b1 : ((rd l0 x5_1) != a1) = true := bne_iff_ne.mpr c5
      have H' := Aside0.mk H
      clear H
      have p378 : 0 ≤ (x5_1 : Int) := of_decide_eq_true zh
      have q378 : x5_1 < (l0.length : Int) := of_decide_eq_true zh
      obtain ⟨ad378, e378, hx378_0⟩ := Kd.at_int HR0.out x5_1 p378 q378
      cases e378
      replace p378 := eq_true p378
      replace q378 := eq_true q378
      go_wp2
      go_roundg k1
      case measure => have := HK1.out; omega
      case rel => exact ⟨(wrap64 (x5_1 + 1)), zT, H', ⟨by have := HK1.out; omega⟩, by repeat (first | exact Drawn0.refl _ | apply Drawn0.step)⟩
    ·rw [if_neg c4] at H
     exact absurd H (by simp)
   ·rw [if_neg c3] at H
    have c3b0 : decide (x5_1 < (l0.length : Int)) = false := decide_eq_false c3
    clear c3
    obtain rfl := Option.some.inj H
    go_wp2
    go_ret
    exact ⟨by first | rfl | (simp; done) | (simp [*]; done), by repeat (first | exact Drawn0.refl _ | apply Drawn0.step)⟩
/-! ### ancepsref38_Holds: function 61 -/
def ancepsref38_Holds.f (k : Nat) (l0_0 : List Int) (l0_1 : List Int) (a1 : Int) : Option (Bool) := (ancepsref38_Row.f k l0_0 a1).bind fun t380 => ((ancepsref38_in.f k l0_1 t380).bind fun t381 => (some t381))
theorem ancepsref38_Holds.mono : ∀ a0 a1 a2 k, LeO (ancepsref38_Holds.f k a0 a1 a2) (ancepsref38_Holds.f (k + 1) a0 a1 a2) := by
 intro a0 a1 a2 k
 unfold ancepsref38_Holds.f
 repeat' first
   | (with_reducible exact ancepsref38_Row.mono _ _ _)
   | (with_reducible exact ancepsref38_in.mono _ _ _)
   | (with_reducible exact LeO.refl _)
   | (with_reducible exact LeO.none _)
   | (with_reducible refine LeO.ite ?_ ?_)
   | (with_reducible refine LeO.bind ?_ (fun _ => ?_))
   | exact ancepsref38_Row.mono _ _ _
   | exact ancepsref38_in.mono _ _ _
   | exact LeO.none _
   | refine LeO.ite ?_ ?_
   | refine LeO.bind ?_ (fun _ => ?_)
set_option maxHeartbeats 8000000 in
set_option maxRecDepth 100000 in
theorem ancepsref38_Holds.calls (k : Nat) (A0_0 : Option Addr) (c0_0 : Nat) (l0_0 : List Int) (A0_1 : Option Addr) (c0_1 : Nat) (l0_1 : List Int) (a1 : Int) (r : Bool) (w : World) (hr0_0 : Kd.C (Kd.int .i64) w A0_0 l0_0.length l0_0) (hc0_0 : l0_0.length ≤ c0_0) (hr0_1 : Kd.C (Kd.int .i64) w A0_1 l0_1.length l0_1) (hc0_1 : l0_1.length ≤ c0_1) (h : ancepsref38_Holds.f k l0_0 l0_1 a1 = some r) :
  Calls Try.prog 61 #[.agg #[.slice A0_0 l0_0.length c0_0, .slice A0_1 l0_1.length c0_1], .int .i64 a1] w fun e w' => e = .returned (.bool r) ∧ Below w.heap.size w w' := by
 have hu61 := Try.underlying61
 have hu42 := Try.underlying42
 have HR0_0 := Aside0.mk hr0_0
 have HC0_0 := Aside0.mk hc0_0
 clear hr0_0 hc0_0
 have HR0_1 := Aside0.mk hr0_1
 have HC0_1 := Aside0.mk hc0_1
 clear hr0_1 hc0_1
 have HB := Aside0.mk (Below.refl w.heap.size w)
 have H : ((ancepsref38_Row.f k l0_0 a1).bind fun t380 => ((ancepsref38_in.f k l0_1 t380).bind fun t381 => (some t381))) = some r := h
 clear h
 replace H := Option.bind_eq_some_iff.mp H
 obtain ⟨t380, A30, H⟩ := H
 replace H : ((ancepsref38_in.f k l0_1 t380).bind fun t381 => (some t381)) = some r := H
 have A3 := Aside0.mk A30
 clear A30
 replace H := Option.bind_eq_some_iff.mp H
 obtain ⟨t381, A40, H⟩ := H
 replace H : (some t381) = some r := H
 have A4 := Aside0.mk A40
 clear A40
 obtain rfl := Option.some.inj H
 go_enter Try.func61, Try.ntmps61
 go_wp2_with (first | ((with_reducible refine gate_dst (N := 2) rfl ?_); refine box_event ?hg (N := 2) ?hd (cs := #[.slice A0_0 l0_0.length c0_0, .slice A0_1 l0_1.length c0_1]) (t := 61) ?hr ?_; (case hd => rfl); (case hg => rfl); (case hr => first | (go_simp; done) | (go_simp; rfl)); intro gb379 hg w5 hbox hb; have n0_ := Aside0.mk (below_step zB hb); have n1_ := Aside0.mk (hbox); have n2_ := Aside0.mk ((by rw [hg]; exact (below_size zB) : w.heap.size ≤ gb379)); have n3_ := Aside0.mk ((by rw [hg]; exact (below_size zB) : w.heap.size ≤ gb379)); clear HB; have HB := n0_; have BK379 := n1_; have GW379 := n2_; have GE379 := n3_; clear n0_ n1_ n2_ n3_; clear hb hbox hg; have hcz6_0 : w5.cell? ⟨gb379, 0, none⟩ = some (.slice A0_0 l0_0.length c0_0) := (blk_cell BK379.out 0).trans rfl; have hcz6_1 : w5.cell? ⟨gb379, 1, none⟩ = some (.slice A0_1 l0_1.length c0_1) := (blk_cell BK379.out 1).trans rfl; have hfz6_0 := blk_frozen BK379.out 0; have hfz6_1 := blk_frozen BK379.out 1) | (go_at_call 60; (with_reducible refine (ancepsref38_Row.calls k _ _ l0_0 a1 t380 _ ?side1 ?side2 A3.out).mono ?_); (case side1 => repeat (first | exact (Kd.C_below HR0_0.out HB.out) | (with_reducible refine Kd.C_alloc ?_ _) | (with_reducible refine Kd.C_drewN ?_ _) | (with_reducible refine Kd.C_drew ?_))); (case side2 => exact HC0_0.out); rintro e w' ⟨rfl, ⟨nd, rfl⟩⟩; (try first | exact ⟨rfl, _, World.drewN_drewN _ _ _⟩ | exact ⟨rfl, _, Eq.trans (World.drewN_drewN _ _ _) (congrArg (World.drewN _) (Nat.add_assoc _ _ _))⟩)) | (go_at_call 94; (with_reducible refine (ancepsref38_in.calls k _ _ l0_1 t380 t381 _ ?side1 ?side2 A4.out).mono ?_); (case side1 => repeat (first | exact (Kd.C_below HR0_1.out zB) | (with_reducible refine Kd.C_alloc ?_ _) | (with_reducible refine Kd.C_drewN ?_ _) | (with_reducible refine Kd.C_drew ?_))); (case side2 => exact HC0_1.out); rintro e w' ⟨rfl, ⟨nd, rfl⟩⟩; (try first | exact ⟨rfl, _, World.drewN_drewN _ _ _⟩ | exact ⟨rfl, _, Eq.trans (World.drewN_drewN _ _ _) (congrArg (World.drewN _) (Nat.add_assoc _ _ _))⟩)))
 repeat (go_quiet (first | ((with_reducible refine gate_dst (N := 2) rfl ?_); refine box_event ?hg (N := 2) ?hd (cs := #[.slice A0_0 l0_0.length c0_0, .slice A0_1 l0_1.length c0_1]) (t := 61) ?hr ?_; (case hd => rfl); (case hg => rfl); (case hr => first | (go_simp; done) | (go_simp; rfl)); intro gb379 hg w5 hbox hb; have n0_ := Aside0.mk (below_step zB hb); have n1_ := Aside0.mk (hbox); have n2_ := Aside0.mk ((by rw [hg]; exact (below_size zB) : w.heap.size ≤ gb379)); have n3_ := Aside0.mk ((by rw [hg]; exact (below_size zB) : w.heap.size ≤ gb379)); clear HB; have HB := n0_; have BK379 := n1_; have GW379 := n2_; have GE379 := n3_; clear n0_ n1_ n2_ n3_; clear hb hbox hg; have hcz6_0 : w5.cell? ⟨gb379, 0, none⟩ = some (.slice A0_0 l0_0.length c0_0) := (blk_cell BK379.out 0).trans rfl; have hcz6_1 : w5.cell? ⟨gb379, 1, none⟩ = some (.slice A0_1 l0_1.length c0_1) := (blk_cell BK379.out 1).trans rfl; have hfz6_0 := blk_frozen BK379.out 0; have hfz6_1 := blk_frozen BK379.out 1) | (go_at_call 60; (with_reducible refine (ancepsref38_Row.calls k _ _ l0_0 a1 t380 _ ?side1 ?side2 A3.out).mono ?_); (case side1 => repeat (first | exact (Kd.C_below HR0_0.out HB.out) | (with_reducible refine Kd.C_alloc ?_ _) | (with_reducible refine Kd.C_drewN ?_ _) | (with_reducible refine Kd.C_drew ?_))); (case side2 => exact HC0_0.out); rintro e w' ⟨rfl, ⟨nd, rfl⟩⟩; (try first | exact ⟨rfl, _, World.drewN_drewN _ _ _⟩ | exact ⟨rfl, _, Eq.trans (World.drewN_drewN _ _ _) (congrArg (World.drewN _) (Nat.add_assoc _ _ _))⟩)) | (go_at_call 94; (with_reducible refine (ancepsref38_in.calls k _ _ l0_1 t380 t381 _ ?side1 ?side2 A4.out).mono ?_); (case side1 => repeat (first | exact (Kd.C_below HR0_1.out zB) | (with_reducible refine Kd.C_alloc ?_ _) | (with_reducible refine Kd.C_drewN ?_ _) | (with_reducible refine Kd.C_drew ?_))); (case side2 => exact HC0_1.out); rintro e w' ⟨rfl, ⟨nd, rfl⟩⟩; (try first | exact ⟨rfl, _, World.drewN_drewN _ _ _⟩ | exact ⟨rfl, _, Eq.trans (World.drewN_drewN _ _ _) (congrArg (World.drewN _) (Nat.add_assoc _ _ _))⟩))); try go_wp2_with (first | ((with_reducible refine gate_dst (N := 2) rfl ?_); refine box_event ?hg (N := 2) ?hd (cs := #[.slice A0_0 l0_0.length c0_0, .slice A0_1 l0_1.length c0_1]) (t := 61) ?hr ?_; (case hd => rfl); (case hg => rfl); (case hr => first | (go_simp; done) | (go_simp; rfl)); intro gb379 hg w5 hbox hb; have n0_ := Aside0.mk (below_step zB hb); have n1_ := Aside0.mk (hbox); have n2_ := Aside0.mk ((by rw [hg]; exact (below_size zB) : w.heap.size ≤ gb379)); have n3_ := Aside0.mk ((by rw [hg]; exact (below_size zB) : w.heap.size ≤ gb379)); clear HB; have HB := n0_; have BK379 := n1_; have GW379 := n2_; have GE379 := n3_; clear n0_ n1_ n2_ n3_; clear hb hbox hg; have hcz6_0 : w5.cell? ⟨gb379, 0, none⟩ = some (.slice A0_0 l0_0.length c0_0) := (blk_cell BK379.out 0).trans rfl; have hcz6_1 : w5.cell? ⟨gb379, 1, none⟩ = some (.slice A0_1 l0_1.length c0_1) := (blk_cell BK379.out 1).trans rfl; have hfz6_0 := blk_frozen BK379.out 0; have hfz6_1 := blk_frozen BK379.out 1) | (go_at_call 60; (with_reducible refine (ancepsref38_Row.calls k _ _ l0_0 a1 t380 _ ?side1 ?side2 A3.out).mono ?_); (case side1 => repeat (first | exact (Kd.C_below HR0_0.out HB.out) | (with_reducible refine Kd.C_alloc ?_ _) | (with_reducible refine Kd.C_drewN ?_ _) | (with_reducible refine Kd.C_drew ?_))); (case side2 => exact HC0_0.out); rintro e w' ⟨rfl, ⟨nd, rfl⟩⟩; (try first | exact ⟨rfl, _, World.drewN_drewN _ _ _⟩ | exact ⟨rfl, _, Eq.trans (World.drewN_drewN _ _ _) (congrArg (World.drewN _) (Nat.add_assoc _ _ _))⟩)) | (go_at_call 94; (with_reducible refine (ancepsref38_in.calls k _ _ l0_1 t380 t381 _ ?side1 ?side2 A4.out).mono ?_); (case side1 => repeat (first | exact (Kd.C_below HR0_1.out zB) | (with_reducible refine Kd.C_alloc ?_ _) | (with_reducible refine Kd.C_drewN ?_ _) | (with_reducible refine Kd.C_drew ?_))); (case side2 => exact HC0_1.out); rintro e w' ⟨rfl, ⟨nd, rfl⟩⟩; (try first | exact ⟨rfl, _, World.drewN_drewN _ _ _⟩ | exact ⟨rfl, _, Eq.trans (World.drewN_drewN _ _ _) (congrArg (World.drewN _) (Nat.add_assoc _ _ _))⟩))))
 go_ret
 exact ⟨by first | rfl | (simp [errW_none, errW_some] <;> rfl) | (simp [*, errW_none, errW_some] <;> rfl), by repeat (first | (with_reducible first | exact HB.out | apply below_alloc | apply pw_below_drewN | apply below_drew1 | refine below_set ?_ GE379.out) | exact HB.out)⟩
end Go.Proofs.Ytbagnalcabdlhaa.S
