-- Written by wip/tools/myprint.py, a program of this session's.
import Derived.Test.YtbagnalcabdlhaaS0
namespace Go.Proofs.Ytbagnalcabdlhaa.S
open Go.RowKit Go.Proofs.YtbagnalcabdlhaaW.PrintWords Go.Proofs.YtbagnalcabdlhaaW.PrintLast Go.Proofs.YtbagnalcabdlhaaW.PrintMore
attribute [local go_sem] max2_int min2_int max_two min_two max_three min_three max_four min_four   -- for this text's walks alone
set_option linter.unusedVariables false
set_option linter.unusedSimpArgs false
/-! ### ancepsref38_Few: function 45 -/
def ancepsref38_Few.f (l0_0 : List Int) (l0_1 : List Int) : Option (Bool) := if (l0_0.length : Int) ≤ 12 then (some (decide ((l0_1.length : Int) ≤ 1030))) else (some false)
set_option maxHeartbeats 8000000 in
set_option maxRecDepth 100000 in
theorem ancepsref38_Few.calls (A0_0 : Option Addr) (c0_0 : Nat) (l0_0 : List Int) (A0_1 : Option Addr) (c0_1 : Nat) (l0_1 : List Int) (r : Bool) (w : World) (hr0_0 : Kd.C (Kd.int .i64) w A0_0 l0_0.length l0_0) (hc0_0 : l0_0.length ≤ c0_0) (hr0_1 : Kd.C (Kd.int .i64) w A0_1 l0_1.length l0_1) (hc0_1 : l0_1.length ≤ c0_1) (h : ancepsref38_Few.f l0_0 l0_1 = some r) :
  Calls Try.prog 45 #[.agg #[.slice A0_0 l0_0.length c0_0, .slice A0_1 l0_1.length c0_1]] w fun e w' => e = .returned (.bool r) ∧ Below w.heap.size w w' := by
 have hu61 := Try.underlying61
 have hu42 := Try.underlying42
 have HR0_0 := Aside0.mk hr0_0
 have HC0_0 := Aside0.mk hc0_0
 clear hr0_0 hc0_0
 have HR0_1 := Aside0.mk hr0_1
 have HC0_1 := Aside0.mk hc0_1
 clear hr0_1 hc0_1
 have HB := Aside0.mk (Below.refl w.heap.size w)
 have H : (if (l0_0.length : Int) ≤ 12 then (some (decide ((l0_1.length : Int) ≤ 1030))) else (some false)) = some r := h
 clear h
 have HC2 := Aside0.mk H
 clear H
 go_enter Try.func45, Try.ntmps45
 go_upto_region 1 with (first | ((with_reducible refine gate_dst (N := 1) rfl ?_); (try (refine gate_guard (by rfl) ?_; dsimp only)); refine box_event ?hg (N := 1) ?hd (cs := #[.slice A0_0 l0_0.length c0_0, .slice A0_1 l0_1.length c0_1]) (t := 61) ?hr ?_; (case hd => rfl); (case hg => rfl); (case hr => first | (go_simp; done) | (go_simp; rfl)); intro gb345 hg w3 hbox hb; have n0_ := Aside0.mk (below_step zB hb); have n1_ := Aside0.mk (hbox); have n2_ := Aside0.mk ((by rw [hg]; exact (below_size zB) : w.heap.size ≤ gb345)); have n3_ := Aside0.mk ((by rw [hg]; exact (below_size zB) : w.heap.size ≤ gb345)); clear HB; have HB := n0_; have BK345 := n1_; have GW345 := n2_; have GE345 := n3_; clear n0_ n1_ n2_ n3_; clear hb hbox hg))
 (try simp only [Act.put, List.setIfInBounds_toArray, List.set_cons_zero, List.set_cons_succ])
 have H := HC2.out
 clear HC2
 by_cases c4 : (l0_0.length : Int) ≤ 12
 ·rw [if_pos c4] at H
  have c4b0 : decide ((l0_0.length : Int) ≤ 12) = true := decide_eq_true c4
  have c4b1 : decide (l0_0.length ≤ 12) = true := decide_eq_true (by omega)
  clear c4
  (first | rw [c4b0] | (simp only [i64_w, i32_w]; rw [c4b0]) | skip)
  (try rw [c4b1])
  obtain rfl := Option.some.inj H
  have hcz5_0 : w3.cell? ⟨gb345, 0, none⟩ = some (.slice A0_0 l0_0.length c0_0) := (blk_cell BK345.out 0).trans rfl
  have hcz5_1 : w3.cell? ⟨gb345, 1, none⟩ = some (.slice A0_1 l0_1.length c0_1) := (blk_cell BK345.out 1).trans rfl
  have hfz5_0 := blk_frozen BK345.out 0
  have hfz5_1 := blk_frozen BK345.out 1
  go_wp2
  go_ret
  exact ⟨by first | rfl | (simp [errW_none, errW_some] <;> rfl) | (simp [*, errW_none, errW_some] <;> rfl), by repeat (first | (with_reducible first | exact HB.out | apply below_alloc | apply pw_below_drewN | apply below_drew1 | refine below_set ?_ GE345.out) | exact HB.out)⟩
 ·rw [if_neg c4] at H
  have c4b0 : decide ((l0_0.length : Int) ≤ 12) = false := decide_eq_false c4
  have c4b1 : decide (l0_0.length ≤ 12) = false := decide_eq_false (by omega)
  clear c4
  (first | rw [c4b0] | (simp only [i64_w, i32_w]; rw [c4b0]) | skip)
  (try rw [c4b1])
  obtain rfl := Option.some.inj H
  have hcz6_0 : w3.cell? ⟨gb345, 0, none⟩ = some (.slice A0_0 l0_0.length c0_0) := (blk_cell BK345.out 0).trans rfl
  have hcz6_1 : w3.cell? ⟨gb345, 1, none⟩ = some (.slice A0_1 l0_1.length c0_1) := (blk_cell BK345.out 1).trans rfl
  have hfz6_0 := blk_frozen BK345.out 0
  have hfz6_1 := blk_frozen BK345.out 1
  go_wp2
  go_ret
  exact ⟨by first | rfl | (simp [errW_none, errW_some] <;> rfl) | (simp [*, errW_none, errW_some] <;> rfl), by repeat (first | (with_reducible first | exact HB.out | apply below_alloc | apply pw_below_drewN | apply below_drew1 | refine below_set ?_ GE345.out) | exact HB.out)⟩
/-! ### ancepsref40_Few: function 13 -/
/-! #### an array variable of 24 Booleans: a block of cells behind a pointer; told as a row -/
theorem arr_box {w : World} {g b : Nat} (h : w.heap[g]? = some (.cells #[.bool false, .bool false, .bool false, .bool false, .bool false, .bool false, .bool false, .bool false, .bool false, .bool false, .bool false, .bool false, .bool false, .bool false, .bool false, .bool false, .bool false, .bool false, .bool false, .bool false, .bool false, .bool false, .bool false, .bool false] 62 (0, 0))) (hb : b ≤ g) :
  Kd.R Kd.bool 62 w b (fun _ => True) (.slice (some ⟨g, 0, none⟩) 24 24) (List.replicate 24 false) :=
 Kd.R_of_own (enc := Value.bool) (h1 := fun _ => rfl) ⟨by simp [encs], .inr ⟨g, 24, _, rfl, hb, h, by simp, by simp [maxLen], rfl, by simp [encs, List.replicate]⟩⟩ (fun _ _ => trivial)
theorem arr_len {w : World} {g b : Nat} {ok : Nat → Prop} {x : List Bool} (h : Kd.R Kd.bool 62 w b ok (.slice (some ⟨g, 0, none⟩) 24 24) x) : x.length = 24 := by
 obtain ⟨A, c, e⟩ := Kd.R_slice h
 injection e with _ e2 _
 exact e2.symm
mutual
def ancepsref40_Few.l0 : Nat → List (S61) → List Bool → Int → Int → Int → Option (Bool)
 | 0, _, _, _, _, _ => none
 | k + 1, x0, x3, x4, x5, x6 => if x6 < (x0.length : Int) then (if 0 ≤ x6 then ((ancepsref38_Few.f ((rd_T61 x0 x6).f0) ((rd_T61 x0 x6).f1)).bind fun t106 => (if t106 = true then (ancepsref40_Few.l1 k x0 x3 x4 (wrap64 (x5 + (((rd_T61 x0 x6).f1).length : Int))) x6 0) else (some false))) else (none)) else (if x4 ≤ 10 then (some (decide (x5 ≤ 2000))) else (some false))
def ancepsref40_Few.l1 : Nat → List (S61) → List Bool → Int → Int → Int → Int → Option (Bool)
 | 0, _, _, _, _, _, _ => none
 | k + 1, x0, x3, x4, x5, x6, x7 => if 0 ≤ x6 then (if x6 < (x0.length : Int) then (if x7 < (((rd_T61 x0 x6).f0).length : Int) then (if 0 ≤ x7 then (if (rd ((rd_T61 x0 x6).f0) x7) ≥ 0 then (if (rd ((rd_T61 x0 x6).f0) x7) < 24 then (if 0 ≤ (rd ((rd_T61 x0 x6).f0) x7) then (if (rd ((rd_T61 x0 x6).f0) x7) < (x3.length : Int) then (if (rdOf false x3 (rd ((rd_T61 x0 x6).f0) x7) = true) then (ancepsref40_Few.l1 k x0 x3 x4 x5 x6 (wrap64 (x7 + 1))) else (ancepsref40_Few.l1 k x0 (x3.set ((rd ((rd_T61 x0 x6).f0) x7) : Int).toNat true) (wrap64 (x4 + 1)) x5 x6 (wrap64 (x7 + 1)))) else (none)) else (none)) else (ancepsref40_Few.l1 k x0 x3 x4 x5 x6 (wrap64 (x7 + 1)))) else (ancepsref40_Few.l1 k x0 x3 x4 x5 x6 (wrap64 (x7 + 1)))) else (none)) else (ancepsref40_Few.l0 k x0 x3 x4 x5 (wrap64 (x6 + 1)))) else (none)) else (none)
end
def ancepsref40_Few.f (k : Nat) (l0 : List (S61)) : Option (Bool) := if (l0.length : Int) > 18 then (some false) else (if 24 ≤ 281474976710656 then (ancepsref40_Few.l0 k l0 (List.replicate 24 false) 0 0 0) else (none))
theorem ancepsref40_Few.mono_l : ∀ k, (∀ y0 y1 y2 y3 y4, LeO (ancepsref40_Few.l0 k y0 y1 y2 y3 y4) (ancepsref40_Few.l0 (k + 1) y0 y1 y2 y3 y4)) ∧ (∀ y0 y1 y2 y3 y4 y5, LeO (ancepsref40_Few.l1 k y0 y1 y2 y3 y4 y5) (ancepsref40_Few.l1 (k + 1) y0 y1 y2 y3 y4 y5))
 | 0 => ⟨fun _ _ _ _ _ r h => by simp [ancepsref40_Few.l0] at h, fun _ _ _ _ _ _ r h => by simp [ancepsref40_Few.l1] at h⟩
 | k + 1 => by
  obtain ⟨ih0, ih1⟩ := ancepsref40_Few.mono_l k
  refine ⟨?_, ?_⟩
  ·intro y0 y1 y2 y3 y4
   unfold ancepsref40_Few.l0
   repeat' first
   | (with_reducible exact ih0 _ _ _ _ _)
   | (with_reducible exact ih1 _ _ _ _ _ _)
   | (with_reducible exact LeO.refl _)
   | (with_reducible exact LeO.none _)
   | (with_reducible refine LeO.ite ?_ ?_)
   | (with_reducible refine LeO.bind ?_ (fun _ => ?_))
   | exact ih0 _ _ _ _ _
   | exact ih1 _ _ _ _ _ _
   | exact LeO.none _
   | refine LeO.ite ?_ ?_
   | refine LeO.bind ?_ (fun _ => ?_)
  ·intro y0 y1 y2 y3 y4 y5
   unfold ancepsref40_Few.l1
   repeat' first
   | (with_reducible exact ih0 _ _ _ _ _)
   | (with_reducible exact ih1 _ _ _ _ _ _)
   | (with_reducible exact LeO.refl _)
   | (with_reducible exact LeO.none _)
   | (with_reducible refine LeO.ite ?_ ?_)
   | (with_reducible refine LeO.bind ?_ (fun _ => ?_))
   | exact ih0 _ _ _ _ _
   | exact ih1 _ _ _ _ _ _
   | exact LeO.none _
   | refine LeO.ite ?_ ?_
   | refine LeO.bind ?_ (fun _ => ?_)
theorem ancepsref40_Few.mono : ∀ a0 k, LeO (ancepsref40_Few.f k a0) (ancepsref40_Few.f (k + 1) a0) := by
 intro a0 k
 obtain ⟨ih0, ih1⟩ := ancepsref40_Few.mono_l k
 unfold ancepsref40_Few.f
 repeat' first
   | (with_reducible exact ih0 _ _ _ _ _)
   | (with_reducible exact ih1 _ _ _ _ _ _)
   | (with_reducible exact LeO.refl _)
   | (with_reducible exact LeO.none _)
   | (with_reducible refine LeO.ite ?_ ?_)
   | (with_reducible refine LeO.bind ?_ (fun _ => ?_))
   | exact ih0 _ _ _ _ _
   | exact ih1 _ _ _ _ _ _
   | exact LeO.none _
   | refine LeO.ite ?_ ?_
   | refine LeO.bind ?_ (fun _ => ?_)
set_option maxHeartbeats 8000000 in
set_option maxRecDepth 100000 in
theorem ancepsref40_Few.calls (k : Nat) (A0 : Option Addr) (c0 : Nat) (l0 : List (S61)) (r : Bool) (w : World) (hr0 : Kd.C k61 w A0 l0.length l0) (hc0 : l0.length ≤ c0) (h : ancepsref40_Few.f k l0 = some r) :
  Calls Try.prog 13 #[.slice A0 l0.length c0] w fun e w' => e = .returned (.bool r) ∧ Below w.heap.size w w' := by
 have hu61 := Try.underlying61
 have hu42 := Try.underlying42
 have hu3 := Try.underlying3
 have hu4 := Try.underlying4
 have HR0 := Aside0.mk hr0
 have HC0 := Aside0.mk hc0
 clear hr0 hc0
 have HB := Aside0.mk (Below.refl w.heap.size w)
 have H : (if (l0.length : Int) > 18 then (some false) else (if 24 ≤ 281474976710656 then (ancepsref40_Few.l0 k l0 (List.replicate 24 false) 0 0 0) else (none))) = some r := h
 clear h
 by_cases c2 : (l0.length : Int) > 18
 ·rw [if_pos c2] at H
  have c2b0 : decide (18 < (l0.length : Int)) = true := decide_eq_true c2
  have c2b1 : decide (18 < l0.length) = true := decide_eq_true (by omega)
  clear c2
  obtain rfl := Option.some.inj H
  go_enter Try.func13, Try.ntmps13
  go_wp2
  go_ret
  exact ⟨by first | rfl | (simp [errW_none, errW_some] <;> rfl) | (simp [*, errW_none, errW_some] <;> rfl), by repeat (first | (with_reducible first | exact HB.out | apply below_alloc | apply pw_below_drewN | apply below_drew1) | exact HB.out)⟩
 ·rw [if_neg c2] at H
  have c2b0 : decide (18 < (l0.length : Int)) = false := decide_eq_false c2
  have c2b1 : decide (18 < l0.length) = false := decide_eq_false (by omega)
  clear c2
  by_cases c3 : 24 ≤ 281474976710656
  ·rw [if_pos c3] at H
   have c3b0 := eq_true c3
   have c3b1 : decide (24 ≤ 281474976710656) = true := decide_eq_true c3
   clear c3
   obtain ⟨y102, hy102⟩ : ∃ y_ : List Bool, y_ = (List.replicate 24 false) := ⟨_, rfl⟩
   replace H : (ancepsref40_Few.l0 k l0 y102 0 0 0) = some r := by first | (rw [hy102]; with_reducible exact H) | (have H2_ := (Option.bind_some _ _).symm.trans H; rw [hy102]; with_reducible exact H2_) | (have H2_ := (Option.bind_some _ _).symm.trans H; with_reducible exact H2_) | with_reducible exact H | (rw [hy102]; exact H) | exact H
   have Ny102 := Aside0.mk hy102
   clear hy102
   have H' := Aside0.mk H
   clear H
   go_enter Try.func13, Try.ntmps13
   go_wp2_with (first | ((with_reducible refine gate_dst (N := 3) rfl ?_); refine box_event ?hg (N := 3) ?hd (cs := #[.bool false, .bool false, .bool false, .bool false, .bool false, .bool false, .bool false, .bool false, .bool false, .bool false, .bool false, .bool false, .bool false, .bool false, .bool false, .bool false, .bool false, .bool false, .bool false, .bool false, .bool false, .bool false, .bool false, .bool false]) (t := 62) ?hr ?_; (case hd => rfl); (case hg => rfl); (case hr => first | (go_simp; done) | (go_simp; rfl)); intro ga hgA w4 hbox hb; have ho5 := arr_box hbox (Nat.le_of_eq hgA.symm); clear hbox hgA; rw [← Ny102.out] at ho5; have n0_ := Aside0.mk (Kd.R_lower ho5 (below_size zB)); have n1_ := Aside0.mk (below_step zB hb); clear HB; have HO104 := n0_; have HB := n1_; clear n0_ n1_; clear hb ho5))
   go_loopg [4, 5, 6] k (fun kq v4 v5 v6 w' => ∃ (x3_1 : List Bool) (x4_1 : Int) (x5_1 : Int) (x6_1 : Int), v4 = .int .i64 x4_1 ∧ v5 = .int .i64 x5_1 ∧ v6 = .int .i64 x6_1 ∧ Aside0 (ancepsref40_Few.l0 kq l0 x3_1 x4_1 x5_1 x6_1 = some r) ∧ Aside0 (kq ≤ k) ∧ Aside0 (Kd.R Kd.bool 62 w' w.heap.size (fun _ => True) (.slice (some ⟨ga, 0, none⟩) 24 24) x3_1) ∧ Aside0 (Below w.heap.size w w'))
   case atStart => exact ⟨(y102), (0), (0), (0), zT, zT, zT, H', ⟨Nat.le_refl _⟩, ⟨by (with_reducible repeat (first | apply Kd.R_alloc | apply Kd.R_drewN | apply Kd.R_drew)); exact HO104.out⟩, ⟨by repeat (first | (with_reducible first | exact HB.out | apply below_alloc | apply pw_below_drewN | apply below_drew1) | exact HB.out)⟩⟩
   case round =>
    clear H'
    try clear c2
    try clear c2b0
    try clear c2b1
    try clear c3
    try clear c3b0
    try clear c3b1
    obtain ⟨x3_1, x4_1, x5_1, x6_1, rfl, rfl, rfl, HA, HK1, HO_3, HB⟩ := hrel
    cases gk with
    | zero => exact absurd HA.out (by simp [ancepsref40_Few.l0])
    | succ k1 =>
     have H := HA.out
     clear HA
     simp only [ancepsref40_Few.l0] at H
     by_cases c6 : x6_1 < (l0.length : Int)
     ·rw [if_pos c6] at H
      have c6b0 : decide (x6_1 < (l0.length : Int)) = true := decide_eq_true c6
      clear c6
      by_cases c7 : 0 ≤ x6_1
      ·rw [if_pos c7] at H
       have c7b0 : decide (0 ≤ x6_1) = true := decide_eq_true c7
       clear c7
       replace H := Option.bind_eq_some_iff.mp H
       obtain ⟨t106, A80, H⟩ := H
       replace H : (if t106 = true then (ancepsref40_Few.l1 k1 l0 x3_1 x4_1 (wrap64 (x5_1 + (((rd_T61 l0 x6_1).f1).length : Int))) x6_1 0) else (some false)) = some r := H
       have A8 := Aside0.mk A80
       clear A80
       have HC9 := Aside0.mk H
       clear H
       have p105 : 0 ≤ (x6_1 : Int) := of_decide_eq_true zh
       have q105 : x6_1 < (l0.length : Int) := of_decide_eq_true zh
       obtain ⟨ad105, A105_0, c105_0, A105_1, c105_1, e105, hx105_0, hx105_1, hl105_0, hi105_0, hl105_1, hi105_1⟩ := at_T61 HR0.out x6_1 p105 q105
       cases e105
       replace hx105_0 := (HB.out.cell (World.block_lt_of_cell? w _ hx105_0)).trans hx105_0
       replace hx105_1 := (HB.out.cell (World.block_lt_of_cell? w _ hx105_1)).trans hx105_1
       have HR105_0 := Aside0.mk hi105_0
       have HC105_0 := Aside0.mk hl105_0
       clear hi105_0 hl105_0
       have HR105_1 := Aside0.mk hi105_1
       have HC105_1 := Aside0.mk hl105_1
       clear hi105_1 hl105_1
       replace p105 := eq_true p105
       replace q105 := eq_true q105
       go_upto_if 23 with (first | ((with_reducible refine gate_callee (f := 45) rfl ?_); refine goesL_ (some 22) rfl rfl Try.func45 zK rfl #[.agg #[.slice A105_0 ((rd_T61 l0 x6_1).f0).length c105_0, .slice A105_1 ((rd_T61 l0 x6_1).f1).length c105_1]] rfl zM ?_; (with_reducible refine (ancepsref38_Few.calls _ _ ((rd_T61 l0 x6_1).f0) _ _ ((rd_T61 l0 x6_1).f1) t106 _ ?side1 ?side2 ?side3 ?side4 A8.out).mono ?_); (case side1 => repeat (first | exact (Kd.C_below HR105_0.out HB.out) | (with_reducible refine Kd.C_alloc ?_ _) | (with_reducible refine Kd.C_drewN ?_ _) | (with_reducible refine Kd.C_drew ?_))); (case side2 => exact HC105_0.out); (case side3 => repeat (first | exact (Kd.C_below HR105_1.out HB.out) | (with_reducible refine Kd.C_alloc ?_ _) | (with_reducible refine Kd.C_drewN ?_ _) | (with_reducible refine Kd.C_drew ?_))); (case side4 => exact HC105_1.out); rintro e w10 ⟨rfl, hb⟩; refine ⟨_, rfl, ?_⟩; have n0_ := Aside0.mk (Kd.R_below (zR HO_3) hb); have n1_ := Aside0.mk (below_step zB hb); clear HO_3; clear HB; have HO_3 := n0_; have HB := n1_; clear n0_ n1_; (try clear hb); (try clear hb2); (try clear hk); (try clear hi)))
       (try simp only [Act.put, List.setIfInBounds_toArray, List.set_cons_zero, List.set_cons_succ])
       have H := HC9.out
       clear HC9
       by_cases c11 : t106 = true
       ·subst c11
        have H1 : (ancepsref40_Few.l1 k1 l0 x3_1 x4_1 (wrap64 (x5_1 + (((rd_T61 l0 x6_1).f1).length : Int))) x6_1 0) = some r := by rw [if_pos rfl] at H; exact H
        clear H
        have H := H1
        clear H1
        have H' := Aside0.mk H
        clear H
        have p107 : 0 ≤ (x6_1 : Int) := of_decide_eq_true zh
        have q107 : x6_1 < (l0.length : Int) := of_decide_eq_true zh
        obtain ⟨ad107, A107_0, c107_0, A107_1, c107_1, e107, hx107_0, hx107_1, hl107_0, hi107_0, hl107_1, hi107_1⟩ := at_T61 HR0.out x6_1 p107 q107
        obtain rfl : ad105 = ad107 := (by injection e107)
        replace hx107_0 := (HB.out.cell (World.block_lt_of_cell? w _ hx107_0)).trans hx107_0
        replace hx107_1 := (HB.out.cell (World.block_lt_of_cell? w _ hx107_1)).trans hx107_1
        have HR107_0 := Aside0.mk hi107_0
        have HC107_0 := Aside0.mk hl107_0
        clear hi107_0 hl107_0
        have HR107_1 := Aside0.mk hi107_1
        have HC107_1 := Aside0.mk hl107_1
        clear hi107_1 hl107_1
        replace p107 := eq_true p107
        replace q107 := eq_true q107
        go_wp2
        go_loopg [4, 7] k1 (fun kq v4 v7 w' => ∃ (x3_2 : List Bool) (x4_2 : Int) (x7_2 : Int), v4 = .int .i64 x4_2 ∧ v7 = .int .i64 x7_2 ∧ Aside0 (ancepsref40_Few.l1 kq l0 x3_2 x4_2 (wrap64 (x5_1 + (((rd_T61 l0 x6_1).f1).length : Int))) x6_1 x7_2 = some r) ∧ Aside0 (kq ≤ k1) ∧ Aside0 (Kd.R Kd.bool 62 w' w.heap.size (fun _ => True) (.slice (some ⟨ga, 0, none⟩) 24 24) x3_2) ∧ Aside0 (Below w.heap.size w w'))
        case atStart => exact ⟨(x3_1), (x4_1), (0), zT, zT, H', ⟨Nat.le_refl _⟩, ⟨by (with_reducible repeat (first | apply Kd.R_alloc | apply Kd.R_drewN | apply Kd.R_drew)); exact HO_3.out⟩, ⟨by repeat (first | (with_reducible first | exact HB.out | apply below_alloc | apply pw_below_drewN | apply below_drew1) | exact HB.out)⟩⟩
        case round =>
         clear H'
         try clear c2
         try clear c2b0
         try clear c2b1
         try clear c3
         try clear c3b0
         try clear c3b1
         try clear c6
         try clear c6b0
         try clear c7
         try clear c7b0
         try clear c11
         try clear hx105_0
         try clear hx105_1
         try clear hx107_0
         try clear hx107_1
         try clear p105
         try clear p107
         try clear q105
         try clear q107
         obtain ⟨x3_2, x4_2, x7_2, rfl, rfl, HA, HK2, HO_3, HB⟩ := hrel
         cases gk with
         | zero => exact absurd HA.out (by simp [ancepsref40_Few.l1])
         | succ k2 =>
          have H := HA.out
          clear HA
          simp only [ancepsref40_Few.l1] at H
          by_cases c12 : 0 ≤ x6_1
          ·rw [if_pos c12] at H
           have c12b0 : decide (0 ≤ x6_1) = true := decide_eq_true c12
           clear c12
           (first | rw [c12b0] | (simp only [i64_w, i32_w]; rw [c12b0]) | skip)
           by_cases c13 : x6_1 < (l0.length : Int)
           ·rw [if_pos c13] at H
            have c13b0 : decide (x6_1 < (l0.length : Int)) = true := decide_eq_true c13
            clear c13
            by_cases c14 : x7_2 < (((rd_T61 l0 x6_1).f0).length : Int)
            ·rw [if_pos c14] at H
             have c14b0 : decide (x7_2 < (((rd_T61 l0 x6_1).f0).length : Int)) = true := decide_eq_true c14
             clear c14
             by_cases c15 : 0 ≤ x7_2
             ·rw [if_pos c15] at H
              have c15b0 : decide (0 ≤ x7_2) = true := decide_eq_true c15
              clear c15
              by_cases c16 : (rd ((rd_T61 l0 x6_1).f0) x7_2) ≥ 0
              ·rw [if_pos c16] at H
               have c16b0 : decide (0 ≤ (rd ((rd_T61 l0 x6_1).f0) x7_2)) = true := decide_eq_true c16
               clear c16
               by_cases c17 : (rd ((rd_T61 l0 x6_1).f0) x7_2) < 24
               ·rw [if_pos c17] at H
                have c17b0 : decide ((rd ((rd_T61 l0 x6_1).f0) x7_2) < 24) = true := decide_eq_true c17
                clear c17
                by_cases c18 : 0 ≤ (rd ((rd_T61 l0 x6_1).f0) x7_2)
                ·rw [if_pos c18] at H
                 have c18b0 : decide (0 ≤ (rd ((rd_T61 l0 x6_1).f0) x7_2)) = true := decide_eq_true c18
                 clear c18
                 by_cases c19 : (rd ((rd_T61 l0 x6_1).f0) x7_2) < (x3_2.length : Int)
                 ·rw [if_pos c19] at H
                  have c19b0 : decide ((rd ((rd_T61 l0 x6_1).f0) x7_2) < (x3_2.length : Int)) = true := decide_eq_true c19
                  clear c19
                  obtain ⟨bq20, hbq20⟩ : ∃ b_ : Bool, b_ = (rdOf false x3_2 (rd ((rd_T61 l0 x6_1).f0) x7_2)) := ⟨_, rfl⟩
                  replace H : (if (bq20 = true) then (ancepsref40_Few.l1 k2 l0 x3_2 x4_2 (wrap64 (x5_1 + (((rd_T61 l0 x6_1).f1).length : Int))) x6_1 (wrap64 (x7_2 + 1))) else (ancepsref40_Few.l1 k2 l0 (x3_2.set ((rd ((rd_T61 l0 x6_1).f0) x7_2) : Int).toNat true) (wrap64 (x4_2 + 1)) (wrap64 (x5_1 + (((rd_T61 l0 x6_1).f1).length : Int))) x6_1 (wrap64 (x7_2 + 1)))) = some r := by rw [← hbq20] at H; exact H
                  have Nbq20 := Aside0.mk hbq20
                  clear hbq20
                  by_cases c21 : (bq20 = true)
                  ·subst c21
                   have H1 : (ancepsref40_Few.l1 k2 l0 x3_2 x4_2 (wrap64 (x5_1 + (((rd_T61 l0 x6_1).f1).length : Int))) x6_1 (wrap64 (x7_2 + 1))) = some r := by rw [if_pos rfl] at H; exact H
                   clear H
                   have H := H1
                   clear H1
                   have H' := Aside0.mk H
                   clear H
                   have p108 : 0 ≤ (x6_1 : Int) := of_decide_eq_true zh
                   have q108 : x6_1 < (l0.length : Int) := of_decide_eq_true zh
                   obtain ⟨ad108, A108_0, c108_0, A108_1, c108_1, e108, hx108_0, hx108_1, hl108_0, hi108_0, hl108_1, hi108_1⟩ := at_T61 HR0.out x6_1 p108 q108
                   obtain rfl : ad105 = ad108 := (by injection e108)
                   replace hx108_0 := (HB.out.cell (World.block_lt_of_cell? w _ hx108_0)).trans hx108_0
                   replace hx108_1 := (HB.out.cell (World.block_lt_of_cell? w _ hx108_1)).trans hx108_1
                   have HR108_0 := Aside0.mk hi108_0
                   have HC108_0 := Aside0.mk hl108_0
                   clear hi108_0 hl108_0
                   have HR108_1 := Aside0.mk hi108_1
                   have HC108_1 := Aside0.mk hl108_1
                   clear hi108_1 hl108_1
                   replace p108 := eq_true p108
                   replace q108 := eq_true q108
                   have p109 : 0 ≤ (x6_1 : Int) := of_decide_eq_true zh
                   have q109 : x6_1 < (l0.length : Int) := of_decide_eq_true zh
                   obtain ⟨ad109, A109_0, c109_0, A109_1, c109_1, e109, hx109_0, hx109_1, hl109_0, hi109_0, hl109_1, hi109_1⟩ := at_T61 HR0.out x6_1 p109 q109
                   obtain rfl : ad105 = ad109 := (by injection e109)
                   replace hx109_0 := (HB.out.cell (World.block_lt_of_cell? w _ hx109_0)).trans hx109_0
                   replace hx109_1 := (HB.out.cell (World.block_lt_of_cell? w _ hx109_1)).trans hx109_1
                   have HR109_0 := Aside0.mk hi109_0
                   have HC109_0 := Aside0.mk hl109_0
                   clear hi109_0 hl109_0
                   have HR109_1 := Aside0.mk hi109_1
                   have HC109_1 := Aside0.mk hl109_1
                   clear hi109_1 hl109_1
                   replace p109 := eq_true p109
                   replace q109 := eq_true q109
                   have ea_ := Option.some.inj (hx108_0.symm.trans hx109_0)
                   injection ea_ with ea_ en_ ec_
                   subst ea_
                   subst ec_
                   clear en_
                   have ea_ := Option.some.inj (hx108_1.symm.trans hx109_1)
                   injection ea_ with ea_ en_ ec_
                   subst ea_
                   subst ec_
                   clear en_
                   have p110 : 0 ≤ (x7_2 : Int) := of_decide_eq_true zh
                   have q110 : x7_2 < (((rd_T61 l0 x6_1).f0).length : Int) := of_decide_eq_true zh
                   obtain ⟨ad110, e110, hx110_0⟩ := Kd.at_int HR109_0.out x7_2 p110 q110
                   cases e110
                   replace hx110_0 := (HB.out.cell (World.block_lt_of_cell? w _ hx110_0)).trans hx110_0
                   replace p110 := eq_true p110
                   replace q110 := eq_true q110
                   have p111 : 0 ≤ ((rd ((rd_T61 l0 x6_1).f0) x7_2) : Int) := of_decide_eq_true zh
                   have q111 : (rd ((rd_T61 l0 x6_1).f0) x7_2) < (x3_2.length : Int) := of_decide_eq_true zh
                   have hl24_ := arr_len HO_3.out
                   have ha24_ : ((rd ((rd_T61 l0 x6_1).f0) x7_2) < 24) = True := eq_true (by omega)
                   have hx111_0 := (Kd.R_celln false HO_3.out (rd ((rd_T61 l0 x6_1).f0) x7_2) p111 (by omega)).1
                   (try rw [← Nbq20.out] at hx111_0)
                   replace p111 := eq_true p111
                   replace q111 := eq_true q111
                   go_wp2
                   go_roundg k2
                   case measure => have := HK1.out; have := HK2.out; omega
                   case rel => exact ⟨(x3_2), (x4_2), (wrap64 (x7_2 + 1)), zT, zT, H', ⟨by have := HK1.out; have := HK2.out; omega⟩, ⟨by (with_reducible repeat (first | apply Kd.R_alloc | apply Kd.R_drewN | apply Kd.R_drew)); exact HO_3.out⟩, ⟨by repeat (first | (with_reducible first | exact HB.out | apply below_alloc | apply pw_below_drewN | apply below_drew1) | exact HB.out)⟩⟩
                  ·replace c21 := Bool.eq_false_iff.mpr c21
                   subst c21
                   have H1 : (ancepsref40_Few.l1 k2 l0 (x3_2.set ((rd ((rd_T61 l0 x6_1).f0) x7_2) : Int).toNat true) (wrap64 (x4_2 + 1)) (wrap64 (x5_1 + (((rd_T61 l0 x6_1).f1).length : Int))) x6_1 (wrap64 (x7_2 + 1))) = some r := by rw [if_neg (show ¬ (false = true) by decide)] at H; exact H
                   clear H
                   have H := H1
                   clear H1
                   obtain ⟨y112, hy112⟩ : ∃ y_ : List Bool, y_ = (x3_2.set ((rd ((rd_T61 l0 x6_1).f0) x7_2) : Int).toNat true) := ⟨_, rfl⟩
                   replace H : (ancepsref40_Few.l1 k2 l0 y112 (wrap64 (x4_2 + 1)) (wrap64 (x5_1 + (((rd_T61 l0 x6_1).f1).length : Int))) x6_1 (wrap64 (x7_2 + 1))) = some r := by first | (rw [hy112]; with_reducible exact H) | (have H2_ := (Option.bind_some _ _).symm.trans H; rw [hy112]; with_reducible exact H2_) | (have H2_ := (Option.bind_some _ _).symm.trans H; with_reducible exact H2_) | with_reducible exact H | (rw [hy112]; exact H) | exact H
                   have Ny112 := Aside0.mk hy112
                   clear hy112
                   have H' := Aside0.mk H
                   clear H
                   have p108 : 0 ≤ (x6_1 : Int) := of_decide_eq_true zh
                   have q108 : x6_1 < (l0.length : Int) := of_decide_eq_true zh
                   obtain ⟨ad108, A108_0, c108_0, A108_1, c108_1, e108, hx108_0, hx108_1, hl108_0, hi108_0, hl108_1, hi108_1⟩ := at_T61 HR0.out x6_1 p108 q108
                   obtain rfl : ad105 = ad108 := (by injection e108)
                   replace hx108_0 := (HB.out.cell (World.block_lt_of_cell? w _ hx108_0)).trans hx108_0
                   replace hx108_1 := (HB.out.cell (World.block_lt_of_cell? w _ hx108_1)).trans hx108_1
                   have HR108_0 := Aside0.mk hi108_0
                   have HC108_0 := Aside0.mk hl108_0
                   clear hi108_0 hl108_0
                   have HR108_1 := Aside0.mk hi108_1
                   have HC108_1 := Aside0.mk hl108_1
                   clear hi108_1 hl108_1
                   replace p108 := eq_true p108
                   replace q108 := eq_true q108
                   have p109 : 0 ≤ (x6_1 : Int) := of_decide_eq_true zh
                   have q109 : x6_1 < (l0.length : Int) := of_decide_eq_true zh
                   obtain ⟨ad109, A109_0, c109_0, A109_1, c109_1, e109, hx109_0, hx109_1, hl109_0, hi109_0, hl109_1, hi109_1⟩ := at_T61 HR0.out x6_1 p109 q109
                   obtain rfl : ad105 = ad109 := (by injection e109)
                   replace hx109_0 := (HB.out.cell (World.block_lt_of_cell? w _ hx109_0)).trans hx109_0
                   replace hx109_1 := (HB.out.cell (World.block_lt_of_cell? w _ hx109_1)).trans hx109_1
                   have HR109_0 := Aside0.mk hi109_0
                   have HC109_0 := Aside0.mk hl109_0
                   clear hi109_0 hl109_0
                   have HR109_1 := Aside0.mk hi109_1
                   have HC109_1 := Aside0.mk hl109_1
                   clear hi109_1 hl109_1
                   replace p109 := eq_true p109
                   replace q109 := eq_true q109
                   have ea_ := Option.some.inj (hx108_0.symm.trans hx109_0)
                   injection ea_ with ea_ en_ ec_
                   subst ea_
                   subst ec_
                   clear en_
                   have ea_ := Option.some.inj (hx108_1.symm.trans hx109_1)
                   injection ea_ with ea_ en_ ec_
                   subst ea_
                   subst ec_
                   clear en_
                   have p110 : 0 ≤ (x7_2 : Int) := of_decide_eq_true zh
                   have q110 : x7_2 < (((rd_T61 l0 x6_1).f0).length : Int) := of_decide_eq_true zh
                   obtain ⟨ad110, e110, hx110_0⟩ := Kd.at_int HR109_0.out x7_2 p110 q110
                   cases e110
                   replace hx110_0 := (HB.out.cell (World.block_lt_of_cell? w _ hx110_0)).trans hx110_0
                   replace p110 := eq_true p110
                   replace q110 := eq_true q110
                   have p111 : 0 ≤ ((rd ((rd_T61 l0 x6_1).f0) x7_2) : Int) := of_decide_eq_true zh
                   have q111 : (rd ((rd_T61 l0 x6_1).f0) x7_2) < (x3_2.length : Int) := of_decide_eq_true zh
                   have hl24_ := arr_len HO_3.out
                   have ha24_ : ((rd ((rd_T61 l0 x6_1).f0) x7_2) < 24) = True := eq_true (by omega)
                   have hx111_0 := (Kd.R_celln false HO_3.out (rd ((rd_T61 l0 x6_1).f0) x7_2) p111 (by omega)).1
                   (try rw [← Nbq20.out] at hx111_0)
                   replace p111 := eq_true p111
                   replace q111 := eq_true q111
                   have p23 : 0 ≤ ((rd ((rd_T61 l0 x6_1).f0) x7_2) : Int) := of_decide_eq_true zh
                   have q23 : ((rd ((rd_T61 l0 x6_1).f0) x7_2) : Int) < 24 := by first | omega | exact of_decide_eq_true zh | (have h2_ : (rd ((rd_T61 l0 x6_1).f0) x7_2) < (x3_2.length : Int) := of_decide_eq_true zh; have h3_ := arr_len HO_3.out; omega)
                   have hl24b_ := arr_len HO_3.out
                   have gb23 := Kd.R_base HO_3.out ga rfl
                   have GB23 := Aside0.mk gb23
                   clear gb23
                   (first | simp only [add_plain] at hx111_0 | skip)
                   obtain ⟨hx23_0, hf23_0⟩ := Kd.R_celln false HO_3.out ((rd ((rd_T61 l0 x6_1).f0) x7_2) : Int) p23 q23
                   replace p23 := eq_true p23
                   replace q23 := eq_true q23
                   have HP25 := Kd.R_putg HO_3.out ((rd ((rd_T61 l0 x6_1).f0) x7_2) : Int) true
                   go_wp2_with (first | ((with_reducible refine gate_store (t := 4) (p := 63) rfl ?_); refine store_event (t := 4) (p := 63) (v := ?vo_w26) (w1 := (wr.setCell ⟨ga, ((rd ((rd_T61 l0 x6_1).f0) x7_2) : Int).toNat, none⟩ (.bool true))) ?hg ?ho ?hn ?hr ?_; (case ho => rfl); (case hg => rfl); (case hn => rfl); (case hr => first | (go_simp; done) | (go_simp; rfl)); intro w26 hw; have hg : wr.grownBy w26 (some ga) := (by rw [hw]; exact HP25.2); have hp_ : Kd.R Kd.bool 62 w26 w.heap.size (fun _ => True) (.slice (some ⟨ga, 0, none⟩) 24 24) y112 := (by rw [hw, Ny112.out]; exact HP25.1); clear HP25; have n0_ := Aside0.mk (hp_); have n1_ := Aside0.mk ((by rw [hw]; exact below_set (HB.out) GB23.out : Below w.heap.size w w26)); clear HO_3; clear HB; have HO_3 := n0_; have HB := n1_; clear n0_ n1_; clear hg hw hp_))
                   go_roundg k2
                   case measure => have := HK1.out; have := HK2.out; omega
                   case rel => exact ⟨(y112), (wrap64 (x4_2 + 1)), (wrap64 (x7_2 + 1)), zT, zT, H', ⟨by have := HK1.out; have := HK2.out; omega⟩, ⟨by (with_reducible repeat (first | apply Kd.R_alloc | apply Kd.R_drewN | apply Kd.R_drew)); exact HO_3.out⟩, ⟨by repeat (first | (with_reducible first | exact HB.out | apply below_alloc | apply pw_below_drewN | apply below_drew1) | exact HB.out)⟩⟩
                 ·rw [if_neg c19] at H
                  exact absurd H (by simp)
                ·rw [if_neg c18] at H
                 exact absurd H (by simp)
               ·rw [if_neg c17] at H
                have c17b0 : decide ((rd ((rd_T61 l0 x6_1).f0) x7_2) < 24) = false := decide_eq_false c17
                clear c17
                have H' := Aside0.mk H
                clear H
                have p108 : 0 ≤ (x6_1 : Int) := of_decide_eq_true zh
                have q108 : x6_1 < (l0.length : Int) := of_decide_eq_true zh
                obtain ⟨ad108, A108_0, c108_0, A108_1, c108_1, e108, hx108_0, hx108_1, hl108_0, hi108_0, hl108_1, hi108_1⟩ := at_T61 HR0.out x6_1 p108 q108
                obtain rfl : ad105 = ad108 := (by injection e108)
                replace hx108_0 := (HB.out.cell (World.block_lt_of_cell? w _ hx108_0)).trans hx108_0
                replace hx108_1 := (HB.out.cell (World.block_lt_of_cell? w _ hx108_1)).trans hx108_1
                have HR108_0 := Aside0.mk hi108_0
                have HC108_0 := Aside0.mk hl108_0
                clear hi108_0 hl108_0
                have HR108_1 := Aside0.mk hi108_1
                have HC108_1 := Aside0.mk hl108_1
                clear hi108_1 hl108_1
                replace p108 := eq_true p108
                replace q108 := eq_true q108
                have p109 : 0 ≤ (x6_1 : Int) := of_decide_eq_true zh
                have q109 : x6_1 < (l0.length : Int) := of_decide_eq_true zh
                obtain ⟨ad109, A109_0, c109_0, A109_1, c109_1, e109, hx109_0, hx109_1, hl109_0, hi109_0, hl109_1, hi109_1⟩ := at_T61 HR0.out x6_1 p109 q109
                obtain rfl : ad105 = ad109 := (by injection e109)
                replace hx109_0 := (HB.out.cell (World.block_lt_of_cell? w _ hx109_0)).trans hx109_0
                replace hx109_1 := (HB.out.cell (World.block_lt_of_cell? w _ hx109_1)).trans hx109_1
                have HR109_0 := Aside0.mk hi109_0
                have HC109_0 := Aside0.mk hl109_0
                clear hi109_0 hl109_0
                have HR109_1 := Aside0.mk hi109_1
                have HC109_1 := Aside0.mk hl109_1
                clear hi109_1 hl109_1
                replace p109 := eq_true p109
                replace q109 := eq_true q109
                have ea_ := Option.some.inj (hx108_0.symm.trans hx109_0)
                injection ea_ with ea_ en_ ec_
                subst ea_
                subst ec_
                clear en_
                have ea_ := Option.some.inj (hx108_1.symm.trans hx109_1)
                injection ea_ with ea_ en_ ec_
                subst ea_
                subst ec_
                clear en_
                have p110 : 0 ≤ (x7_2 : Int) := of_decide_eq_true zh
                have q110 : x7_2 < (((rd_T61 l0 x6_1).f0).length : Int) := of_decide_eq_true zh
                obtain ⟨ad110, e110, hx110_0⟩ := Kd.at_int HR109_0.out x7_2 p110 q110
                cases e110
                replace hx110_0 := (HB.out.cell (World.block_lt_of_cell? w _ hx110_0)).trans hx110_0
                replace p110 := eq_true p110
                replace q110 := eq_true q110
                go_wp2
                go_roundg k2
                case measure => have := HK1.out; have := HK2.out; omega
                case rel => exact ⟨(x3_2), (x4_2), (wrap64 (x7_2 + 1)), zT, zT, H', ⟨by have := HK1.out; have := HK2.out; omega⟩, ⟨by (with_reducible repeat (first | apply Kd.R_alloc | apply Kd.R_drewN | apply Kd.R_drew)); exact HO_3.out⟩, ⟨by repeat (first | (with_reducible first | exact HB.out | apply below_alloc | apply pw_below_drewN | apply below_drew1) | exact HB.out)⟩⟩
              ·rw [if_neg c16] at H
               have c16b0 : decide (0 ≤ (rd ((rd_T61 l0 x6_1).f0) x7_2)) = false := decide_eq_false c16
               clear c16
               have H' := Aside0.mk H
               clear H
               have p108 : 0 ≤ (x6_1 : Int) := of_decide_eq_true zh
               have q108 : x6_1 < (l0.length : Int) := of_decide_eq_true zh
               obtain ⟨ad108, A108_0, c108_0, A108_1, c108_1, e108, hx108_0, hx108_1, hl108_0, hi108_0, hl108_1, hi108_1⟩ := at_T61 HR0.out x6_1 p108 q108
               obtain rfl : ad105 = ad108 := (by injection e108)
               replace hx108_0 := (HB.out.cell (World.block_lt_of_cell? w _ hx108_0)).trans hx108_0
               replace hx108_1 := (HB.out.cell (World.block_lt_of_cell? w _ hx108_1)).trans hx108_1
               have HR108_0 := Aside0.mk hi108_0
               have HC108_0 := Aside0.mk hl108_0
               clear hi108_0 hl108_0
               have HR108_1 := Aside0.mk hi108_1
               have HC108_1 := Aside0.mk hl108_1
               clear hi108_1 hl108_1
               replace p108 := eq_true p108
               replace q108 := eq_true q108
               have p109 : 0 ≤ (x6_1 : Int) := of_decide_eq_true zh
               have q109 : x6_1 < (l0.length : Int) := of_decide_eq_true zh
               obtain ⟨ad109, A109_0, c109_0, A109_1, c109_1, e109, hx109_0, hx109_1, hl109_0, hi109_0, hl109_1, hi109_1⟩ := at_T61 HR0.out x6_1 p109 q109
               obtain rfl : ad105 = ad109 := (by injection e109)
               replace hx109_0 := (HB.out.cell (World.block_lt_of_cell? w _ hx109_0)).trans hx109_0
               replace hx109_1 := (HB.out.cell (World.block_lt_of_cell? w _ hx109_1)).trans hx109_1
               have HR109_0 := Aside0.mk hi109_0
               have HC109_0 := Aside0.mk hl109_0
               clear hi109_0 hl109_0
               have HR109_1 := Aside0.mk hi109_1
               have HC109_1 := Aside0.mk hl109_1
               clear hi109_1 hl109_1
               replace p109 := eq_true p109
               replace q109 := eq_true q109
               have ea_ := Option.some.inj (hx108_0.symm.trans hx109_0)
               injection ea_ with ea_ en_ ec_
               subst ea_
               subst ec_
               clear en_
               have ea_ := Option.some.inj (hx108_1.symm.trans hx109_1)
               injection ea_ with ea_ en_ ec_
               subst ea_
               subst ec_
               clear en_
               have p110 : 0 ≤ (x7_2 : Int) := of_decide_eq_true zh
               have q110 : x7_2 < (((rd_T61 l0 x6_1).f0).length : Int) := of_decide_eq_true zh
               obtain ⟨ad110, e110, hx110_0⟩ := Kd.at_int HR109_0.out x7_2 p110 q110
               cases e110
               replace hx110_0 := (HB.out.cell (World.block_lt_of_cell? w _ hx110_0)).trans hx110_0
               replace p110 := eq_true p110
               replace q110 := eq_true q110
               go_wp2
               go_roundg k2
               case measure => have := HK1.out; have := HK2.out; omega
               case rel => exact ⟨(x3_2), (x4_2), (wrap64 (x7_2 + 1)), zT, zT, H', ⟨by have := HK1.out; have := HK2.out; omega⟩, ⟨by (with_reducible repeat (first | apply Kd.R_alloc | apply Kd.R_drewN | apply Kd.R_drew)); exact HO_3.out⟩, ⟨by repeat (first | (with_reducible first | exact HB.out | apply below_alloc | apply pw_below_drewN | apply below_drew1) | exact HB.out)⟩⟩
             ·rw [if_neg c15] at H
              exact absurd H (by simp)
            ·rw [if_neg c14] at H
             have c14b0 : decide (x7_2 < (((rd_T61 l0 x6_1).f0).length : Int)) = false := decide_eq_false c14
             clear c14
             have H' := Aside0.mk H
             clear H
             have p108 : 0 ≤ (x6_1 : Int) := of_decide_eq_true zh
             have q108 : x6_1 < (l0.length : Int) := of_decide_eq_true zh
             obtain ⟨ad108, A108_0, c108_0, A108_1, c108_1, e108, hx108_0, hx108_1, hl108_0, hi108_0, hl108_1, hi108_1⟩ := at_T61 HR0.out x6_1 p108 q108
             obtain rfl : ad105 = ad108 := (by injection e108)
             replace hx108_0 := (HB.out.cell (World.block_lt_of_cell? w _ hx108_0)).trans hx108_0
             replace hx108_1 := (HB.out.cell (World.block_lt_of_cell? w _ hx108_1)).trans hx108_1
             have HR108_0 := Aside0.mk hi108_0
             have HC108_0 := Aside0.mk hl108_0
             clear hi108_0 hl108_0
             have HR108_1 := Aside0.mk hi108_1
             have HC108_1 := Aside0.mk hl108_1
             clear hi108_1 hl108_1
             replace p108 := eq_true p108
             replace q108 := eq_true q108
             go_wp2
             go_roundg k2
             case measure => have := HK1.out; have := HK2.out; omega
             case rel => exact ⟨(x3_2), (x4_2), ((wrap64 (x5_1 + (((rd_T61 l0 x6_1).f1).length : Int)))), (wrap64 (x6_1 + 1)), zT, zT, zT, H', ⟨by have := HK1.out; have := HK2.out; omega⟩, ⟨by (with_reducible repeat (first | apply Kd.R_alloc | apply Kd.R_drewN | apply Kd.R_drew)); exact HO_3.out⟩, ⟨by repeat (first | (with_reducible first | exact HB.out | apply below_alloc | apply pw_below_drewN | apply below_drew1) | exact HB.out)⟩⟩
           ·rw [if_neg c13] at H
            exact absurd H (by simp)
          ·rw [if_neg c12] at H
           exact absurd H (by simp)
       ·replace c11 := Bool.eq_false_iff.mpr c11
        subst c11
        have H1 : (some false) = some r := by rw [if_neg (show ¬ (false = true) by decide)] at H; exact H
        clear H
        have H := H1
        clear H1
        obtain rfl := Option.some.inj H
        go_wp2
        go_ret
        exact ⟨by first | rfl | (simp [errW_none, errW_some] <;> rfl) | (simp [*, errW_none, errW_some] <;> rfl), by repeat (first | (with_reducible first | exact HB.out | apply below_alloc | apply pw_below_drewN | apply below_drew1) | exact HB.out)⟩
      ·rw [if_neg c7] at H
       exact absurd H (by simp)
     ·rw [if_neg c6] at H
      have c6b0 : decide (x6_1 < (l0.length : Int)) = false := decide_eq_false c6
      clear c6
      by_cases c27 : x4_1 ≤ 10
      ·rw [if_pos c27] at H
       have c27b0 : decide (x4_1 ≤ 10) = true := decide_eq_true c27
       clear c27
       obtain rfl := Option.some.inj H
       go_wp2
       go_ret
       exact ⟨by first | rfl | (simp [errW_none, errW_some] <;> rfl) | (simp [*, errW_none, errW_some] <;> rfl), by repeat (first | (with_reducible first | exact HB.out | apply below_alloc | apply pw_below_drewN | apply below_drew1) | exact HB.out)⟩
      ·rw [if_neg c27] at H
       have c27b0 : decide (x4_1 ≤ 10) = false := decide_eq_false c27
       clear c27
       obtain rfl := Option.some.inj H
       go_wp2
       go_ret
       exact ⟨by first | rfl | (simp [errW_none, errW_some] <;> rfl) | (simp [*, errW_none, errW_some] <;> rfl), by repeat (first | (with_reducible first | exact HB.out | apply below_alloc | apply pw_below_drewN | apply below_drew1) | exact HB.out)⟩
  ·rw [if_neg c3] at H
   exact absurd H (by simp)
/-! ### ancepsref38_Variables: function 116 -/
mutual
def ancepsref38_Variables.l0 : Nat → List Int → Int → Option (Int)
 | 0, _, _ => none
 | k + 1, x0, x3 => if x3 < (x0.length : Int) then (if 0 ≤ x3 then (if (rd x0 x3) < 0 then (ancepsref38_Variables.j1 k x0 x3 true) else (ancepsref38_Variables.j1 k x0 x3 (decide ((rd x0 x3) > 23)))) else (none)) else (some 0)
def ancepsref38_Variables.j1 : Nat → List Int → Int → Bool → Option (Int)
 | 0, _, _, _ => none
 | k + 1, x0, x3, x24 => if x24 = true then (some 6) else (if x3 > 0 then (if 0 ≤ x3 then (if x3 < (x0.length : Int) then (if 0 ≤ (wrap64 (x3 - 1)) then (if (wrap64 (x3 - 1)) < (x0.length : Int) then (if (rd x0 x3) ≤ (rd x0 (wrap64 (x3 - 1))) then (some 18) else (ancepsref38_Variables.l0 k x0 (wrap64 (x3 + 1)))) else (none)) else (none)) else (none)) else (none)) else (ancepsref38_Variables.l0 k x0 (wrap64 (x3 + 1))))
end
def ancepsref38_Variables.f (k : Nat) (l0 : List Int) : Option (Int) := if (l0.length : Int) > 10 then (some 3) else (ancepsref38_Variables.l0 k l0 0)
theorem ancepsref38_Variables.mono_l : ∀ k, (∀ y0 y1, LeO (ancepsref38_Variables.l0 k y0 y1) (ancepsref38_Variables.l0 (k + 1) y0 y1)) ∧ (∀ y0 y1 y2, LeO (ancepsref38_Variables.j1 k y0 y1 y2) (ancepsref38_Variables.j1 (k + 1) y0 y1 y2))
 | 0 => ⟨fun _ _ r h => by simp [ancepsref38_Variables.l0] at h, fun _ _ _ r h => by simp [ancepsref38_Variables.j1] at h⟩
 | k + 1 => by
  obtain ⟨ih0, ih1⟩ := ancepsref38_Variables.mono_l k
  refine ⟨?_, ?_⟩
  ·intro y0 y1
   unfold ancepsref38_Variables.l0
   repeat' first
   | (with_reducible exact ih0 _ _)
   | (with_reducible exact ih1 _ _ _)
   | (with_reducible exact LeO.refl _)
   | (with_reducible exact LeO.none _)
   | (with_reducible refine LeO.ite ?_ ?_)
   | (with_reducible refine LeO.bind ?_ (fun _ => ?_))
   | exact ih0 _ _
   | exact ih1 _ _ _
   | exact LeO.none _
   | refine LeO.ite ?_ ?_
   | refine LeO.bind ?_ (fun _ => ?_)
  ·intro y0 y1 y2
   unfold ancepsref38_Variables.j1
   repeat' first
   | (with_reducible exact ih0 _ _)
   | (with_reducible exact ih1 _ _ _)
   | (with_reducible exact LeO.refl _)
   | (with_reducible exact LeO.none _)
   | (with_reducible refine LeO.ite ?_ ?_)
   | (with_reducible refine LeO.bind ?_ (fun _ => ?_))
   | exact ih0 _ _
   | exact ih1 _ _ _
   | exact LeO.none _
   | refine LeO.ite ?_ ?_
   | refine LeO.bind ?_ (fun _ => ?_)
theorem ancepsref38_Variables.mono : ∀ a0 k, LeO (ancepsref38_Variables.f k a0) (ancepsref38_Variables.f (k + 1) a0) := by
 intro a0 k
 obtain ⟨ih0, ih1⟩ := ancepsref38_Variables.mono_l k
 unfold ancepsref38_Variables.f
 repeat' first
   | (with_reducible exact ih0 _ _)
   | (with_reducible exact ih1 _ _ _)
   | (with_reducible exact LeO.refl _)
   | (with_reducible exact LeO.none _)
   | (with_reducible refine LeO.ite ?_ ?_)
   | (with_reducible refine LeO.bind ?_ (fun _ => ?_))
   | exact ih0 _ _
   | exact ih1 _ _ _
   | exact LeO.none _
   | refine LeO.ite ?_ ?_
   | refine LeO.bind ?_ (fun _ => ?_)
set_option maxHeartbeats 8000000 in
set_option maxRecDepth 100000 in
theorem ancepsref38_Variables.calls (k : Nat) (A0 : Option Addr) (c0 : Nat) (l0 : List Int) (r : Int) (w : World) (hr0 : Kd.C (Kd.int .i64) w A0 l0.length l0) (hc0 : l0.length ≤ c0) (h : ancepsref38_Variables.f k l0 = some r) :
  Calls Try.prog 116 #[.slice A0 l0.length c0] w fun e w' => e = .returned (.int .i64 r) ∧ Drawn0 w w' := by
 have hu3 := Try.underlying3
 have HR0 := Aside0.mk hr0
 have HC0 := Aside0.mk hc0
 clear hr0 hc0
 have H : (if (l0.length : Int) > 10 then (some 3) else (ancepsref38_Variables.l0 k l0 0)) = some r := h
 clear h
 by_cases c2 : (l0.length : Int) > 10
 ·rw [if_pos c2] at H
  have c2b0 : decide (10 < (l0.length : Int)) = true := decide_eq_true c2
  have c2b1 : decide (10 < l0.length) = true := decide_eq_true (by omega)
  clear c2
  obtain rfl := Option.some.inj H
  go_enter Try.func116, Try.ntmps116
  go_wp2
  repeat (go_quiet (fail); try go_wp2)
  go_ret
  exact ⟨by first | rfl | (simp; done) | (simp [*]; done), by repeat (first | exact Drawn0.refl _ | apply Drawn0.step)⟩
 ·rw [if_neg c2] at H
  have c2b0 : decide (10 < (l0.length : Int)) = false := decide_eq_false c2
  have c2b1 : decide (10 < l0.length) = false := decide_eq_false (by omega)
  clear c2
  have H' := Aside0.mk H
  clear H
  go_enter Try.func116, Try.ntmps116
  go_wp2
  repeat (go_quiet (fail); try go_wp2)
  go_loopg [3] k (fun kq v3 w' => ∃ (x3_1 : Int), v3 = .int .i64 x3_1 ∧ Aside0 (ancepsref38_Variables.l0 kq l0 x3_1 = some r) ∧ Aside0 (kq ≤ k) ∧ Drawn0 w w')
  case atStart => exact ⟨(0), zT, H', ⟨Nat.le_refl _⟩, by repeat (first | exact Drawn0.refl _ | apply Drawn0.step)⟩
  case round =>
   clear H'
   try clear c2
   try clear c2b0
   try clear c2b1
   obtain ⟨x3_1, rfl, HA, HK1, ⟨m1, rfl⟩⟩ := hrel
   cases gk with
   | zero => exact absurd HA.out (by simp [ancepsref38_Variables.l0])
   | succ k1 =>
    have H := HA.out
    clear HA
    simp only [ancepsref38_Variables.l0] at H
    by_cases c3 : x3_1 < (l0.length : Int)
    ·rw [if_pos c3] at H
     have c3b0 : decide (x3_1 < (l0.length : Int)) = true := decide_eq_true c3
     clear c3
     have HC4 := Aside0.mk H
     clear H
     go_upto_region 6 with (fail)
     repeat (go_quiet (fail); go_upto_region 6 with (fail))
     go_cut [24] (fun v24 wc => ∃ (kq : Nat) (x24_3 : Bool), v24 = .bool x24_3 ∧ Aside0 (ancepsref38_Variables.j1 kq l0 x3_1 x24_3 = some r) ∧ Aside0 (kq ≤ k1) ∧ Drawn0 w wc)
     case first =>
      have H := HC4.out
      clear HC4
      by_cases c5 : 0 ≤ x3_1
      ·rw [if_pos c5] at H
       have c5b0 : decide (0 ≤ x3_1) = true := decide_eq_true c5
       clear c5
       (first | rw [c5b0] | (simp only [i64_w, i32_w]; rw [c5b0]) | skip)
       by_cases c6 : (rd l0 x3_1) < 0
       ·rw [if_pos c6] at H
        have c6b0 : decide ((rd l0 x3_1) < 0) = true := decide_eq_true c6
        clear c6
        have H' := Aside0.mk H
        clear H
        have p364 : 0 ≤ (x3_1 : Int) := of_decide_eq_true zh
        have q364 : x3_1 < (l0.length : Int) := of_decide_eq_true zh
        obtain ⟨ad364, e364, hx364_0⟩ := Kd.at_int HR0.out x3_1 p364 q364
        cases e364
        replace p364 := eq_true p364
        replace q364 := eq_true q364
        go_wp2
        repeat (go_quiet (fail); try go_wp2)
        go_meet
        case rel => exact ⟨_, (true), zT, H', ⟨by have := HK1.out; first | omega | exact Nat.le_refl _⟩, by repeat (first | exact Drawn0.refl _ | apply Drawn0.step)⟩
       ·rw [if_neg c6] at H
        have c6b0 : decide ((rd l0 x3_1) < 0) = false := decide_eq_false c6
        clear c6
        have H' := Aside0.mk H
        clear H
        have p364 : 0 ≤ (x3_1 : Int) := of_decide_eq_true zh
        have q364 : x3_1 < (l0.length : Int) := of_decide_eq_true zh
        obtain ⟨ad364, e364, hx364_0⟩ := Kd.at_int HR0.out x3_1 p364 q364
        cases e364
        replace p364 := eq_true p364
        replace q364 := eq_true q364
        have p365 : 0 ≤ (x3_1 : Int) := of_decide_eq_true zh
        have q365 : x3_1 < (l0.length : Int) := of_decide_eq_true zh
        obtain ⟨ad365, e365, hx365_0⟩ := Kd.at_int HR0.out x3_1 p365 q365
        obtain rfl : ad364 = ad365 := (by injection e365)
        replace p365 := eq_true p365
        replace q365 := eq_true q365
        go_wp2
        repeat (go_quiet (fail); try go_wp2)
        go_meet
        case rel => exact ⟨_, (decide ((rd l0 x3_1) > 23)), zT, H', ⟨by have := HK1.out; first | omega | exact Nat.le_refl _⟩, by repeat (first | exact Drawn0.refl _ | apply Drawn0.step)⟩
      ·rw [if_neg c5] at H
       exact absurd H (by simp)
     case rest =>
      clear HC4
      try clear c2
      try clear c2b0
      try clear c2b1
      try clear c3
      try clear c3b0
      obtain ⟨kq, x24_3, rfl, HA, HJ3, ⟨mc3, rfl⟩⟩ := hcut
      cases kq with
      | zero => exact absurd HA.out (by simp [ancepsref38_Variables.j1])
      | succ kj3 =>
       have H := HA.out
       clear HA
       simp only [ancepsref38_Variables.j1] at H
       by_cases c7 : x24_3 = true
       ·subst c7
        have H1 : (some 6) = some r := by rw [if_pos rfl] at H; exact H
        clear H
        have H := H1
        clear H1
        obtain rfl := Option.some.inj H
        go_wp2
        repeat (go_quiet (fail); try go_wp2)
        go_ret
        exact ⟨by first | rfl | (simp; done) | (simp [*]; done), by repeat (first | exact Drawn0.refl _ | apply Drawn0.step)⟩
       ·replace c7 := Bool.eq_false_iff.mpr c7
        subst c7
        have H1 : (if x3_1 > 0 then (if 0 ≤ x3_1 then (if x3_1 < (l0.length : Int) then (if 0 ≤ (wrap64 (x3_1 - 1)) then (if (wrap64 (x3_1 - 1)) < (l0.length : Int) then (if (rd l0 x3_1) ≤ (rd l0 (wrap64 (x3_1 - 1))) then (some 18) else (ancepsref38_Variables.l0 kj3 l0 (wrap64 (x3_1 + 1)))) else (none)) else (none)) else (none)) else (none)) else (ancepsref38_Variables.l0 kj3 l0 (wrap64 (x3_1 + 1)))) = some r := by rw [if_neg (show ¬ (false = true) by decide)] at H; exact H
        clear H
        have H := H1
        clear H1
        by_cases c8 : x3_1 > 0
        ·rw [if_pos c8] at H
         have c8b0 : decide (0 < x3_1) = true := decide_eq_true c8
         clear c8
         by_cases c9 : 0 ≤ x3_1
         ·rw [if_pos c9] at H
          have c9b0 : decide (0 ≤ x3_1) = true := decide_eq_true c9
          clear c9
          by_cases c10 : x3_1 < (l0.length : Int)
          ·rw [if_pos c10] at H
           have c10b0 : decide (x3_1 < (l0.length : Int)) = true := decide_eq_true c10
           clear c10
           obtain ⟨ji11, hji11⟩ : ∃ j_ : Int, (wrap64 (x3_1 - 1)) = j_ := ⟨_, rfl⟩
           replace H : (if 0 ≤ (ji11) then (if (ji11) < (l0.length : Int) then (if (rd l0 x3_1) ≤ (rd l0 (ji11)) then (some 18) else (ancepsref38_Variables.l0 kj3 l0 (wrap64 (x3_1 + 1)))) else (none)) else (none)) = some r := by first | (rw [hji11] at H; exact H) | (simp only [hji11] at H ⊢; exact H)
           have hji11w : (IntKind.i64.wrap (x3_1 - 1)) = ji11 := (i64_w _).trans hji11
           by_cases c12 : 0 ≤ (ji11)
           ·rw [if_pos c12] at H
            have c12b0 : decide (0 ≤ (ji11)) = true := decide_eq_true c12
            clear c12
            by_cases c13 : (ji11) < (l0.length : Int)
            ·rw [if_pos c13] at H
             have c13b0 : decide ((ji11) < (l0.length : Int)) = true := decide_eq_true c13
             clear c13
             by_cases c14 : (rd l0 x3_1) ≤ (rd l0 (ji11))
             ·rw [if_pos c14] at H
              have c14b0 : decide ((rd l0 x3_1) ≤ (rd l0 (ji11))) = true := decide_eq_true c14
              clear c14
              obtain rfl := Option.some.inj H
              have p366 : 0 ≤ (x3_1 : Int) := of_decide_eq_true zh
              have q366 : x3_1 < (l0.length : Int) := of_decide_eq_true zh
              obtain ⟨ad366, e366, hx366_0⟩ := Kd.at_int HR0.out x3_1 p366 q366
              cases e366
              replace p366 := eq_true p366
              replace q366 := eq_true q366
              have p367 : 0 ≤ ((ji11) : Int) := of_decide_eq_true zh
              have q367 : (ji11) < (l0.length : Int) := of_decide_eq_true zh
              obtain ⟨ad367, e367, hx367_0⟩ := Kd.at_int HR0.out (ji11) p367 q367
              obtain rfl : ad366 = ad367 := (by injection e367)
              replace p367 := eq_true p367
              replace q367 := eq_true q367
              go_wp2
              repeat (go_quiet (fail); try go_wp2)
              go_ret
              exact ⟨by first | rfl | (simp; done) | (simp only [← hji11] <;> (first | rfl | simp)) | (simp [*]; done), by repeat (first | exact Drawn0.refl _ | apply Drawn0.step)⟩
             ·rw [if_neg c14] at H
              have c14b0 : decide ((rd l0 x3_1) ≤ (rd l0 (ji11))) = false := decide_eq_false c14
              clear c14
              have H' := Aside0.mk H
              clear H
              have p366 : 0 ≤ (x3_1 : Int) := of_decide_eq_true zh
              have q366 : x3_1 < (l0.length : Int) := of_decide_eq_true zh
              obtain ⟨ad366, e366, hx366_0⟩ := Kd.at_int HR0.out x3_1 p366 q366
              cases e366
              replace p366 := eq_true p366
              replace q366 := eq_true q366
              have p367 : 0 ≤ ((ji11) : Int) := of_decide_eq_true zh
              have q367 : (ji11) < (l0.length : Int) := of_decide_eq_true zh
              obtain ⟨ad367, e367, hx367_0⟩ := Kd.at_int HR0.out (ji11) p367 q367
              obtain rfl : ad366 = ad367 := (by injection e367)
              replace p367 := eq_true p367
              replace q367 := eq_true q367
              go_wp2
              repeat (go_quiet (fail); try go_wp2)
              go_roundg kj3
              case measure => have := HK1.out; have := HJ3.out; omega
              case rel => exact ⟨(wrap64 (x3_1 + 1)), zT, H', ⟨by have := HK1.out; have := HJ3.out; omega⟩, by repeat (first | exact Drawn0.refl _ | apply Drawn0.step)⟩
            ·rw [if_neg c13] at H
             exact absurd H (by simp)
           ·rw [if_neg c12] at H
            exact absurd H (by simp)
          ·rw [if_neg c10] at H
           exact absurd H (by simp)
         ·rw [if_neg c9] at H
          exact absurd H (by simp)
        ·rw [if_neg c8] at H
         have c8b0 : decide (0 < x3_1) = false := decide_eq_false c8
         clear c8
         have H' := Aside0.mk H
         clear H
         go_wp2
         repeat (go_quiet (fail); try go_wp2)
         go_roundg kj3
         case measure => have := HK1.out; have := HJ3.out; omega
         case rel => exact ⟨(wrap64 (x3_1 + 1)), zT, H', ⟨by have := HK1.out; have := HJ3.out; omega⟩, by repeat (first | exact Drawn0.refl _ | apply Drawn0.step)⟩
    ·rw [if_neg c3] at H
     have c3b0 : decide (x3_1 < (l0.length : Int)) = false := decide_eq_false c3
     clear c3
     obtain rfl := Option.some.inj H
     go_wp2
     repeat (go_quiet (fail); try go_wp2)
     go_ret
     exact ⟨by first | rfl | (simp; done) | (simp [*]; done), by repeat (first | exact Drawn0.refl _ | apply Drawn0.step)⟩
/-! ### ancepsref38_Valid: function 75 -/
mutual
def ancepsref38_Valid.l0 : Nat → Int → List Int → List Int → Option (Int)
 | 0, _, _, _ => none
 | k + 1, x4, x369000, x369001 => if x4 < (x369001.length : Int) then (if 0 ≤ x4 then (if (rd x369001 x4) < 0 then (ancepsref38_Valid.j1 k x4 true x369000 x369001) else (ancepsref38_Valid.j1 k x4 (decide ((rd x369001 x4) ≥ (shl .i64 1 (x369000.length : Int)))) x369000 x369001)) else (none)) else (some 0)
def ancepsref38_Valid.j1 : Nat → Int → Bool → List Int → List Int → Option (Int)
 | 0, _, _, _, _ => none
 | k + 1, x4, x35, x369000, x369001 => if x35 = true then (some 6) else (if x4 > 0 then (if 0 ≤ x4 then (if x4 < (x369001.length : Int) then (if 0 ≤ (wrap64 (x4 - 1)) then (if (wrap64 (x4 - 1)) < (x369001.length : Int) then (if (rd x369001 x4) ≤ (rd x369001 (wrap64 (x4 - 1))) then (some 18) else (ancepsref38_Valid.l0 k (wrap64 (x4 + 1)) x369000 x369001)) else (none)) else (none)) else (none)) else (none)) else (ancepsref38_Valid.l0 k (wrap64 (x4 + 1)) x369000 x369001))
end
def ancepsref38_Valid.f (k : Nat) (l0_0 : List Int) (l0_1 : List Int) : Option (Int) := (ancepsref38_Variables.f k l0_0).bind fun t369 => (if t369 = 0 then (ancepsref38_Valid.l0 k 0 l0_0 l0_1) else (some t369))
theorem ancepsref38_Valid.mono_l : ∀ k, (∀ y0 y1 y2, LeO (ancepsref38_Valid.l0 k y0 y1 y2) (ancepsref38_Valid.l0 (k + 1) y0 y1 y2)) ∧ (∀ y0 y1 y2 y3, LeO (ancepsref38_Valid.j1 k y0 y1 y2 y3) (ancepsref38_Valid.j1 (k + 1) y0 y1 y2 y3))
 | 0 => ⟨fun _ _ _ r h => by simp [ancepsref38_Valid.l0] at h, fun _ _ _ _ r h => by simp [ancepsref38_Valid.j1] at h⟩
 | k + 1 => by
  obtain ⟨ih0, ih1⟩ := ancepsref38_Valid.mono_l k
  refine ⟨?_, ?_⟩
  ·intro y0 y1 y2
   unfold ancepsref38_Valid.l0
   repeat' first
   | (with_reducible exact ih0 _ _ _)
   | (with_reducible exact ih1 _ _ _ _)
   | (with_reducible exact ancepsref38_Variables.mono _ _)
   | (with_reducible exact LeO.refl _)
   | (with_reducible exact LeO.none _)
   | (with_reducible refine LeO.ite ?_ ?_)
   | (with_reducible refine LeO.bind ?_ (fun _ => ?_))
   | exact ih0 _ _ _
   | exact ih1 _ _ _ _
   | exact ancepsref38_Variables.mono _ _
   | exact LeO.none _
   | refine LeO.ite ?_ ?_
   | refine LeO.bind ?_ (fun _ => ?_)
  ·intro y0 y1 y2 y3
   unfold ancepsref38_Valid.j1
   repeat' first
   | (with_reducible exact ih0 _ _ _)
   | (with_reducible exact ih1 _ _ _ _)
   | (with_reducible exact ancepsref38_Variables.mono _ _)
   | (with_reducible exact LeO.refl _)
   | (with_reducible exact LeO.none _)
   | (with_reducible refine LeO.ite ?_ ?_)
   | (with_reducible refine LeO.bind ?_ (fun _ => ?_))
   | exact ih0 _ _ _
   | exact ih1 _ _ _ _
   | exact ancepsref38_Variables.mono _ _
   | exact LeO.none _
   | refine LeO.ite ?_ ?_
   | refine LeO.bind ?_ (fun _ => ?_)
theorem ancepsref38_Valid.mono : ∀ a0 a1 k, LeO (ancepsref38_Valid.f k a0 a1) (ancepsref38_Valid.f (k + 1) a0 a1) := by
 intro a0 a1 k
 obtain ⟨ih0, ih1⟩ := ancepsref38_Valid.mono_l k
 unfold ancepsref38_Valid.f
 repeat' first
   | (with_reducible exact ih0 _ _ _)
   | (with_reducible exact ih1 _ _ _ _)
   | (with_reducible exact ancepsref38_Variables.mono _ _)
   | (with_reducible exact LeO.refl _)
   | (with_reducible exact LeO.none _)
   | (with_reducible refine LeO.ite ?_ ?_)
   | (with_reducible refine LeO.bind ?_ (fun _ => ?_))
   | exact ih0 _ _ _
   | exact ih1 _ _ _ _
   | exact ancepsref38_Variables.mono _ _
   | exact LeO.none _
   | refine LeO.ite ?_ ?_
   | refine LeO.bind ?_ (fun _ => ?_)
set_option maxHeartbeats 8000000 in
set_option maxRecDepth 100000 in
theorem ancepsref38_Valid.calls (k : Nat) (A0_0 : Option Addr) (c0_0 : Nat) (l0_0 : List Int) (A0_1 : Option Addr) (c0_1 : Nat) (l0_1 : List Int) (r : Int) (w : World) (hr0_0 : Kd.C (Kd.int .i64) w A0_0 l0_0.length l0_0) (hc0_0 : l0_0.length ≤ c0_0) (hr0_1 : Kd.C (Kd.int .i64) w A0_1 l0_1.length l0_1) (hc0_1 : l0_1.length ≤ c0_1) (h : ancepsref38_Valid.f k l0_0 l0_1 = some r) :
  Calls Try.prog 75 #[.agg #[.slice A0_0 l0_0.length c0_0, .slice A0_1 l0_1.length c0_1]] w fun e w' => e = .returned (.int .i64 r) ∧ Below w.heap.size w w' := by
 have hu61 := Try.underlying61
 have hu42 := Try.underlying42
 have hu3 := Try.underlying3
 have HR0_0 := Aside0.mk hr0_0
 have HC0_0 := Aside0.mk hc0_0
 clear hr0_0 hc0_0
 have HR0_1 := Aside0.mk hr0_1
 have HC0_1 := Aside0.mk hc0_1
 clear hr0_1 hc0_1
 have HB := Aside0.mk (Below.refl w.heap.size w)
 have H : ((ancepsref38_Variables.f k l0_0).bind fun t369 => (if t369 = 0 then (ancepsref38_Valid.l0 k 0 l0_0 l0_1) else (some t369))) = some r := h
 clear h
 replace H := Option.bind_eq_some_iff.mp H
 obtain ⟨t369, A20, H⟩ := H
 replace H : (if t369 = 0 then (ancepsref38_Valid.l0 k 0 l0_0 l0_1) else (some t369)) = some r := H
 have A2 := Aside0.mk A20
 clear A20
 have HC3 := Aside0.mk H
 clear H
 go_enter Try.func75, Try.ntmps75
 go_upto_if 9 with (first | ((with_reducible refine gate_dst (N := 1) rfl ?_); (try (refine gate_guard (by rfl) ?_; dsimp only)); refine box_event ?hg (N := 1) ?hd (cs := #[.slice A0_0 l0_0.length c0_0, .slice A0_1 l0_1.length c0_1]) (t := 61) ?hr ?_; (case hd => rfl); (case hg => rfl); (case hr => first | (go_simp; done) | (go_simp; rfl)); intro gb368 hg w4 hbox hb; have n0_ := Aside0.mk (below_step zB hb); have n1_ := Aside0.mk (hbox); have n2_ := Aside0.mk ((by rw [hg]; exact (below_size zB) : w.heap.size ≤ gb368)); have n3_ := Aside0.mk ((by rw [hg]; exact (below_size zB) : w.heap.size ≤ gb368)); clear HB; have HB := n0_; have BK368 := n1_; have GW368 := n2_; have GE368 := n3_; clear n0_ n1_ n2_ n3_; clear hb hbox hg; have hcz5_0 : w4.cell? ⟨gb368, 0, none⟩ = some (.slice A0_0 l0_0.length c0_0) := (blk_cell BK368.out 0).trans rfl; have hcz5_1 : w4.cell? ⟨gb368, 1, none⟩ = some (.slice A0_1 l0_1.length c0_1) := (blk_cell BK368.out 1).trans rfl; have hfz5_0 := blk_frozen BK368.out 0; have hfz5_1 := blk_frozen BK368.out 1) | (go_at_call 116; (with_reducible refine (ancepsref38_Variables.calls k _ _ l0_0 t369 _ ?side1 ?side2 A2.out).mono ?_); (case side1 => repeat (first | exact (Kd.C_below HR0_0.out HB.out) | (with_reducible refine Kd.C_alloc ?_ _) | (with_reducible refine Kd.C_drewN ?_ _) | (with_reducible refine Kd.C_drew ?_))); (case side2 => exact HC0_0.out); rintro e w' ⟨rfl, ⟨nd, rfl⟩⟩; (try first | exact ⟨rfl, _, World.drewN_drewN _ _ _⟩ | exact ⟨rfl, _, Eq.trans (World.drewN_drewN _ _ _) (congrArg (World.drewN _) (Nat.add_assoc _ _ _))⟩)))
 repeat (go_quiet (first | ((with_reducible refine gate_dst (N := 1) rfl ?_); (try (refine gate_guard (by rfl) ?_; dsimp only)); refine box_event ?hg (N := 1) ?hd (cs := #[.slice A0_0 l0_0.length c0_0, .slice A0_1 l0_1.length c0_1]) (t := 61) ?hr ?_; (case hd => rfl); (case hg => rfl); (case hr => first | (go_simp; done) | (go_simp; rfl)); intro gb368 hg w4 hbox hb; have n0_ := Aside0.mk (below_step zB hb); have n1_ := Aside0.mk (hbox); have n2_ := Aside0.mk ((by rw [hg]; exact (below_size zB) : w.heap.size ≤ gb368)); have n3_ := Aside0.mk ((by rw [hg]; exact (below_size zB) : w.heap.size ≤ gb368)); clear HB; have HB := n0_; have BK368 := n1_; have GW368 := n2_; have GE368 := n3_; clear n0_ n1_ n2_ n3_; clear hb hbox hg; have hcz5_0 : w4.cell? ⟨gb368, 0, none⟩ = some (.slice A0_0 l0_0.length c0_0) := (blk_cell BK368.out 0).trans rfl; have hcz5_1 : w4.cell? ⟨gb368, 1, none⟩ = some (.slice A0_1 l0_1.length c0_1) := (blk_cell BK368.out 1).trans rfl; have hfz5_0 := blk_frozen BK368.out 0; have hfz5_1 := blk_frozen BK368.out 1) | (go_at_call 116; (with_reducible refine (ancepsref38_Variables.calls k _ _ l0_0 t369 _ ?side1 ?side2 A2.out).mono ?_); (case side1 => repeat (first | exact (Kd.C_below HR0_0.out HB.out) | (with_reducible refine Kd.C_alloc ?_ _) | (with_reducible refine Kd.C_drewN ?_ _) | (with_reducible refine Kd.C_drew ?_))); (case side2 => exact HC0_0.out); rintro e w' ⟨rfl, ⟨nd, rfl⟩⟩; (try first | exact ⟨rfl, _, World.drewN_drewN _ _ _⟩ | exact ⟨rfl, _, Eq.trans (World.drewN_drewN _ _ _) (congrArg (World.drewN _) (Nat.add_assoc _ _ _))⟩))); go_upto_if 9 with (first | ((with_reducible refine gate_dst (N := 1) rfl ?_); (try (refine gate_guard (by rfl) ?_; dsimp only)); refine box_event ?hg (N := 1) ?hd (cs := #[.slice A0_0 l0_0.length c0_0, .slice A0_1 l0_1.length c0_1]) (t := 61) ?hr ?_; (case hd => rfl); (case hg => rfl); (case hr => first | (go_simp; done) | (go_simp; rfl)); intro gb368 hg w4 hbox hb; have n0_ := Aside0.mk (below_step zB hb); have n1_ := Aside0.mk (hbox); have n2_ := Aside0.mk ((by rw [hg]; exact (below_size zB) : w.heap.size ≤ gb368)); have n3_ := Aside0.mk ((by rw [hg]; exact (below_size zB) : w.heap.size ≤ gb368)); clear HB; have HB := n0_; have BK368 := n1_; have GW368 := n2_; have GE368 := n3_; clear n0_ n1_ n2_ n3_; clear hb hbox hg; have hcz5_0 : w4.cell? ⟨gb368, 0, none⟩ = some (.slice A0_0 l0_0.length c0_0) := (blk_cell BK368.out 0).trans rfl; have hcz5_1 : w4.cell? ⟨gb368, 1, none⟩ = some (.slice A0_1 l0_1.length c0_1) := (blk_cell BK368.out 1).trans rfl; have hfz5_0 := blk_frozen BK368.out 0; have hfz5_1 := blk_frozen BK368.out 1) | (go_at_call 116; (with_reducible refine (ancepsref38_Variables.calls k _ _ l0_0 t369 _ ?side1 ?side2 A2.out).mono ?_); (case side1 => repeat (first | exact (Kd.C_below HR0_0.out HB.out) | (with_reducible refine Kd.C_alloc ?_ _) | (with_reducible refine Kd.C_drewN ?_ _) | (with_reducible refine Kd.C_drew ?_))); (case side2 => exact HC0_0.out); rintro e w' ⟨rfl, ⟨nd, rfl⟩⟩; (try first | exact ⟨rfl, _, World.drewN_drewN _ _ _⟩ | exact ⟨rfl, _, Eq.trans (World.drewN_drewN _ _ _) (congrArg (World.drewN _) (Nat.add_assoc _ _ _))⟩))))
 (try simp only [Act.put, List.setIfInBounds_toArray, List.set_cons_zero, List.set_cons_succ])
 have H := HC3.out
 clear HC3
 by_cases c6 : t369 = 0
 ·rw [if_pos c6] at H
  have c6b0 : (t369 == 0) = true := beq_iff_eq.mpr c6
  have c6b1 : (t369 != 0) = false := bne_eq_false_iff_eq.mpr c6
  clear c6
  (first | rw [c6b0] | (simp only [i64_w, i32_w]; rw [c6b0]) | skip)
  (try rw [c6b1])
  have H' := Aside0.mk H
  clear H
  go_wp2
  repeat (go_quiet (fail); try go_wp2)
  go_loopg [4] k (fun kq v4 w' => ∃ (x4_1 : Int), v4 = .int .i64 x4_1 ∧ Aside0 (ancepsref38_Valid.l0 kq x4_1 l0_0 l0_1 = some r) ∧ Aside0 (kq ≤ k) ∧ Aside0 (w'.heap[gb368]? = some (.cells #[(.slice A0_0 l0_0.length c0_0), (.slice A0_1 l0_1.length c0_1)] 61 (0, 0))) ∧ Aside0 (Below w.heap.size w w'))
  case atStart => exact ⟨(0), zT, H', ⟨Nat.le_refl _⟩, ⟨by (with_reducible repeat (first | refine blk_drewN ?_ _ | refine blk_drew ?_ | refine blk_alloc ?_ _)); exact BK368.out⟩, ⟨by repeat (first | (with_reducible first | exact HB.out | apply below_alloc | apply pw_below_drewN | apply below_drew1 | refine below_set ?_ GE368.out) | exact HB.out)⟩⟩
  case round =>
   clear H'
   try clear c6
   try clear c6b0
   try clear c6b1
   try clear hcz5_0
   try clear hcz5_1
   try clear hfz5_0
   try clear hfz5_1
   obtain ⟨x4_1, rfl, HA, HK1, BK368, HB⟩ := hrel
   cases gk with
   | zero => exact absurd HA.out (by simp [ancepsref38_Valid.l0])
   | succ k1 =>
    have H := HA.out
    clear HA
    simp only [ancepsref38_Valid.l0] at H
    by_cases c7 : x4_1 < (l0_1.length : Int)
    ·rw [if_pos c7] at H
     have c7b0 : decide (x4_1 < (l0_1.length : Int)) = true := decide_eq_true c7
     clear c7
     have HC8 := Aside0.mk H
     clear H
     have hcz9_0 : wr.cell? ⟨gb368, 0, none⟩ = some (.slice A0_0 l0_0.length c0_0) := (blk_cell BK368.out 0).trans rfl
     have hcz9_1 : wr.cell? ⟨gb368, 1, none⟩ = some (.slice A0_1 l0_1.length c0_1) := (blk_cell BK368.out 1).trans rfl
     have hfz9_0 := blk_frozen BK368.out 0
     have hfz9_1 := blk_frozen BK368.out 1
     go_upto_region 7 with (fail)
     repeat (go_quiet (fail); go_upto_region 7 with (fail))
     go_cut [35] (fun v35 wc => ∃ (kq : Nat) (x35_7 : Bool), v35 = .bool x35_7 ∧ Aside0 (ancepsref38_Valid.j1 kq x4_1 x35_7 l0_0 l0_1 = some r) ∧ Aside0 (kq ≤ k1) ∧ Aside0 (wc.heap[gb368]? = some (.cells #[(.slice A0_0 l0_0.length c0_0), (.slice A0_1 l0_1.length c0_1)] 61 (0, 0))) ∧ Aside0 (Below w.heap.size w wc))
     case first =>
      have H := HC8.out
      clear HC8
      by_cases c10 : 0 ≤ x4_1
      ·rw [if_pos c10] at H
       have c10b0 : decide (0 ≤ x4_1) = true := decide_eq_true c10
       clear c10
       (first | rw [c10b0] | (simp only [i64_w, i32_w]; rw [c10b0]) | skip)
       by_cases c11 : (rd l0_1 x4_1) < 0
       ·rw [if_pos c11] at H
        have c11b0 : decide ((rd l0_1 x4_1) < 0) = true := decide_eq_true c11
        clear c11
        have H' := Aside0.mk H
        clear H
        have hcz12_0 : wr.cell? ⟨gb368, 0, none⟩ = some (.slice A0_0 l0_0.length c0_0) := (blk_cell BK368.out 0).trans rfl
        have hcz12_1 : wr.cell? ⟨gb368, 1, none⟩ = some (.slice A0_1 l0_1.length c0_1) := (blk_cell BK368.out 1).trans rfl
        have hfz12_0 := blk_frozen BK368.out 0
        have hfz12_1 := blk_frozen BK368.out 1
        have p370 : 0 ≤ (x4_1 : Int) := of_decide_eq_true zh
        have q370 : x4_1 < (l0_1.length : Int) := of_decide_eq_true zh
        obtain ⟨ad370, e370, hx370_0⟩ := Kd.at_int HR0_1.out x4_1 p370 q370
        cases e370
        replace hx370_0 := (HB.out.cell (World.block_lt_of_cell? w _ hx370_0)).trans hx370_0
        replace p370 := eq_true p370
        replace q370 := eq_true q370
        go_wp2
        repeat (go_quiet (fail); try go_wp2)
        go_meet
        case rel => exact ⟨_, (true), zT, H', ⟨by have := HK1.out; first | omega | exact Nat.le_refl _⟩, ⟨by (with_reducible repeat (first | refine blk_drewN ?_ _ | refine blk_drew ?_ | refine blk_alloc ?_ _)); exact BK368.out⟩, ⟨by repeat (first | (with_reducible first | exact HB.out | apply below_alloc | apply pw_below_drewN | apply below_drew1 | refine below_set ?_ GE368.out) | exact HB.out)⟩⟩
       ·rw [if_neg c11] at H
        have c11b0 : decide ((rd l0_1 x4_1) < 0) = false := decide_eq_false c11
        clear c11
        obtain ⟨ji13, hji13⟩ : ∃ j_ : Int, (shl .i64 1 (l0_0.length : Int)) = j_ := ⟨_, rfl⟩
        replace H : (ancepsref38_Valid.j1 k1 x4_1 (decide ((rd l0_1 x4_1) ≥ (ji13))) l0_0 l0_1) = some r := by first | (rw [hji13] at H; exact H) | (simp only [hji13] at H ⊢; exact H)
        have hji13_ : (IntKind.i64.wrap (1 * 2 ^ min (l0_0.length : Int).toNat 64)) = ji13 := hji13
        have hji13z : (l0_0.length : Int) ≤ 64 → (IntKind.i64.wrap (1 * 2 ^ (l0_0.length : Int).toNat)) = ji13 := shl_small hji13
        have hji13p : (IntKind.i64.wrap (1 * 2 ^ min l0_0.length 64)) = ji13 := hji13_
        have hji13q : (l0_0.length : Int) ≤ 64 → (IntKind.i64.wrap (1 * 2 ^ l0_0.length)) = ji13 := hji13z
        have hji13r : (IntKind.i64.wrap (2 ^ min l0_0.length 64)) = ji13 := by have h_ := hji13p; rw [Int.one_mul] at h_; exact h_
        have hji13s : (l0_0.length : Int) ≤ 64 → (IntKind.i64.wrap (2 ^ l0_0.length)) = ji13 := fun hle_ => by have h_ := hji13q hle_; rw [Int.one_mul] at h_; exact h_
        have hji13u : (IntKind.i64.wrap (2 ^ min (l0_0.length : Int).toNat 64)) = ji13 := by have h_ := hji13_; rw [Int.one_mul] at h_; exact h_
        have hji13v : (l0_0.length : Int) ≤ 64 → (IntKind.i64.wrap (2 ^ (l0_0.length : Int).toNat)) = ji13 := fun hle_ => by have h_ := hji13z hle_; rw [Int.one_mul] at h_; exact h_
        have hji13y : (wrap64 (1 * 2 ^ min (l0_0.length : Int).toNat 64)) = ji13 := (i64_w _).symm.trans hji13_
        have hji13x : (l0_0.length : Int) ≤ 64 → (wrap64 (1 * 2 ^ (l0_0.length : Int).toNat)) = ji13 := fun h_ => (i64_w _).symm.trans (hji13z h_)
        have H' := Aside0.mk H
        clear H
        have hcz14_0 : wr.cell? ⟨gb368, 0, none⟩ = some (.slice A0_0 l0_0.length c0_0) := (blk_cell BK368.out 0).trans rfl
        have hcz14_1 : wr.cell? ⟨gb368, 1, none⟩ = some (.slice A0_1 l0_1.length c0_1) := (blk_cell BK368.out 1).trans rfl
        have hfz14_0 := blk_frozen BK368.out 0
        have hfz14_1 := blk_frozen BK368.out 1
        have p370 : 0 ≤ (x4_1 : Int) := of_decide_eq_true zh
        have q370 : x4_1 < (l0_1.length : Int) := of_decide_eq_true zh
        obtain ⟨ad370, e370, hx370_0⟩ := Kd.at_int HR0_1.out x4_1 p370 q370
        cases e370
        replace hx370_0 := (HB.out.cell (World.block_lt_of_cell? w _ hx370_0)).trans hx370_0
        replace p370 := eq_true p370
        replace q370 := eq_true q370
        have p371 : 0 ≤ (x4_1 : Int) := of_decide_eq_true zh
        have q371 : x4_1 < (l0_1.length : Int) := of_decide_eq_true zh
        obtain ⟨ad371, e371, hx371_0⟩ := Kd.at_int HR0_1.out x4_1 p371 q371
        obtain rfl : ad370 = ad371 := (by injection e371)
        replace hx371_0 := (HB.out.cell (World.block_lt_of_cell? w _ hx371_0)).trans hx371_0
        replace p371 := eq_true p371
        replace q371 := eq_true q371
        go_wp2
        repeat (go_quiet (fail); try go_wp2)
        go_meet
        case rel => exact ⟨_, (decide ((rd l0_1 x4_1) ≥ (ji13))), (by first | rfl | (simp; done) | (simp only [← hji13] <;> (first | rfl | simp)) | (simp [*]; done)), H', ⟨by have := HK1.out; first | omega | exact Nat.le_refl _⟩, ⟨by (with_reducible repeat (first | refine blk_drewN ?_ _ | refine blk_drew ?_ | refine blk_alloc ?_ _)); exact BK368.out⟩, ⟨by repeat (first | (with_reducible first | exact HB.out | apply below_alloc | apply pw_below_drewN | apply below_drew1 | refine below_set ?_ GE368.out) | exact HB.out)⟩⟩
      ·rw [if_neg c10] at H
       exact absurd H (by simp)
     case rest =>
      clear HC8
      try clear c6
      try clear c6b0
      try clear c6b1
      try clear c7
      try clear c7b0
      try clear hcz5_0
      try clear hcz5_1
      try clear hcz9_0
      try clear hcz9_1
      try clear hfz5_0
      try clear hfz5_1
      try clear hfz9_0
      try clear hfz9_1
      obtain ⟨kq, x35_7, rfl, HA, HJ7, BK368, HB⟩ := hcut
      cases kq with
      | zero => exact absurd HA.out (by simp [ancepsref38_Valid.j1])
      | succ kj7 =>
       have H := HA.out
       clear HA
       simp only [ancepsref38_Valid.j1] at H
       by_cases c15 : x35_7 = true
       ·subst c15
        have H1 : (some 6) = some r := by rw [if_pos rfl] at H; exact H
        clear H
        have H := H1
        clear H1
        obtain rfl := Option.some.inj H
        go_wp2
        repeat (go_quiet (fail); try go_wp2)
        go_ret
        exact ⟨by first | rfl | (simp [errW_none, errW_some] <;> rfl) | (simp [*, errW_none, errW_some] <;> rfl), by repeat (first | (with_reducible first | exact HB.out | apply below_alloc | apply pw_below_drewN | apply below_drew1 | refine below_set ?_ GE368.out) | exact HB.out)⟩
       ·replace c15 := Bool.eq_false_iff.mpr c15
        subst c15
        have H1 : (if x4_1 > 0 then (if 0 ≤ x4_1 then (if x4_1 < (l0_1.length : Int) then (if 0 ≤ (wrap64 (x4_1 - 1)) then (if (wrap64 (x4_1 - 1)) < (l0_1.length : Int) then (if (rd l0_1 x4_1) ≤ (rd l0_1 (wrap64 (x4_1 - 1))) then (some 18) else (ancepsref38_Valid.l0 kj7 (wrap64 (x4_1 + 1)) l0_0 l0_1)) else (none)) else (none)) else (none)) else (none)) else (ancepsref38_Valid.l0 kj7 (wrap64 (x4_1 + 1)) l0_0 l0_1)) = some r := by rw [if_neg (show ¬ (false = true) by decide)] at H; exact H
        clear H
        have H := H1
        clear H1
        by_cases c16 : x4_1 > 0
        ·rw [if_pos c16] at H
         have c16b0 : decide (0 < x4_1) = true := decide_eq_true c16
         clear c16
         by_cases c17 : 0 ≤ x4_1
         ·rw [if_pos c17] at H
          have c17b0 : decide (0 ≤ x4_1) = true := decide_eq_true c17
          clear c17
          by_cases c18 : x4_1 < (l0_1.length : Int)
          ·rw [if_pos c18] at H
           have c18b0 : decide (x4_1 < (l0_1.length : Int)) = true := decide_eq_true c18
           clear c18
           obtain ⟨ji19, hji19⟩ : ∃ j_ : Int, (wrap64 (x4_1 - 1)) = j_ := ⟨_, rfl⟩
           replace H : (if 0 ≤ (ji19) then (if (ji19) < (l0_1.length : Int) then (if (rd l0_1 x4_1) ≤ (rd l0_1 (ji19)) then (some 18) else (ancepsref38_Valid.l0 kj7 (wrap64 (x4_1 + 1)) l0_0 l0_1)) else (none)) else (none)) = some r := by first | (rw [hji19] at H; exact H) | (simp only [hji19] at H ⊢; exact H)
           have hji19w : (IntKind.i64.wrap (x4_1 - 1)) = ji19 := (i64_w _).trans hji19
           by_cases c20 : 0 ≤ (ji19)
           ·rw [if_pos c20] at H
            have c20b0 : decide (0 ≤ (ji19)) = true := decide_eq_true c20
            clear c20
            by_cases c21 : (ji19) < (l0_1.length : Int)
            ·rw [if_pos c21] at H
             have c21b0 : decide ((ji19) < (l0_1.length : Int)) = true := decide_eq_true c21
             clear c21
             by_cases c22 : (rd l0_1 x4_1) ≤ (rd l0_1 (ji19))
             ·rw [if_pos c22] at H
              have c22b0 : decide ((rd l0_1 x4_1) ≤ (rd l0_1 (ji19))) = true := decide_eq_true c22
              clear c22
              obtain rfl := Option.some.inj H
              have hcz23_0 : wc.cell? ⟨gb368, 0, none⟩ = some (.slice A0_0 l0_0.length c0_0) := (blk_cell BK368.out 0).trans rfl
              have hcz23_1 : wc.cell? ⟨gb368, 1, none⟩ = some (.slice A0_1 l0_1.length c0_1) := (blk_cell BK368.out 1).trans rfl
              have hfz23_0 := blk_frozen BK368.out 0
              have hfz23_1 := blk_frozen BK368.out 1
              have p372 : 0 ≤ (x4_1 : Int) := of_decide_eq_true zh
              have q372 : x4_1 < (l0_1.length : Int) := of_decide_eq_true zh
              obtain ⟨ad372, e372, hx372_0⟩ := Kd.at_int HR0_1.out x4_1 p372 q372
              cases e372
              replace hx372_0 := (HB.out.cell (World.block_lt_of_cell? w _ hx372_0)).trans hx372_0
              replace p372 := eq_true p372
              replace q372 := eq_true q372
              have p373 : 0 ≤ ((ji19) : Int) := of_decide_eq_true zh
              have q373 : (ji19) < (l0_1.length : Int) := of_decide_eq_true zh
              obtain ⟨ad373, e373, hx373_0⟩ := Kd.at_int HR0_1.out (ji19) p373 q373
              obtain rfl : ad372 = ad373 := (by injection e373)
              replace hx373_0 := (HB.out.cell (World.block_lt_of_cell? w _ hx373_0)).trans hx373_0
              replace p373 := eq_true p373
              replace q373 := eq_true q373
              go_wp2
              repeat (go_quiet (fail); try go_wp2)
              go_ret
              exact ⟨by first | rfl | (simp [errW_none, errW_some] <;> rfl) | (simp only [← hji19]; first | rfl | (simp [errW_none, errW_some] <;> rfl)) | (simp [*, errW_none, errW_some] <;> rfl), by repeat (first | (with_reducible first | exact HB.out | apply below_alloc | apply pw_below_drewN | apply below_drew1 | refine below_set ?_ GE368.out) | exact HB.out)⟩
             ·rw [if_neg c22] at H
              have c22b0 : decide ((rd l0_1 x4_1) ≤ (rd l0_1 (ji19))) = false := decide_eq_false c22
              clear c22
              have H' := Aside0.mk H
              clear H
              have hcz24_0 : wc.cell? ⟨gb368, 0, none⟩ = some (.slice A0_0 l0_0.length c0_0) := (blk_cell BK368.out 0).trans rfl
              have hcz24_1 : wc.cell? ⟨gb368, 1, none⟩ = some (.slice A0_1 l0_1.length c0_1) := (blk_cell BK368.out 1).trans rfl
              have hfz24_0 := blk_frozen BK368.out 0
              have hfz24_1 := blk_frozen BK368.out 1
              have p372 : 0 ≤ (x4_1 : Int) := of_decide_eq_true zh
              have q372 : x4_1 < (l0_1.length : Int) := of_decide_eq_true zh
              obtain ⟨ad372, e372, hx372_0⟩ := Kd.at_int HR0_1.out x4_1 p372 q372
              cases e372
              replace hx372_0 := (HB.out.cell (World.block_lt_of_cell? w _ hx372_0)).trans hx372_0
              replace p372 := eq_true p372
              replace q372 := eq_true q372
              have p373 : 0 ≤ ((ji19) : Int) := of_decide_eq_true zh
              have q373 : (ji19) < (l0_1.length : Int) := of_decide_eq_true zh
              obtain ⟨ad373, e373, hx373_0⟩ := Kd.at_int HR0_1.out (ji19) p373 q373
              obtain rfl : ad372 = ad373 := (by injection e373)
              replace hx373_0 := (HB.out.cell (World.block_lt_of_cell? w _ hx373_0)).trans hx373_0
              replace p373 := eq_true p373
              replace q373 := eq_true q373
              go_wp2
              repeat (go_quiet (fail); try go_wp2)
              go_roundg kj7
              case measure => have := HK1.out; have := HJ7.out; omega
              case rel => exact ⟨(wrap64 (x4_1 + 1)), zT, H', ⟨by have := HK1.out; have := HJ7.out; omega⟩, ⟨by (with_reducible repeat (first | refine blk_drewN ?_ _ | refine blk_drew ?_ | refine blk_alloc ?_ _)); exact BK368.out⟩, ⟨by repeat (first | (with_reducible first | exact HB.out | apply below_alloc | apply pw_below_drewN | apply below_drew1 | refine below_set ?_ GE368.out) | exact HB.out)⟩⟩
            ·rw [if_neg c21] at H
             exact absurd H (by simp)
           ·rw [if_neg c20] at H
            exact absurd H (by simp)
          ·rw [if_neg c18] at H
           exact absurd H (by simp)
         ·rw [if_neg c17] at H
          exact absurd H (by simp)
        ·rw [if_neg c16] at H
         have c16b0 : decide (0 < x4_1) = false := decide_eq_false c16
         clear c16
         have H' := Aside0.mk H
         clear H
         go_wp2
         repeat (go_quiet (fail); try go_wp2)
         go_roundg kj7
         case measure => have := HK1.out; have := HJ7.out; omega
         case rel => exact ⟨(wrap64 (x4_1 + 1)), zT, H', ⟨by have := HK1.out; have := HJ7.out; omega⟩, ⟨by (with_reducible repeat (first | refine blk_drewN ?_ _ | refine blk_drew ?_ | refine blk_alloc ?_ _)); exact BK368.out⟩, ⟨by repeat (first | (with_reducible first | exact HB.out | apply below_alloc | apply pw_below_drewN | apply below_drew1 | refine below_set ?_ GE368.out) | exact HB.out)⟩⟩
    ·rw [if_neg c7] at H
     have c7b0 : decide (x4_1 < (l0_1.length : Int)) = false := decide_eq_false c7
     clear c7
     obtain rfl := Option.some.inj H
     have hcz25_0 : wr.cell? ⟨gb368, 0, none⟩ = some (.slice A0_0 l0_0.length c0_0) := (blk_cell BK368.out 0).trans rfl
     have hcz25_1 : wr.cell? ⟨gb368, 1, none⟩ = some (.slice A0_1 l0_1.length c0_1) := (blk_cell BK368.out 1).trans rfl
     have hfz25_0 := blk_frozen BK368.out 0
     have hfz25_1 := blk_frozen BK368.out 1
     go_wp2
     repeat (go_quiet (fail); try go_wp2)
     go_ret
     exact ⟨by first | rfl | (simp [errW_none, errW_some] <;> rfl) | (simp [*, errW_none, errW_some] <;> rfl), by repeat (first | (with_reducible first | exact HB.out | apply below_alloc | apply pw_below_drewN | apply below_drew1 | refine below_set ?_ GE368.out) | exact HB.out)⟩
 ·rw [if_neg c6] at H
  have c6b0 : (t369 == 0) = false := beq_eq_false_iff_ne.mpr c6
  have c6b1 : (t369 != 0) = true := bne_iff_ne.mpr c6
  (first | rw [c6b0] | (simp only [i64_w, i32_w]; rw [c6b0]) | skip)
  (try rw [c6b1])
  obtain rfl := Option.some.inj H
  go_wp2
  repeat (go_quiet (fail); try go_wp2)
  go_ret
  exact ⟨by first | rfl | (simp [errW_none, errW_some] <;> rfl) | (simp [*, errW_none, errW_some] <;> rfl), by repeat (first | (with_reducible first | exact HB.out | apply below_alloc | apply pw_below_drewN | apply below_drew1 | refine below_set ?_ GE368.out) | exact HB.out)⟩
/-! ### ancepsref40_Valid: function 50 -/
def ancepsref40_Valid.l0 : Nat → List (S61) → Int → Option (Int)
 | 0, _, _ => none
 | k + 1, x0, x3 => if x3 < (x0.length : Int) then (if 0 ≤ x3 then ((ancepsref38_Valid.f k ((rd_T61 x0 x3).f0) ((rd_T61 x0 x3).f1)).bind fun t375 => (if t375 = 0 then (ancepsref40_Valid.l0 k x0 (wrap64 (x3 + 1))) else (some t375))) else (none)) else (some 0)
def ancepsref40_Valid.f (k : Nat) (l0 : List (S61)) : Option (Int) := if (l0.length : Int) > 16 then (some 3) else (ancepsref40_Valid.l0 k l0 0)
theorem ancepsref40_Valid.mono_l : ∀ k, (∀ y0 y1, LeO (ancepsref40_Valid.l0 k y0 y1) (ancepsref40_Valid.l0 (k + 1) y0 y1))
 | 0 => fun _ _ r h => by simp [ancepsref40_Valid.l0] at h
 | k + 1 => by
  have ih0 := ancepsref40_Valid.mono_l k
  ·intro y0 y1
   unfold ancepsref40_Valid.l0
   repeat' first
   | (with_reducible exact ih0 _ _)
   | (with_reducible exact ancepsref38_Valid.mono _ _ _)
   | (with_reducible exact LeO.refl _)
   | (with_reducible exact LeO.none _)
   | (with_reducible refine LeO.ite ?_ ?_)
   | (with_reducible refine LeO.bind ?_ (fun _ => ?_))
   | exact ih0 _ _
   | exact ancepsref38_Valid.mono _ _ _
   | exact LeO.none _
   | refine LeO.ite ?_ ?_
   | refine LeO.bind ?_ (fun _ => ?_)
theorem ancepsref40_Valid.mono : ∀ a0 k, LeO (ancepsref40_Valid.f k a0) (ancepsref40_Valid.f (k + 1) a0) := by
 intro a0 k
 have ih0 := ancepsref40_Valid.mono_l k
 unfold ancepsref40_Valid.f
 repeat' first
   | (with_reducible exact ih0 _ _)
   | (with_reducible exact ancepsref38_Valid.mono _ _ _)
   | (with_reducible exact LeO.refl _)
   | (with_reducible exact LeO.none _)
   | (with_reducible refine LeO.ite ?_ ?_)
   | (with_reducible refine LeO.bind ?_ (fun _ => ?_))
   | exact ih0 _ _
   | exact ancepsref38_Valid.mono _ _ _
   | exact LeO.none _
   | refine LeO.ite ?_ ?_
   | refine LeO.bind ?_ (fun _ => ?_)
set_option maxHeartbeats 8000000 in
set_option maxRecDepth 100000 in
theorem ancepsref40_Valid.calls (k : Nat) (A0 : Option Addr) (c0 : Nat) (l0 : List (S61)) (r : Int) (w : World) (hr0 : Kd.C k61 w A0 l0.length l0) (hc0 : l0.length ≤ c0) (h : ancepsref40_Valid.f k l0 = some r) :
  Calls Try.prog 50 #[.slice A0 l0.length c0] w fun e w' => e = .returned (.int .i64 r) ∧ Below w.heap.size w w' := by
 have hu61 := Try.underlying61
 have HR0 := Aside0.mk hr0
 have HC0 := Aside0.mk hc0
 clear hr0 hc0
 have HB := Aside0.mk (Below.refl w.heap.size w)
 have H : (if (l0.length : Int) > 16 then (some 3) else (ancepsref40_Valid.l0 k l0 0)) = some r := h
 clear h
 by_cases c2 : (l0.length : Int) > 16
 ·rw [if_pos c2] at H
  have c2b0 : decide (16 < (l0.length : Int)) = true := decide_eq_true c2
  have c2b1 : decide (16 < l0.length) = true := decide_eq_true (by omega)
  clear c2
  obtain rfl := Option.some.inj H
  go_enter Try.func50, Try.ntmps50
  go_wp2
  go_ret
  exact ⟨by first | rfl | (simp [errW_none, errW_some] <;> rfl) | (simp [*, errW_none, errW_some] <;> rfl), by repeat (first | (with_reducible first | exact HB.out | apply below_alloc | apply pw_below_drewN | apply below_drew1) | exact HB.out)⟩
 ·rw [if_neg c2] at H
  have c2b0 : decide (16 < (l0.length : Int)) = false := decide_eq_false c2
  have c2b1 : decide (16 < l0.length) = false := decide_eq_false (by omega)
  clear c2
  have H' := Aside0.mk H
  clear H
  go_enter Try.func50, Try.ntmps50
  go_wp2
  go_loopg [3] k (fun kq v3 w' => ∃ (x3_1 : Int), v3 = .int .i64 x3_1 ∧ Aside0 (ancepsref40_Valid.l0 kq l0 x3_1 = some r) ∧ Aside0 (kq ≤ k) ∧ Aside0 (Below w.heap.size w w'))
  case atStart => exact ⟨(0), zT, H', ⟨Nat.le_refl _⟩, ⟨by repeat (first | (with_reducible first | exact HB.out | apply below_alloc | apply pw_below_drewN | apply below_drew1) | exact HB.out)⟩⟩
  case round =>
   clear H'
   try clear c2
   try clear c2b0
   try clear c2b1
   obtain ⟨x3_1, rfl, HA, HK1, HB⟩ := hrel
   cases gk with
   | zero => exact absurd HA.out (by simp [ancepsref40_Valid.l0])
   | succ k1 =>
    have H := HA.out
    clear HA
    simp only [ancepsref40_Valid.l0] at H
    by_cases c3 : x3_1 < (l0.length : Int)
    ·rw [if_pos c3] at H
     have c3b0 : decide (x3_1 < (l0.length : Int)) = true := decide_eq_true c3
     clear c3
     by_cases c4 : 0 ≤ x3_1
     ·rw [if_pos c4] at H
      have c4b0 : decide (0 ≤ x3_1) = true := decide_eq_true c4
      clear c4
      replace H := Option.bind_eq_some_iff.mp H
      obtain ⟨t375, A50, H⟩ := H
      replace H : (if t375 = 0 then (ancepsref40_Valid.l0 k1 l0 (wrap64 (x3_1 + 1))) else (some t375)) = some r := H
      have A5 := Aside0.mk A50
      clear A50
      have HC6 := Aside0.mk H
      clear H
      have p374 : 0 ≤ (x3_1 : Int) := of_decide_eq_true zh
      have q374 : x3_1 < (l0.length : Int) := of_decide_eq_true zh
      obtain ⟨ad374, A374_0, c374_0, A374_1, c374_1, e374, hx374_0, hx374_1, hl374_0, hi374_0, hl374_1, hi374_1⟩ := at_T61 HR0.out x3_1 p374 q374
      cases e374
      replace hx374_0 := (HB.out.cell (World.block_lt_of_cell? w _ hx374_0)).trans hx374_0
      replace hx374_1 := (HB.out.cell (World.block_lt_of_cell? w _ hx374_1)).trans hx374_1
      have HR374_0 := Aside0.mk hi374_0
      have HC374_0 := Aside0.mk hl374_0
      clear hi374_0 hl374_0
      have HR374_1 := Aside0.mk hi374_1
      have HC374_1 := Aside0.mk hl374_1
      clear hi374_1 hl374_1
      replace p374 := eq_true p374
      replace q374 := eq_true q374
      go_upto_if 20 with (first | ((with_reducible refine gate_callee (f := 75) rfl ?_); refine goesL_ (some 18) rfl rfl Try.func75 zK rfl #[.agg #[.slice A374_0 ((rd_T61 l0 x3_1).f0).length c374_0, .slice A374_1 ((rd_T61 l0 x3_1).f1).length c374_1]] rfl zM ?_; (with_reducible refine (ancepsref38_Valid.calls k1 _ _ ((rd_T61 l0 x3_1).f0) _ _ ((rd_T61 l0 x3_1).f1) t375 _ ?side1 ?side2 ?side3 ?side4 A5.out).mono ?_); (case side1 => repeat (first | exact (Kd.C_below HR374_0.out HB.out) | (with_reducible refine Kd.C_alloc ?_ _) | (with_reducible refine Kd.C_drewN ?_ _) | (with_reducible refine Kd.C_drew ?_))); (case side2 => exact HC374_0.out); (case side3 => repeat (first | exact (Kd.C_below HR374_1.out HB.out) | (with_reducible refine Kd.C_alloc ?_ _) | (with_reducible refine Kd.C_drewN ?_ _) | (with_reducible refine Kd.C_drew ?_))); (case side4 => exact HC374_1.out); rintro e w7 ⟨rfl, hb⟩; refine ⟨_, rfl, ?_⟩; have n0_ := Aside0.mk (below_step zB hb); clear HB; have HB := n0_; clear n0_; (try clear hb); (try clear hb2); (try clear hk); (try clear hi)))
      (try simp only [Act.put, List.setIfInBounds_toArray, List.set_cons_zero, List.set_cons_succ])
      have H := HC6.out
      clear HC6
      by_cases c8 : t375 = 0
      ·rw [if_pos c8] at H
       have c8b0 : (t375 == 0) = true := beq_iff_eq.mpr c8
       have c8b1 : (t375 != 0) = false := bne_eq_false_iff_eq.mpr c8
       clear c8
       (first | rw [c8b0] | (simp only [i64_w, i32_w]; rw [c8b0]) | skip)
       (try rw [c8b1])
       have H' := Aside0.mk H
       clear H
       go_wp2
       go_roundg k1
       case measure => have := HK1.out; omega
       case rel => exact ⟨(wrap64 (x3_1 + 1)), zT, H', ⟨by have := HK1.out; omega⟩, ⟨by repeat (first | (with_reducible first | exact HB.out | apply below_alloc | apply pw_below_drewN | apply below_drew1) | exact HB.out)⟩⟩
      ·rw [if_neg c8] at H
       have c8b0 : (t375 == 0) = false := beq_eq_false_iff_ne.mpr c8
       have c8b1 : (t375 != 0) = true := bne_iff_ne.mpr c8
       (first | rw [c8b0] | (simp only [i64_w, i32_w]; rw [c8b0]) | skip)
       (try rw [c8b1])
       obtain rfl := Option.some.inj H
       go_wp2
       go_ret
       exact ⟨by first | rfl | (simp [errW_none, errW_some] <;> rfl) | (simp [*, errW_none, errW_some] <;> rfl), by repeat (first | (with_reducible first | exact HB.out | apply below_alloc | apply pw_below_drewN | apply below_drew1) | exact HB.out)⟩
     ·rw [if_neg c4] at H
      exact absurd H (by simp)
    ·rw [if_neg c3] at H
     have c3b0 : decide (x3_1 < (l0.length : Int)) = false := decide_eq_false c3
     clear c3
     obtain rfl := Option.some.inj H
     go_wp2
     go_ret
     exact ⟨by first | rfl | (simp [errW_none, errW_some] <;> rfl) | (simp [*, errW_none, errW_some] <;> rfl), by repeat (first | (with_reducible first | exact HB.out | apply below_alloc | apply pw_below_drewN | apply below_drew1) | exact HB.out)⟩
end Go.Proofs.Ytbagnalcabdlhaa.S
