-- Written by wip/tools/myprint.py, a program of this session's.
import Derived.Test.YtbagnalcabdlhaaS0
import Derived.Test.YtbagnalcabdlhaaS7
import Derived.Test.YtbagnalcabdlhaaS8
import Derived.Test.YtbagnalcabdlhaaS13
namespace Go.Proofs.Ytbagnalcabdlhaa.S
open Go.RowKit Go.Proofs.YtbagnalcabdlhaaW.PrintWords Go.Proofs.YtbagnalcabdlhaaW.PrintLast Go.Proofs.YtbagnalcabdlhaaW.PrintMore
attribute [local go_sem] max2_int min2_int max_two min_two max_three min_three max_four min_four   -- for this text's walks alone
set_option linter.unusedVariables false
set_option linter.unusedSimpArgs false
/-! ### ancepsref40_Given: function 33 -/
def ancepsref40_Given.j0 : Nat → List (S61) → Int → Int → Bool → Option ((List (S61)) × Int)
 | 0, _, _, _, _ => none
 | k + 1, x0, x1, x2, x27 => if x27 = true then (some (([] : List (S61)), 6)) else (if (x0.length : Int) = 16 then (some (([] : List (S61)), 3)) else ((some (([] : List (S61)) : List (S61))).bind fun y423 => (if y423.length + x0.length < 2932031007402 then ((some (y423 ++ x0 : List (S61))).bind fun y426 => (if y426.length < 2932031007402 then (some ((y426 ++ [(⟨(([x1] : List Int)), (([x2] : List Int))⟩ : S61)]), 0)) else (none))) else (none))))
def ancepsref40_Given.f (k : Nat) (l0 : List (S61)) (a1 : Int) (a2 : Int) : Option ((List (S61)) × Int) := (ancepsref40_Valid.f k l0).bind fun t422 => (if t422 = 0 then (if a1 < 0 then (ancepsref40_Given.j0 k l0 a1 a2 true) else (if a1 > 23 then (ancepsref40_Given.j0 k l0 a1 a2 true) else (if a2 < 0 then (ancepsref40_Given.j0 k l0 a1 a2 true) else (ancepsref40_Given.j0 k l0 a1 a2 (decide (a2 > 1)))))) else (some (([] : List (S61)), t422)))
theorem ancepsref40_Given.mono_l : ∀ k, (∀ y0 y1 y2 y3, LeO (ancepsref40_Given.j0 k y0 y1 y2 y3) (ancepsref40_Given.j0 (k + 1) y0 y1 y2 y3))
 | 0 => fun _ _ _ _ r h => by simp [ancepsref40_Given.j0] at h
 | k + 1 => by
  have ih0 := ancepsref40_Given.mono_l k
  ·intro y0 y1 y2 y3
   unfold ancepsref40_Given.j0
   repeat' first
   | (with_reducible exact ih0 _ _ _ _)
   | (with_reducible exact ancepsref40_Valid.mono _ _)
   | (with_reducible exact LeO.refl _)
   | (with_reducible exact LeO.none _)
   | (with_reducible refine LeO.ite ?_ ?_)
   | (with_reducible refine LeO.bind ?_ (fun _ => ?_))
   | exact ih0 _ _ _ _
   | exact ancepsref40_Valid.mono _ _
   | exact LeO.none _
   | refine LeO.ite ?_ ?_
   | refine LeO.bind ?_ (fun _ => ?_)
theorem ancepsref40_Given.mono : ∀ a0 a1 a2 k, LeO (ancepsref40_Given.f k a0 a1 a2) (ancepsref40_Given.f (k + 1) a0 a1 a2) := by
 intro a0 a1 a2 k
 have ih0 := ancepsref40_Given.mono_l k
 unfold ancepsref40_Given.f
 repeat' first
   | (with_reducible exact ih0 _ _ _ _)
   | (with_reducible exact ancepsref40_Valid.mono _ _)
   | (with_reducible exact LeO.refl _)
   | (with_reducible exact LeO.none _)
   | (with_reducible refine LeO.ite ?_ ?_)
   | (with_reducible refine LeO.bind ?_ (fun _ => ?_))
   | exact ih0 _ _ _ _
   | exact ancepsref40_Valid.mono _ _
   | exact LeO.none _
   | refine LeO.ite ?_ ?_
   | refine LeO.bind ?_ (fun _ => ?_)
set_option maxHeartbeats 8000000 in
set_option maxRecDepth 100000 in
theorem ancepsref40_Given.calls (k : Nat) (P0_ : Nat → Prop) (A0 : Option Addr) (c0 : Nat) (l0 : List (S61)) (a1 : Int) (a2 : Int) (r1 : List (S61)) (r2 : Int) (w : World) (hs0 : Kd.V k61 61 w w.heap.size (fun k_ => P0_ k_) (.slice A0 l0.length c0) l0) (h : ancepsref40_Given.f k l0 a1 a2 = some (r1, r2)) :
  Calls Try.prog 33 #[.slice A0 l0.length c0, .int .i64 a1, .int .i64 a2] w fun e w' => ∃ v0_ : Value, e = .returned (.tuple #[v0_, .int .i64 r2]) ∧ Kd.N k61 61 w' w.heap.size (fun k_ => (P0_ k_ ∨ w.heap.size ≤ k_)) v0_ r1 ∧ Below w.heap.size w w' := by
 have hu61 := Try.underlying61
 have HO0 := Aside0.mk (show Kd.V k61 61 w w.heap.size (fun k_ => (P0_ k_ ∨ w.heap.size ≤ k_)) (.slice A0 l0.length c0) l0 from Kd.V_mono hs0 (fun k_ hk => .inl hk))
 have HB := Aside0.mk (Below.refl w.heap.size w)
 have H : ((ancepsref40_Valid.f k l0).bind fun t422 => (if t422 = 0 then (if a1 < 0 then (ancepsref40_Given.j0 k l0 a1 a2 true) else (if a1 > 23 then (ancepsref40_Given.j0 k l0 a1 a2 true) else (if a2 < 0 then (ancepsref40_Given.j0 k l0 a1 a2 true) else (ancepsref40_Given.j0 k l0 a1 a2 (decide (a2 > 1)))))) else (some (([] : List (S61)), t422)))) = some (r1, r2) := h
 clear h
 replace H := Option.bind_eq_some_iff.mp H
 obtain ⟨t422, A40, H⟩ := H
 replace H : (if t422 = 0 then (if a1 < 0 then (ancepsref40_Given.j0 k l0 a1 a2 true) else (if a1 > 23 then (ancepsref40_Given.j0 k l0 a1 a2 true) else (if a2 < 0 then (ancepsref40_Given.j0 k l0 a1 a2 true) else (ancepsref40_Given.j0 k l0 a1 a2 (decide (a2 > 1)))))) else (some (([] : List (S61)), t422))) = some (r1, r2) := H
 have A4 := Aside0.mk A40
 clear A40
 have HC5 := Aside0.mk H
 clear H
 go_enter Try.func33, Try.ntmps33
 go_upto_if 12 with (first | ((with_reducible refine gate_callee (f := 50) rfl ?_); refine goesL_ (some 10) rfl rfl Try.func50 zK rfl #[.slice A0 l0.length c0] rfl zM ?_; (with_reducible refine (ancepsref40_Valid.calls k _ _ l0 t422 _ ?side1 ?side2 A4.out).mono ?_); (case side1 => repeat (first | exact (Kd.V_reads' HO0.out).2.2 | (with_reducible refine Kd.C_alloc ?_ _) | (with_reducible refine Kd.C_drewN ?_ _) | (with_reducible refine Kd.C_drew ?_))); (case side2 => exact (Kd.V_reads' HO0.out).2.1); rintro e w6 ⟨rfl, hb⟩; refine ⟨_, rfl, ?_⟩; have n0_ := Aside0.mk (Kd.V_below (zV HO0) hb); have n1_ := Aside0.mk (below_step zB hb); clear HO0; clear HB; have HO0 := n0_; have HB := n1_; clear n0_ n1_; (try clear hb); (try clear hb2); (try clear hk); (try clear hi)))
 (try simp only [Act.put, List.setIfInBounds_toArray, List.set_cons_zero, List.set_cons_succ])
 have H := HC5.out
 clear HC5
 by_cases c7 : t422 = 0
 ·rw [if_pos c7] at H
  have c7b0 : (t422 == 0) = true := beq_iff_eq.mpr c7
  have c7b1 : (t422 != 0) = false := bne_eq_false_iff_eq.mpr c7
  clear c7
  (first | rw [c7b0] | (simp only [i64_w, i32_w]; rw [c7b0]) | skip)
  (try rw [c7b1])
  have HC8 := Aside0.mk H
  clear H
  go_upto_region 4 with (fail)
  go_cut [27] (fun v27 wc => ∃ (kq : Nat) (x27_7 : Bool), v27 = .bool x27_7 ∧ Aside0 (ancepsref40_Given.j0 kq l0 a1 a2 x27_7 = some (r1, r2)) ∧ Aside0 (kq ≤ k) ∧ Aside0 (Kd.V k61 61 wc w.heap.size (fun k_ => (P0_ k_ ∨ w.heap.size ≤ k_)) (.slice A0 l0.length c0) l0) ∧ Aside0 (Below w.heap.size w wc))
  case first =>
   have H := HC8.out
   clear HC8
   by_cases c9 : a1 < 0
   ·rw [if_pos c9] at H
    have c9b0 : decide (a1 < 0) = true := decide_eq_true c9
    clear c9
    (first | rw [c9b0] | (simp only [i64_w, i32_w]; rw [c9b0]) | skip)
    have H' := Aside0.mk H
    clear H
    go_wp2
    go_meet
    case rel => exact ⟨_, (true), zT, H', ⟨by first | omega | exact Nat.le_refl _⟩, ⟨by (with_reducible repeat (first | apply Kd.V_alloc | apply Kd.V_drewN | apply Kd.V_drew)); exact HO0.out⟩, ⟨by repeat (first | (with_reducible first | exact HB.out | apply below_alloc | apply pw_below_drewN | apply below_drew1) | exact HB.out)⟩⟩
   ·rw [if_neg c9] at H
    have c9b0 : decide (a1 < 0) = false := decide_eq_false c9
    clear c9
    (first | rw [c9b0] | (simp only [i64_w, i32_w]; rw [c9b0]) | skip)
    by_cases c10 : a1 > 23
    ·rw [if_pos c10] at H
     have c10b0 : decide (23 < a1) = true := decide_eq_true c10
     clear c10
     have H' := Aside0.mk H
     clear H
     go_wp2
     go_meet
     case rel => exact ⟨_, (true), zT, H', ⟨by first | omega | exact Nat.le_refl _⟩, ⟨by (with_reducible repeat (first | apply Kd.V_alloc | apply Kd.V_drewN | apply Kd.V_drew)); exact HO0.out⟩, ⟨by repeat (first | (with_reducible first | exact HB.out | apply below_alloc | apply pw_below_drewN | apply below_drew1) | exact HB.out)⟩⟩
    ·rw [if_neg c10] at H
     have c10b0 : decide (23 < a1) = false := decide_eq_false c10
     clear c10
     by_cases c11 : a2 < 0
     ·rw [if_pos c11] at H
      have c11b0 : decide (a2 < 0) = true := decide_eq_true c11
      clear c11
      have H' := Aside0.mk H
      clear H
      go_wp2
      go_meet
      case rel => exact ⟨_, (true), zT, H', ⟨by first | omega | exact Nat.le_refl _⟩, ⟨by (with_reducible repeat (first | apply Kd.V_alloc | apply Kd.V_drewN | apply Kd.V_drew)); exact HO0.out⟩, ⟨by repeat (first | (with_reducible first | exact HB.out | apply below_alloc | apply pw_below_drewN | apply below_drew1) | exact HB.out)⟩⟩
     ·rw [if_neg c11] at H
      have c11b0 : decide (a2 < 0) = false := decide_eq_false c11
      clear c11
      have H' := Aside0.mk H
      clear H
      go_wp2
      go_meet
      case rel => exact ⟨_, (decide (a2 > 1)), zT, H', ⟨by first | omega | exact Nat.le_refl _⟩, ⟨by (with_reducible repeat (first | apply Kd.V_alloc | apply Kd.V_drewN | apply Kd.V_drew)); exact HO0.out⟩, ⟨by repeat (first | (with_reducible first | exact HB.out | apply below_alloc | apply pw_below_drewN | apply below_drew1) | exact HB.out)⟩⟩
  case rest =>
   clear HC8
   try clear c7
   try clear c7b0
   try clear c7b1
   obtain ⟨kq, x27_7, rfl, HA, HJ7, HO_0, HB⟩ := hcut
   cases kq with
   | zero => exact absurd HA.out (by simp [ancepsref40_Given.j0])
   | succ kj7 =>
    have H := HA.out
    clear HA
    simp only [ancepsref40_Given.j0] at H
    by_cases c12 : x27_7 = true
    ·subst c12
     have H1 : (some (([] : List (S61)), 6)) = some (r1, r2) := by rw [if_pos rfl] at H; exact H
     clear H
     have H := H1
     clear H1
     simp only [Option.some.injEq, Prod.mk.injEq] at H
     obtain ⟨rfl, rfl⟩ := H
     go_wp2
     go_ret2
     exact ⟨_, by first | rfl | (simp [errW_none, errW_some] <;> rfl) | (simp [*, errW_none, errW_some] <;> rfl), by first | exact Kd.S_nil _ _ _ _ _ | exact Kd.N_nil _ _ _ _ _ | exact Kd.V_nil _ _ _ _ _ | exact Kd.Q_nil _ _ _ _ _ | exact Kd.R_nil _ _ _ _ _, by repeat (first | (with_reducible first | exact HB.out | apply below_alloc | apply pw_below_drewN | apply below_drew1) | exact HB.out)⟩
    ·replace c12 := Bool.eq_false_iff.mpr c12
     subst c12
     have H1 : (if (l0.length : Int) = 16 then (some (([] : List (S61)), 3)) else ((some (([] : List (S61)) : List (S61))).bind fun y423 => (if y423.length + l0.length < 2932031007402 then ((some (y423 ++ l0 : List (S61))).bind fun y426 => (if y426.length < 2932031007402 then (some ((y426 ++ [(⟨(([a1] : List Int)), (([a2] : List Int))⟩ : S61)]), 0)) else (none))) else (none)))) = some (r1, r2) := by rw [if_neg (show ¬ (false = true) by decide)] at H; exact H
     clear H
     have H := H1
     clear H1
     by_cases c13 : (l0.length : Int) = 16
     ·rw [if_pos c13] at H
      have c13b0 : ((l0.length : Int) == 16) = true := beq_iff_eq.mpr c13
      have c13b1 : ((l0.length : Int) != 16) = false := bne_eq_false_iff_eq.mpr c13
      clear c13
      simp only [Option.some.injEq, Prod.mk.injEq] at H
      obtain ⟨rfl, rfl⟩ := H
      go_wp2
      go_ret2
      exact ⟨_, by first | rfl | (simp [errW_none, errW_some] <;> rfl) | (simp [*, errW_none, errW_some] <;> rfl), by first | exact Kd.S_nil _ _ _ _ _ | exact Kd.N_nil _ _ _ _ _ | exact Kd.V_nil _ _ _ _ _ | exact Kd.Q_nil _ _ _ _ _ | exact Kd.R_nil _ _ _ _ _, by repeat (first | (with_reducible first | exact HB.out | apply below_alloc | apply pw_below_drewN | apply below_drew1) | exact HB.out)⟩
     ·rw [if_neg c13] at H
      have c13b0 : ((l0.length : Int) == 16) = false := beq_eq_false_iff_ne.mpr c13
      have c13b1 : ((l0.length : Int) != 16) = true := bne_iff_ne.mpr c13
      obtain ⟨y423, hy423⟩ : ∃ y_ : List (S61), y_ = (([] : List (S61))) := ⟨_, rfl⟩
      replace H : (if y423.length + l0.length < 2932031007402 then ((some (y423 ++ l0 : List (S61))).bind fun y426 => (if y426.length < 2932031007402 then (some ((y426 ++ [(⟨(([a1] : List Int)), (([a2] : List Int))⟩ : S61)]), 0)) else (none))) else (none)) = some (r1, r2) := by first | (rw [hy423]; with_reducible exact H) | (have H2_ := (Option.bind_some _ _).symm.trans H; rw [hy423]; with_reducible exact H2_) | (have H2_ := (Option.bind_some _ _).symm.trans H; with_reducible exact H2_) | with_reducible exact H | (rw [hy423]; exact H) | exact H
      have Ny423 := Aside0.mk hy423
      clear hy423
      by_cases c14 : y423.length + l0.length < 2932031007402
      ·rw [if_pos c14] at H
       have LMc14 := Aside0.mk c14
       clear c14
       obtain ⟨y426, hy426⟩ : ∃ y_ : List (S61), y_ = (y423 ++ l0) := ⟨_, rfl⟩
       replace H : (if y426.length < 2932031007402 then (some ((y426 ++ [(⟨(([a1] : List Int)), (([a2] : List Int))⟩ : S61)]), 0)) else (none)) = some (r1, r2) := by first | (rw [hy426]; with_reducible exact H) | (have H2_ := (Option.bind_some _ _).symm.trans H; rw [hy426]; with_reducible exact H2_) | (have H2_ := (Option.bind_some _ _).symm.trans H; with_reducible exact H2_) | with_reducible exact H | (rw [hy426]; exact H) | exact H
       have Ny426 := Aside0.mk hy426
       clear hy426
       obtain ⟨y429, hy429⟩ : ∃ y_ : List Int, y_ = (([a1] : List Int)) := ⟨_, rfl⟩
       replace H : (if y426.length < 2932031007402 then (some ((y426 ++ [(⟨y429, (([a2] : List Int))⟩ : S61)]), 0)) else (none)) = some (r1, r2) := by first | (rw [hy429]; with_reducible exact H) | (have H2_ := (Option.bind_some _ _).symm.trans H; rw [hy429]; with_reducible exact H2_) | (have H2_ := (Option.bind_some _ _).symm.trans H; with_reducible exact H2_) | with_reducible exact H | (rw [hy429]; exact H) | exact H
       have Ny429 := Aside0.mk hy429
       clear hy429
       obtain ⟨y432, hy432⟩ : ∃ y_ : List Int, y_ = (([a2] : List Int)) := ⟨_, rfl⟩
       replace H : (if y426.length < 2932031007402 then (some ((y426 ++ [(⟨y429, y432⟩ : S61)]), 0)) else (none)) = some (r1, r2) := by first | (rw [hy432]; with_reducible exact H) | (have H2_ := (Option.bind_some _ _).symm.trans H; rw [hy432]; with_reducible exact H2_) | (have H2_ := (Option.bind_some _ _).symm.trans H; with_reducible exact H2_) | with_reducible exact H | (rw [hy432]; exact H) | exact H
       have Ny432 := Aside0.mk hy432
       clear hy432
       by_cases c15 : y426.length < 2932031007402
       ·rw [if_pos c15] at H
        have LMc15 := Aside0.mk c15
        clear c15
        obtain ⟨y435, hy435⟩ : ∃ y_ : List (S61), y_ = (y426 ++ [(⟨y429, y432⟩ : S61)]) := ⟨_, rfl⟩
        replace H : (some (y435, 0)) = some (r1, r2) := by first | (rw [hy435]; with_reducible exact H) | (have H2_ := (Option.bind_some _ _).symm.trans H; rw [hy435]; with_reducible exact H2_) | (have H2_ := (Option.bind_some _ _).symm.trans H; with_reducible exact H2_) | with_reducible exact H | (rw [hy435]; exact H) | exact H
        have Ny435 := Aside0.mk hy435
        clear hy435
        simp only [Option.some.injEq, Prod.mk.injEq] at H
        obtain ⟨rfl, rfl⟩ := H
        go_wp2_with (first | ((with_reducible refine gate_dst (N := 31) rfl ?_); refine Kd.N_lit k61 _ 61 ?hg (N' := 31) ?hd (xs := ([] : List (S61))) (inner := []) (ok := (fun k_ => (P0_ k_ ∨ w.heap.size ≤ k_))) (okp := (fun k_ => (P0_ k_ ∨ w.heap.size ≤ k_))) ?hr ?hp (fun _ hk => hk) ((show ∀ k_, wc.heap.size ≤ k_ → (fun k_ => (P0_ k_ ∨ w.heap.size ≤ k_)) k_ from fun k_ hk => (.inr (Nat.le_trans (below_size zB) hk))) _ (Nat.le_refl _)) (Below.refl _ _) (Nat.le_refl _) (by simp) ?_; (case hd => rfl); (case hg => rfl); (case hr => first | (go_simp; done) | (go_simp; rfl)); (case hp => exact (Reps.none _ _)); intro v424 w16 ho17 hb hg_ hnew_; clear hg_ hnew_; (first | rw [← Ny423.out] at ho17 | (simp only [Int.reduceToNat] at ho17; rw [← Ny423.out] at ho17)); have n0_ := Aside0.mk (Kd.V_elder' (zV HO_0) (Kd.N_base ho17) hb); have n1_ := Aside0.mk (Kd.N_lower ho17 (below_size zB)); have n2_ := Aside0.mk (below_step zB hb); clear HO_0; clear HB; have HO_0 := n0_; have HO425 := n1_; have HB := n2_; clear n0_ n1_ n2_; clear hb ho17) | ((with_reducible refine gate_builtin (b := .append) (xs := #[.tmp 31, .tmp 32]) rfl ?_); at_builtin; refine Kd.N_append_rows k61 (w0 := w) w.heap.size rfl (.tmp 31) (.tmp 32) 22 61 (.agg #[(.slice none 0 0), (.slice none 0 0)]) 48 rfl Try.underlying22 info61 rfl (by decide) (by omega) v424 y423 l0 _ _ _ (fun k_ => (P0_ k_ ∨ w.heap.size ≤ k_)) (fun k_ => ((fun k_ => (P0_ k_ ∨ w.heap.size ≤ k_))) k_ ∧ some k_ ≠ (v424 : Value).ownBlock) rfl rfl ?aO ?aR (fun _ hk => hk) ?aF ?aB ?aS ?aL ?_; (case aR => exact (by skip; exact Kd.V_F (Kd.V_mono (ok' := (fun k_ => ((fun k_ => (P0_ k_ ∨ w.heap.size ≤ k_))) k_ ∧ some k_ ≠ (v424 : Value).ownBlock)) (HO_0.out) (fun k_ hk => ⟨hk.1, hk.2⟩)))); (case aB => exact zB); (case aF => exact (fun k_ hk => (.inr (Nat.le_trans (below_size zB) hk)))); (case aO => exact (zN HO425)); (case aS => exact (below_size zB)); (case aL => have := LMc14.out; omega); intro v427 w18 ho hb hg hat; rw [← Ny426.out] at ho; have n0_ := Aside0.mk (Kd.V_afterv (ok := (fun k_ => (P0_ k_ ∨ w.heap.size ≤ k_))) (zV HO_0) hg hat); have n1_ := Aside0.mk (hb); have n2_ := Aside0.mk (ho); clear HO_0; clear HB; clear HO425; have HO_0 := n0_; have HB := n1_; have HO428 := n2_; clear n0_ n1_ n2_; clear ho hb hg hat) | ((with_reducible refine gate_dst (N := 35) rfl ?_); refine Kd.R_lit (Kd.int .i64) _ 3 ?hg (N := 35) ?hd (xs := ([a1] : List Int)) (inner := [.int .i64 a1]) (ok := fun _ => True) (okp := fun _ => True) ?hr ?hp (fun _ hk => hk) trivial (Below.refl _ _) (Nat.le_refl _) (by simp) ?_; (case hd => rfl); (case hg => rfl); (case hr => first | (go_simp; done) | (go_simp; rfl)); (case hp => exact (Reps.one (show Kd.M (Kd.int .i64) _ _ _ a1 [.int .i64 a1] from rfl) (Reps.none _ _))); intro v430 w19 ho20 hb hg_ hnew_; clear hg_ hnew_; (first | rw [← Ny429.out] at ho20 | (simp only [Int.reduceToNat] at ho20; rw [← Ny429.out] at ho20)); have n0_ := Aside0.mk (Kd.V_elder' (zV HO_0) (Kd.R_base ho20) hb); have n1_ := Aside0.mk (Kd.N_elder' (zN HO428) (Kd.R_base ho20) hb); have n2_ := Aside0.mk (Kd.R_lower (Kd.R_newM (M := fun k_ => (w.heap.size ≤ k_)) ho20 (below_size zB) (fun k_ h_ => h_)) (below_size zB)); have n3_ := Aside0.mk (below_step zB hb); clear HO_0; clear HO428; clear HB; have HO_0 := n0_; have HO428 := n1_; have HO431 := n2_; have HB := n3_; clear n0_ n1_ n2_ n3_; clear hb ho20) | ((with_reducible refine gate_dst (N := 37) rfl ?_); refine Kd.R_lit (Kd.int .i64) _ 3 ?hg (N := 37) ?hd (xs := ([a2] : List Int)) (inner := [.int .i64 a2]) (ok := fun _ => True) (okp := fun _ => True) ?hr ?hp (fun _ hk => hk) trivial (Below.refl _ _) (Nat.le_refl _) (by simp) ?_; (case hd => rfl); (case hg => rfl); (case hr => first | (go_simp; done) | (go_simp; rfl)); (case hp => exact (Reps.one (show Kd.M (Kd.int .i64) _ _ _ a2 [.int .i64 a2] from rfl) (Reps.none _ _))); intro v433 w21 ho22 hb hg_ hnew_; clear hg_ hnew_; (first | rw [← Ny432.out] at ho22 | (simp only [Int.reduceToNat] at ho22; rw [← Ny432.out] at ho22)); have n0_ := Aside0.mk (Kd.V_elder' (zV HO_0) (Kd.R_base ho22) hb); have n1_ := Aside0.mk (Kd.N_elder' (zN HO428) (Kd.R_base ho22) hb); have n2_ := Aside0.mk (Kd.R_elder' (zR HO431) (Kd.R_base ho22) hb); have n3_ := Aside0.mk (Kd.R_lower (Kd.R_new' (Kd.R_newM (M := fun k_ => (w.heap.size ≤ k_)) ho22 (below_size zB) (fun k_ h_ => h_)) (Kd.R_lt (zR HO431))) (below_size zB)); have n4_ := Aside0.mk (below_step zB hb); clear HO_0; clear HO428; clear HO431; clear HB; have HO_0 := n0_; have HO428 := n1_; have HO431 := n2_; have HO434 := n3_; have HB := n4_; clear n0_ n1_ n2_ n3_ n4_; clear hb ho22; obtain ⟨Ao23, co23, eo23⟩ := Kd.R_slice HO434.out; subst eo23; obtain ⟨Ao24, co24, eo24⟩ := Kd.R_slice HO431.out; subst eo24) | ((with_reducible refine gate_builtin (b := .append) (xs := #[.tmp 33, .tmp 39]) rfl ?_); at_builtin; refine Kd.N_append k61 (w0 := w) w.heap.size rfl (.tmp 33) (.tmp 39) 22 61 (.agg #[(.slice none 0 0), (.slice none 0 0)]) 48 rfl Try.underlying22 info61 rfl (by decide) (by omega) v427 y426 (⟨y429, y432⟩ : S61) [.slice Ao24 y429.length co24, .slice Ao23 y432.length co23] (fun k_ => (P0_ k_ ∨ w.heap.size ≤ k_)) (fun k_ => ((fun k_ => (P0_ k_ ∨ w.heap.size ≤ k_))) k_ ∧ some k_ ≠ (v427 : Value).ownBlock) rfl rfl ?aP (fun _ hk => hk) ?aF ?aO ?aB ?aS ?aL ?_; (case aP => exact (k61_mkF _ _ (⟨y429, y432⟩ : S61) (Kd.R_reads' (Kd.R_mono (ok' := (fun k_ => ((fun k_ => (P0_ k_ ∨ w.heap.size ≤ k_))) k_ ∧ some k_ ≠ (v427 : Value).ownBlock)) (Kd.R_apart' (HO431.out) (Kd.N_typed HO428.out) (by decide)) (fun k_ hk => ⟨(.inr (hk.1.1.1)), hk.2⟩))).2.1 (Kd.R_F (Kd.R_mono (ok' := (fun k_ => ((fun k_ => (P0_ k_ ∨ w.heap.size ≤ k_))) k_ ∧ some k_ ≠ (v427 : Value).ownBlock)) (Kd.R_apart' (HO431.out) (Kd.N_typed HO428.out) (by decide)) (fun k_ hk => ⟨(.inr (hk.1.1.1)), hk.2⟩))) (Kd.R_reads' (Kd.R_mono (ok' := (fun k_ => ((fun k_ => (P0_ k_ ∨ w.heap.size ≤ k_))) k_ ∧ some k_ ≠ (v427 : Value).ownBlock)) (Kd.R_apart' (HO434.out) (Kd.N_typed HO428.out) (by decide)) (fun k_ hk => ⟨(.inr (hk.1.1.1)), hk.2⟩))).2.1 (Kd.R_F (Kd.R_mono (ok' := (fun k_ => ((fun k_ => (P0_ k_ ∨ w.heap.size ≤ k_))) k_ ∧ some k_ ≠ (v427 : Value).ownBlock)) (Kd.R_apart' (HO434.out) (Kd.N_typed HO428.out) (by decide)) (fun k_ hk => ⟨(.inr (hk.1.1.1)), hk.2⟩))))); (case aB => exact zB); (case aF => exact (fun k_ hk => (.inr (Nat.le_trans (below_size zB) hk)))); (case aO => exact (by (with_reducible repeat (first | apply Kd.N_alloc | apply Kd.N_drewN | apply Kd.N_drew)); exact Kd.N_mono HO428.out (fun _ hk => hk.1.1))); (case aS => exact (below_size zB)); (case aL => have := LMc15.out; omega); intro v436 w25 ho hb hg hat; rw [← Ny435.out] at ho; have n0_ := Aside0.mk (Kd.V_afterv (ok := (fun k_ => (P0_ k_ ∨ w.heap.size ≤ k_) ∧ some k_ ≠ (.slice Ao24 y429.length co24 : Value).ownBlock ∧ some k_ ≠ (.slice Ao23 y432.length co23 : Value).ownBlock)) (by (with_reducible repeat (first | apply Kd.V_alloc | apply Kd.V_drewN | apply Kd.V_drew)); exact Kd.V_mono HO_0.out (fun _ hk => ⟨⟨hk.1.1.1, ⟨hk.1.2, hk.2⟩⟩, hk.1.1.2⟩)) hg hat); have n1_ := Aside0.mk (hb); have n2_ := Aside0.mk (ho); clear HO_0; clear HB; clear HO428; clear HO431; clear HO434; have HO_0 := n0_; have HB := n1_; have HO437 := n2_; clear n0_ n1_ n2_; clear ho hb hg hat))
        go_ret2
        exact ⟨_, by first | rfl | (simp [errW_none, errW_some] <;> rfl) | (simp [*, errW_none, errW_some] <;> rfl), by (with_reducible repeat (first | apply Kd.N_alloc | apply Kd.N_drewN | apply Kd.N_drew)); exact HO437.out, by repeat (first | (with_reducible first | exact HB.out | apply below_alloc | apply pw_below_drewN | apply below_drew1) | exact HB.out)⟩
       ·rw [if_neg c15] at H
        exact absurd H (by simp)
      ·rw [if_neg c14] at H
       exact absurd H (by simp)
 ·rw [if_neg c7] at H
  have c7b0 : (t422 == 0) = false := beq_eq_false_iff_ne.mpr c7
  have c7b1 : (t422 != 0) = true := bne_iff_ne.mpr c7
  (first | rw [c7b0] | (simp only [i64_w, i32_w]; rw [c7b0]) | skip)
  (try rw [c7b1])
  simp only [Option.some.injEq, Prod.mk.injEq] at H
  obtain ⟨rfl, rfl⟩ := H
  go_wp2
  go_ret2
  exact ⟨_, by first | rfl | (simp [errW_none, errW_some] <;> rfl) | (simp [*, errW_none, errW_some] <;> rfl), by first | exact Kd.S_nil _ _ _ _ _ | exact Kd.N_nil _ _ _ _ _ | exact Kd.V_nil _ _ _ _ _ | exact Kd.Q_nil _ _ _ _ _ | exact Kd.R_nil _ _ _ _ _, by repeat (first | (with_reducible first | exact HB.out | apply below_alloc | apply pw_below_drewN | apply below_drew1) | exact HB.out)⟩
/-! ### ancepsref38_Lists: function 95 -/
def ancepsref38_Lists.l0 : Nat → List Int → List Int → Int → Option (Bool)
 | 0, _, _, _ => none
 | k + 1, x0, x1, x5 => if x5 < (x0.length : Int) then (if 0 ≤ x5 then (if x5 < (x1.length : Int) then (if (rd x0 x5) = (rd x1 x5) then (ancepsref38_Lists.l0 k x0 x1 (wrap64 (x5 + 1))) else (some false)) else (none)) else (none)) else (some true)
def ancepsref38_Lists.f (k : Nat) (l0 : List Int) (l1 : List Int) : Option (Bool) := if (l0.length : Int) = (l1.length : Int) then (ancepsref38_Lists.l0 k l0 l1 0) else (some false)
theorem ancepsref38_Lists.mono_l : ∀ k, (∀ y0 y1 y2, LeO (ancepsref38_Lists.l0 k y0 y1 y2) (ancepsref38_Lists.l0 (k + 1) y0 y1 y2))
 | 0 => fun _ _ _ r h => by simp [ancepsref38_Lists.l0] at h
 | k + 1 => by
  have ih0 := ancepsref38_Lists.mono_l k
  ·intro y0 y1 y2
   unfold ancepsref38_Lists.l0
   repeat' first
   | (with_reducible exact ih0 _ _ _)
   | (with_reducible exact LeO.refl _)
   | (with_reducible exact LeO.none _)
   | (with_reducible refine LeO.ite ?_ ?_)
   | (with_reducible refine LeO.bind ?_ (fun _ => ?_))
   | exact ih0 _ _ _
   | exact LeO.none _
   | refine LeO.ite ?_ ?_
   | refine LeO.bind ?_ (fun _ => ?_)
theorem ancepsref38_Lists.mono : ∀ a0 a1 k, LeO (ancepsref38_Lists.f k a0 a1) (ancepsref38_Lists.f (k + 1) a0 a1) := by
 intro a0 a1 k
 have ih0 := ancepsref38_Lists.mono_l k
 unfold ancepsref38_Lists.f
 repeat' first
   | (with_reducible exact ih0 _ _ _)
   | (with_reducible exact LeO.refl _)
   | (with_reducible exact LeO.none _)
   | (with_reducible refine LeO.ite ?_ ?_)
   | (with_reducible refine LeO.bind ?_ (fun _ => ?_))
   | exact ih0 _ _ _
   | exact LeO.none _
   | refine LeO.ite ?_ ?_
   | refine LeO.bind ?_ (fun _ => ?_)
set_option maxHeartbeats 8000000 in
set_option maxRecDepth 100000 in
theorem ancepsref38_Lists.calls (k : Nat) (A0 : Option Addr) (c0 : Nat) (l0 : List Int) (A1 : Option Addr) (c1 : Nat) (l1 : List Int) (r : Bool) (w : World) (hr0 : Kd.C (Kd.int .i64) w A0 l0.length l0) (hc0 : l0.length ≤ c0) (hr1 : Kd.C (Kd.int .i64) w A1 l1.length l1) (hc1 : l1.length ≤ c1) (h : ancepsref38_Lists.f k l0 l1 = some r) :
  Calls Try.prog 95 #[.slice A0 l0.length c0, .slice A1 l1.length c1] w fun e w' => e = .returned (.bool r) ∧ Drawn0 w w' := by
 have hu3 := Try.underlying3
 have HR0 := Aside0.mk hr0
 have HC0 := Aside0.mk hc0
 clear hr0 hc0
 have HR1 := Aside0.mk hr1
 have HC1 := Aside0.mk hc1
 clear hr1 hc1
 have H : (if (l0.length : Int) = (l1.length : Int) then (ancepsref38_Lists.l0 k l0 l1 0) else (some false)) = some r := h
 clear h
 by_cases c3 : (l0.length : Int) = (l1.length : Int)
 ·rw [if_pos c3] at H
  have c3b0 : ((l0.length : Int) == (l1.length : Int)) = true := beq_iff_eq.mpr c3
  have c3b1 : ((l0.length : Int) != (l1.length : Int)) = false := bne_eq_false_iff_eq.mpr c3
  have c3b2 : (l0.length == l1.length) = true := by first | simpa using c3 | (simp at c3 ⊢; omega)
  clear c3
  have H' := Aside0.mk H
  clear H
  go_enter Try.func95, Try.ntmps95
  go_wp2
  repeat (go_quiet (fail); try go_wp2)
  go_loopg [5] k (fun kq v5 w' => ∃ (x5_1 : Int), v5 = .int .i64 x5_1 ∧ Aside0 (ancepsref38_Lists.l0 kq l0 l1 x5_1 = some r) ∧ Aside0 (kq ≤ k) ∧ Drawn0 w w')
  case atStart => exact ⟨(0), zT, H', ⟨Nat.le_refl _⟩, by repeat (first | exact Drawn0.refl _ | apply Drawn0.step)⟩
  case round =>
   clear H'
   try clear c3
   try clear c3b0
   try clear c3b1
   try clear c3b2
   obtain ⟨x5_1, rfl, HA, HK1, ⟨m1, rfl⟩⟩ := hrel
   cases gk with
   | zero => exact absurd HA.out (by simp [ancepsref38_Lists.l0])
   | succ k1 =>
    have H := HA.out
    clear HA
    simp only [ancepsref38_Lists.l0] at H
    by_cases c4 : x5_1 < (l0.length : Int)
    ·rw [if_pos c4] at H
     have c4b0 : decide (x5_1 < (l0.length : Int)) = true := decide_eq_true c4
     clear c4
     by_cases c5 : 0 ≤ x5_1
     ·rw [if_pos c5] at H
      have c5b0 : decide (0 ≤ x5_1) = true := decide_eq_true c5
      clear c5
      by_cases c6 : x5_1 < (l1.length : Int)
      ·rw [if_pos c6] at H
       have c6b0 : decide (x5_1 < (l1.length : Int)) = true := decide_eq_true c6
       clear c6
       by_cases c7 : (rd l0 x5_1) = (rd l1 x5_1)
       ·rw [if_pos c7] at H
        have c7b0 : ((rd l0 x5_1) == (rd l1 x5_1)) = true := beq_iff_eq.mpr c7
        have c7b1 : ((rd l0 x5_1) != (rd l1 x5_1)) = false := bne_eq_false_iff_eq.mpr c7
        clear c7
        have H' := Aside0.mk H
        clear H
        have p438 : 0 ≤ (x5_1 : Int) := of_decide_eq_true zh
        have q438 : x5_1 < (l0.length : Int) := of_decide_eq_true zh
        obtain ⟨ad438, e438, hx438_0⟩ := Kd.at_int HR0.out x5_1 p438 q438
        cases e438
        replace p438 := eq_true p438
        replace q438 := eq_true q438
        have p439 : 0 ≤ (x5_1 : Int) := of_decide_eq_true zh
        have q439 : x5_1 < (l1.length : Int) := of_decide_eq_true zh
        obtain ⟨ad439, e439, hx439_0⟩ := Kd.at_int HR1.out x5_1 p439 q439
        cases e439
        replace p439 := eq_true p439
        replace q439 := eq_true q439
        go_wp2
        repeat (go_quiet (fail); try go_wp2)
        go_roundg k1
        case measure => have := HK1.out; omega
        case rel => exact ⟨(wrap64 (x5_1 + 1)), zT, H', ⟨by have := HK1.out; omega⟩, by repeat (first | exact Drawn0.refl _ | apply Drawn0.step)⟩
       ·rw [if_neg c7] at H
        have c7b0 : ((rd l0 x5_1) == (rd l1 x5_1)) = false := beq_eq_false_iff_ne.mpr c7
        have c7b1 : ((rd l0 x5_1) != (rd l1 x5_1)) = true := bne_iff_ne.mpr c7
        obtain rfl := Option.some.inj H
        have p438 : 0 ≤ (x5_1 : Int) := of_decide_eq_true zh
        have q438 : x5_1 < (l0.length : Int) := of_decide_eq_true zh
        obtain ⟨ad438, e438, hx438_0⟩ := Kd.at_int HR0.out x5_1 p438 q438
        cases e438
        replace p438 := eq_true p438
        replace q438 := eq_true q438
        have p439 : 0 ≤ (x5_1 : Int) := of_decide_eq_true zh
        have q439 : x5_1 < (l1.length : Int) := of_decide_eq_true zh
        obtain ⟨ad439, e439, hx439_0⟩ := Kd.at_int HR1.out x5_1 p439 q439
        cases e439
        replace p439 := eq_true p439
        replace q439 := eq_true q439
        go_wp2
        repeat (go_quiet (fail); try go_wp2)
        go_ret
        exact ⟨by first | rfl | (simp; done) | (simp [*]; done), by repeat (first | exact Drawn0.refl _ | apply Drawn0.step)⟩
      ·rw [if_neg c6] at H
       exact absurd H (by simp)
     ·rw [if_neg c5] at H
      exact absurd H (by simp)
    ·rw [if_neg c4] at H
     have c4b0 : decide (x5_1 < (l0.length : Int)) = false := decide_eq_false c4
     clear c4
     obtain rfl := Option.some.inj H
     go_wp2
     repeat (go_quiet (fail); try go_wp2)
     go_ret
     exact ⟨by first | rfl | (simp; done) | (simp [*]; done), by repeat (first | exact Drawn0.refl _ | apply Drawn0.step)⟩
 ·rw [if_neg c3] at H
  have c3b0 : ((l0.length : Int) == (l1.length : Int)) = false := beq_eq_false_iff_ne.mpr c3
  have c3b1 : ((l0.length : Int) != (l1.length : Int)) = true := bne_iff_ne.mpr c3
  have c3b2 : (l0.length == l1.length) = false := by first | simpa using c3 | (simp at c3 ⊢; omega)
  obtain rfl := Option.some.inj H
  go_enter Try.func95, Try.ntmps95
  go_wp2
  repeat (go_quiet (fail); try go_wp2)
  go_ret
  exact ⟨by first | rfl | (simp; done) | (simp [*]; done), by repeat (first | exact Drawn0.refl _ | apply Drawn0.step)⟩
/-! ### ancepsref38_Equal: function 64 -/
def ancepsref38_Equal.f (k : Nat) (l0_0 : List Int) (l0_1 : List Int) (l1_0 : List Int) (l1_1 : List Int) : Option (Bool) := (ancepsref38_Lists.f k l0_0 l1_0).bind fun t442 => (if t442 = true then ((ancepsref38_Lists.f k l0_1 l1_1).bind fun t443 => (some t443)) else (some false))
theorem ancepsref38_Equal.mono : ∀ a0 a1 a2 a3 k, LeO (ancepsref38_Equal.f k a0 a1 a2 a3) (ancepsref38_Equal.f (k + 1) a0 a1 a2 a3) := by
 intro a0 a1 a2 a3 k
 unfold ancepsref38_Equal.f
 repeat' first
   | (with_reducible exact ancepsref38_Lists.mono _ _ _)
   | (with_reducible exact LeO.refl _)
   | (with_reducible exact LeO.none _)
   | (with_reducible refine LeO.ite ?_ ?_)
   | (with_reducible refine LeO.bind ?_ (fun _ => ?_))
   | exact ancepsref38_Lists.mono _ _ _
   | exact LeO.none _
   | refine LeO.ite ?_ ?_
   | refine LeO.bind ?_ (fun _ => ?_)
set_option maxHeartbeats 8000000 in
set_option maxRecDepth 100000 in
theorem ancepsref38_Equal.calls (k : Nat) (A0_0 : Option Addr) (c0_0 : Nat) (l0_0 : List Int) (A0_1 : Option Addr) (c0_1 : Nat) (l0_1 : List Int) (A1_0 : Option Addr) (c1_0 : Nat) (l1_0 : List Int) (A1_1 : Option Addr) (c1_1 : Nat) (l1_1 : List Int) (r : Bool) (w : World) (hr0_0 : Kd.C (Kd.int .i64) w A0_0 l0_0.length l0_0) (hc0_0 : l0_0.length ≤ c0_0) (hr0_1 : Kd.C (Kd.int .i64) w A0_1 l0_1.length l0_1) (hc0_1 : l0_1.length ≤ c0_1) (hr1_0 : Kd.C (Kd.int .i64) w A1_0 l1_0.length l1_0) (hc1_0 : l1_0.length ≤ c1_0) (hr1_1 : Kd.C (Kd.int .i64) w A1_1 l1_1.length l1_1) (hc1_1 : l1_1.length ≤ c1_1) (h : ancepsref38_Equal.f k l0_0 l0_1 l1_0 l1_1 = some r) :
  Calls Try.prog 64 #[.agg #[.slice A0_0 l0_0.length c0_0, .slice A0_1 l0_1.length c0_1], .agg #[.slice A1_0 l1_0.length c1_0, .slice A1_1 l1_1.length c1_1]] w fun e w' => e = .returned (.bool r) ∧ Below w.heap.size w w' := by
 have hu61 := Try.underlying61
 have hu42 := Try.underlying42
 have HR0_0 := Aside0.mk hr0_0
 have HC0_0 := Aside0.mk hc0_0
 clear hr0_0 hc0_0
 have HR0_1 := Aside0.mk hr0_1
 have HC0_1 := Aside0.mk hc0_1
 clear hr0_1 hc0_1
 have HR1_0 := Aside0.mk hr1_0
 have HC1_0 := Aside0.mk hc1_0
 clear hr1_0 hc1_0
 have HR1_1 := Aside0.mk hr1_1
 have HC1_1 := Aside0.mk hc1_1
 clear hr1_1 hc1_1
 have HB := Aside0.mk (Below.refl w.heap.size w)
 have H : ((ancepsref38_Lists.f k l0_0 l1_0).bind fun t442 => (if t442 = true then ((ancepsref38_Lists.f k l0_1 l1_1).bind fun t443 => (some t443)) else (some false))) = some r := h
 clear h
 have HC3 := Aside0.mk H
 clear H
 go_enter Try.func64, Try.ntmps64
 go_upto_region 1 with (first | ((with_reducible refine gate_dst (N := 2) rfl ?_); refine box_event ?hg (N := 2) ?hd (cs := #[.slice A0_0 l0_0.length c0_0, .slice A0_1 l0_1.length c0_1]) (t := 61) ?hr ?_; (case hd => rfl); (case hg => rfl); (case hr => first | (go_simp; done) | (go_simp; rfl)); intro gb440 hg w4 hbox hb; have n0_ := Aside0.mk (below_step zB hb); have n1_ := Aside0.mk (hbox); have n2_ := Aside0.mk ((by rw [hg]; exact (below_size zB) : w.heap.size ≤ gb440)); have n3_ := Aside0.mk ((by rw [hg]; exact (below_size zB) : w.heap.size ≤ gb440)); clear HB; have HB := n0_; have BK440 := n1_; have GW440 := n2_; have GE440 := n3_; clear n0_ n1_ n2_ n3_; clear hb hbox hg) | ((with_reducible refine gate_dst (N := 3) rfl ?_); refine box_event ?hg (N := 3) ?hd (cs := #[.slice A1_0 l1_0.length c1_0, .slice A1_1 l1_1.length c1_1]) (t := 61) ?hr ?_; (case hd => rfl); (case hg => rfl); (case hr => first | (go_simp; done) | (go_simp; rfl)); intro gb441 hg w5 hbox hb; have n0_ := Aside0.mk (blk_below (g := gb440) (o := .cells #[.slice A0_0 l0_0.length c0_0, .slice A0_1 l0_1.length c0_1] 61 (0, 0)) (zk BK440) hb); have n1_ := Aside0.mk (below_step zB hb); have n2_ := Aside0.mk (hbox); have n3_ := Aside0.mk ((by rw [hg]; exact (below_size zB) : w.heap.size ≤ gb441)); have n4_ := Aside0.mk ((by rw [hg]; exact (below_size zB) : w.heap.size ≤ gb441)); have n5_ := Aside0.mk ((by rw [hg]; exact Nat.ne_of_lt (blk_lt (g := gb440) (o := .cells #[.slice A0_0 l0_0.length c0_0, .slice A0_1 l0_1.length c0_1] 61 (0, 0)) (zk BK440)) : gb440 ≠ gb441)); have n6_ := Aside0.mk ((by rw [hg]; exact Nat.ne_of_gt (blk_lt (g := gb440) (o := .cells #[.slice A0_0 l0_0.length c0_0, .slice A0_1 l0_1.length c0_1] 61 (0, 0)) (zk BK440)) : gb441 ≠ gb440)); clear BK440; clear HB; have BK440 := n0_; have HB := n1_; have BK441 := n2_; have GW441 := n3_; have GE441 := n4_; have NB440_441 := n5_; have NB441_440 := n6_; clear n0_ n1_ n2_ n3_ n4_ n5_ n6_; clear hb hbox hg))
 (try simp only [Act.put, List.setIfInBounds_toArray, List.set_cons_zero, List.set_cons_succ])
 have H := HC3.out
 clear HC3
 replace H := Option.bind_eq_some_iff.mp H
 obtain ⟨t442, A60, H⟩ := H
 replace H : (if t442 = true then ((ancepsref38_Lists.f k l0_1 l1_1).bind fun t443 => (some t443)) else (some false)) = some r := H
 have A6 := Aside0.mk A60
 clear A60
 by_cases c7 : t442 = true
 ·subst c7
  have H1 : ((ancepsref38_Lists.f k l0_1 l1_1).bind fun t443 => (some t443)) = some r := by rw [if_pos rfl] at H; exact H
  clear H
  have H := H1
  clear H1
  replace H := Option.bind_eq_some_iff.mp H
  obtain ⟨t443, A80, H⟩ := H
  replace H : (some t443) = some r := H
  have A8 := Aside0.mk A80
  clear A80
  obtain rfl := Option.some.inj H
  have hnb9 := NB440_441.out
  have hnc9 := NB441_440.out
  have hcz10_0 : w5.cell? ⟨gb440, 0, none⟩ = some (.slice A0_0 l0_0.length c0_0) := (blk_cell BK440.out 0).trans rfl
  have hcz10_1 : w5.cell? ⟨gb440, 1, none⟩ = some (.slice A0_1 l0_1.length c0_1) := (blk_cell BK440.out 1).trans rfl
  have hfz10_0 := blk_frozen BK440.out 0
  have hfz10_1 := blk_frozen BK440.out 1
  have hcz11_0 : w5.cell? ⟨gb441, 0, none⟩ = some (.slice A1_0 l1_0.length c1_0) := (blk_cell BK441.out 0).trans rfl
  have hcz11_1 : w5.cell? ⟨gb441, 1, none⟩ = some (.slice A1_1 l1_1.length c1_1) := (blk_cell BK441.out 1).trans rfl
  have hfz11_0 := blk_frozen BK441.out 0
  have hfz11_1 := blk_frozen BK441.out 1
  go_wp2_with (first | ((with_reducible refine gate_callee (f := 95) rfl ?_); refine goesL_ (some 9) rfl rfl Try.func95 zK rfl #[.slice A0_0 l0_0.length c0_0, .slice A1_0 l1_0.length c1_0] rfl zM ?_; (with_reducible refine (ancepsref38_Lists.calls k _ _ l0_0 _ _ l1_0 true _ ?side1 ?side2 ?side3 ?side4 A6.out).mono ?_); (case side1 => repeat (first | exact (Kd.C_below HR0_0.out HB.out) | (with_reducible refine Kd.C_alloc ?_ _) | (with_reducible refine Kd.C_drewN ?_ _) | (with_reducible refine Kd.C_drew ?_))); (case side2 => exact HC0_0.out); (case side3 => repeat (first | exact (Kd.C_below HR1_0.out HB.out) | (with_reducible refine Kd.C_alloc ?_ _) | (with_reducible refine Kd.C_drewN ?_ _) | (with_reducible refine Kd.C_drew ?_))); (case side4 => exact HC1_0.out); rintro e w' ⟨rfl, ⟨nd, rfl⟩⟩; refine ⟨_, rfl, ?_⟩) | (go_at_call 95; (with_reducible refine (ancepsref38_Lists.calls k _ _ l0_1 _ _ l1_1 t443 _ ?side1 ?side2 ?side3 ?side4 A8.out).mono ?_); (case side1 => repeat (first | exact (Kd.C_below HR0_1.out zB) | (with_reducible refine Kd.C_alloc ?_ _) | (with_reducible refine Kd.C_drewN ?_ _) | (with_reducible refine Kd.C_drew ?_))); (case side2 => exact HC0_1.out); (case side3 => repeat (first | exact (Kd.C_below HR1_1.out zB) | (with_reducible refine Kd.C_alloc ?_ _) | (with_reducible refine Kd.C_drewN ?_ _) | (with_reducible refine Kd.C_drew ?_))); (case side4 => exact HC1_1.out); rintro e w' ⟨rfl, ⟨nd, rfl⟩⟩))
  go_ret
  exact ⟨by first | rfl | (simp [errW_none, errW_some] <;> rfl) | (simp [*, errW_none, errW_some] <;> rfl), by repeat (first | (with_reducible first | exact HB.out | apply below_alloc | apply pw_below_drewN | apply below_drew1 | refine below_set ?_ GE440.out | refine below_set ?_ GE441.out) | exact HB.out)⟩
 ·replace c7 := Bool.eq_false_iff.mpr c7
  subst c7
  have H1 : (some false) = some r := by rw [if_neg (show ¬ (false = true) by decide)] at H; exact H
  clear H
  have H := H1
  clear H1
  obtain rfl := Option.some.inj H
  have hnb12 := NB440_441.out
  have hnc12 := NB441_440.out
  have hcz13_0 : w5.cell? ⟨gb440, 0, none⟩ = some (.slice A0_0 l0_0.length c0_0) := (blk_cell BK440.out 0).trans rfl
  have hcz13_1 : w5.cell? ⟨gb440, 1, none⟩ = some (.slice A0_1 l0_1.length c0_1) := (blk_cell BK440.out 1).trans rfl
  have hfz13_0 := blk_frozen BK440.out 0
  have hfz13_1 := blk_frozen BK440.out 1
  have hcz14_0 : w5.cell? ⟨gb441, 0, none⟩ = some (.slice A1_0 l1_0.length c1_0) := (blk_cell BK441.out 0).trans rfl
  have hcz14_1 : w5.cell? ⟨gb441, 1, none⟩ = some (.slice A1_1 l1_1.length c1_1) := (blk_cell BK441.out 1).trans rfl
  have hfz14_0 := blk_frozen BK441.out 0
  have hfz14_1 := blk_frozen BK441.out 1
  go_wp2_with (first | ((with_reducible refine gate_callee (f := 95) rfl ?_); refine goesL_ (some 9) rfl rfl Try.func95 zK rfl #[.slice A0_0 l0_0.length c0_0, .slice A1_0 l1_0.length c1_0] rfl zM ?_; (with_reducible refine (ancepsref38_Lists.calls k _ _ l0_0 _ _ l1_0 false _ ?side1 ?side2 ?side3 ?side4 A6.out).mono ?_); (case side1 => repeat (first | exact (Kd.C_below HR0_0.out HB.out) | (with_reducible refine Kd.C_alloc ?_ _) | (with_reducible refine Kd.C_drewN ?_ _) | (with_reducible refine Kd.C_drew ?_))); (case side2 => exact HC0_0.out); (case side3 => repeat (first | exact (Kd.C_below HR1_0.out HB.out) | (with_reducible refine Kd.C_alloc ?_ _) | (with_reducible refine Kd.C_drewN ?_ _) | (with_reducible refine Kd.C_drew ?_))); (case side4 => exact HC1_0.out); rintro e w' ⟨rfl, ⟨nd, rfl⟩⟩; refine ⟨_, rfl, ?_⟩))
  go_ret
  exact ⟨by first | rfl | (simp [errW_none, errW_some] <;> rfl) | (simp [*, errW_none, errW_some] <;> rfl), by repeat (first | (with_reducible first | exact HB.out | apply below_alloc | apply pw_below_drewN | apply below_drew1 | refine below_set ?_ GE440.out | refine below_set ?_ GE441.out) | exact HB.out)⟩
/-! ### ancepsref40_SameTables: function 34 -/
def ancepsref40_SameTables.l0 : Nat → List (S61) → List (S61) → Int → Option (Bool)
 | 0, _, _, _ => none
 | k + 1, x0, x1, x5 => if x5 < (x0.length : Int) then (if 0 ≤ x5 then (if x5 < (x1.length : Int) then ((ancepsref38_Equal.f k ((rd_T61 x0 x5).f0) ((rd_T61 x0 x5).f1) ((rd_T61 x1 x5).f0) ((rd_T61 x1 x5).f1)).bind fun t446 => (if t446 = true then (ancepsref40_SameTables.l0 k x0 x1 (wrap64 (x5 + 1))) else (some false))) else (none)) else (none)) else (some true)
def ancepsref40_SameTables.f (k : Nat) (l0 : List (S61)) (l1 : List (S61)) : Option (Bool) := if (l0.length : Int) = (l1.length : Int) then (ancepsref40_SameTables.l0 k l0 l1 0) else (some false)
theorem ancepsref40_SameTables.mono_l : ∀ k, (∀ y0 y1 y2, LeO (ancepsref40_SameTables.l0 k y0 y1 y2) (ancepsref40_SameTables.l0 (k + 1) y0 y1 y2))
 | 0 => fun _ _ _ r h => by simp [ancepsref40_SameTables.l0] at h
 | k + 1 => by
  have ih0 := ancepsref40_SameTables.mono_l k
  ·intro y0 y1 y2
   unfold ancepsref40_SameTables.l0
   repeat' first
   | (with_reducible exact ih0 _ _ _)
   | (with_reducible exact ancepsref38_Equal.mono _ _ _ _ _)
   | (with_reducible exact LeO.refl _)
   | (with_reducible exact LeO.none _)
   | (with_reducible refine LeO.ite ?_ ?_)
   | (with_reducible refine LeO.bind ?_ (fun _ => ?_))
   | exact ih0 _ _ _
   | exact ancepsref38_Equal.mono _ _ _ _ _
   | exact LeO.none _
   | refine LeO.ite ?_ ?_
   | refine LeO.bind ?_ (fun _ => ?_)
theorem ancepsref40_SameTables.mono : ∀ a0 a1 k, LeO (ancepsref40_SameTables.f k a0 a1) (ancepsref40_SameTables.f (k + 1) a0 a1) := by
 intro a0 a1 k
 have ih0 := ancepsref40_SameTables.mono_l k
 unfold ancepsref40_SameTables.f
 repeat' first
   | (with_reducible exact ih0 _ _ _)
   | (with_reducible exact ancepsref38_Equal.mono _ _ _ _ _)
   | (with_reducible exact LeO.refl _)
   | (with_reducible exact LeO.none _)
   | (with_reducible refine LeO.ite ?_ ?_)
   | (with_reducible refine LeO.bind ?_ (fun _ => ?_))
   | exact ih0 _ _ _
   | exact ancepsref38_Equal.mono _ _ _ _ _
   | exact LeO.none _
   | refine LeO.ite ?_ ?_
   | refine LeO.bind ?_ (fun _ => ?_)
def ancepsref40_SameTables.T6 : Bool × List (List Nat × List Nat) := (true, [([], []), ([], []), ([0, 1], [0, 1]), ([2], [2]), ([], []), ([], []), ([4, 5], [4, 5]), ([6], [6]), ([3, 7], [3, 7]), ([8], [8])])
def ancepsref40_SameTables.B6 : List Nat := [0, 0, 3, 7, 0, 0, 48, 112, 255, 511]
theorem ancepsref40_SameTables.tab6 : rtab .any (opsOf Try.f34 6) = ancepsref40_SameTables.T6 := by kernel_rfl
theorem ancepsref40_SameTables.bits6 : waitsOk ancepsref40_SameTables.T6.2 ancepsref40_SameTables.B6 = true := by kernel_rfl
set_option maxHeartbeats 8000000 in
set_option maxRecDepth 100000 in
theorem ancepsref40_SameTables.calls (k : Nat) (A0 : Option Addr) (c0 : Nat) (l0 : List (S61)) (A1 : Option Addr) (c1 : Nat) (l1 : List (S61)) (r : Bool) (w : World) (hr0 : Kd.C k61 w A0 l0.length l0) (hc0 : l0.length ≤ c0) (hr1 : Kd.C k61 w A1 l1.length l1) (hc1 : l1.length ≤ c1) (h : ancepsref40_SameTables.f k l0 l1 = some r) :
  Calls Try.prog 34 #[.slice A0 l0.length c0, .slice A1 l1.length c1] w fun e w' => e = .returned (.bool r) ∧ Below w.heap.size w w' := by
 have hu61 := Try.underlying61
 have HR0 := Aside0.mk hr0
 have HC0 := Aside0.mk hc0
 clear hr0 hc0
 have HR1 := Aside0.mk hr1
 have HC1 := Aside0.mk hc1
 clear hr1 hc1
 have HB := Aside0.mk (Below.refl w.heap.size w)
 have H : (if (l0.length : Int) = (l1.length : Int) then (ancepsref40_SameTables.l0 k l0 l1 0) else (some false)) = some r := h
 clear h
 by_cases c3 : (l0.length : Int) = (l1.length : Int)
 ·rw [if_pos c3] at H
  have c3b0 : ((l0.length : Int) == (l1.length : Int)) = true := beq_iff_eq.mpr c3
  have c3b1 : ((l0.length : Int) != (l1.length : Int)) = false := bne_eq_false_iff_eq.mpr c3
  have c3b2 : (l0.length == l1.length) = true := by first | simpa using c3 | (simp at c3 ⊢; omega)
  clear c3
  have H' := Aside0.mk H
  clear H
  go_enter Try.func34, Try.ntmps34
  go_wp2
  go_loopg [5] k (fun kq v5 w' => ∃ (x5_1 : Int), v5 = .int .i64 x5_1 ∧ Aside0 (ancepsref40_SameTables.l0 kq l0 l1 x5_1 = some r) ∧ Aside0 (kq ≤ k) ∧ Aside0 (Below w.heap.size w w'))
  case atStart => exact ⟨(0), zT, H', ⟨Nat.le_refl _⟩, ⟨by repeat (first | (with_reducible first | exact HB.out | apply below_alloc | apply pw_below_drewN | apply below_drew1) | exact HB.out)⟩⟩
  case round =>
   clear H'
   try clear c3
   try clear c3b0
   try clear c3b1
   try clear c3b2
   obtain ⟨x5_1, rfl, HA, HK1, HB⟩ := hrel
   cases gk with
   | zero => exact absurd HA.out (by simp [ancepsref40_SameTables.l0])
   | succ k1 =>
    have H := HA.out
    clear HA
    simp only [ancepsref40_SameTables.l0] at H
    by_cases c4 : x5_1 < (l0.length : Int)
    ·rw [if_pos c4] at H
     have c4b0 : decide (x5_1 < (l0.length : Int)) = true := decide_eq_true c4
     clear c4
     by_cases c5 : 0 ≤ x5_1
     ·rw [if_pos c5] at H
      have c5b0 : decide (0 ≤ x5_1) = true := decide_eq_true c5
      clear c5
      by_cases c6 : x5_1 < (l1.length : Int)
      ·rw [if_pos c6] at H
       have c6b0 : decide (x5_1 < (l1.length : Int)) = true := decide_eq_true c6
       clear c6
       replace H := Option.bind_eq_some_iff.mp H
       obtain ⟨t446, A70, H⟩ := H
       replace H : (if t446 = true then (ancepsref40_SameTables.l0 k1 l0 l1 (wrap64 (x5_1 + 1))) else (some false)) = some r := H
       have A7 := Aside0.mk A70
       clear A70
       have HC8 := Aside0.mk H
       clear H
       try go_wp2
       have n0_ := Aside0.mk (below_drew1 HB.out)
       clear HB
       have HB := n0_
       clear n0_
       have p444 : 0 ≤ (x5_1 : Int) := of_decide_eq_true zh
       have q444 : x5_1 < (l0.length : Int) := of_decide_eq_true zh
       obtain ⟨ad444, A444_0, c444_0, A444_1, c444_1, e444, hx444_0, hx444_1, hl444_0, hi444_0, hl444_1, hi444_1⟩ := at_T61 HR0.out x5_1 p444 q444
       have hw444_1 := hx444_1
       have hw444_0 := hx444_0
       cases e444
       replace hx444_0 := (HB.out.cell (World.block_lt_of_cell? w _ hx444_0)).trans hx444_0
       replace hx444_1 := (HB.out.cell (World.block_lt_of_cell? w _ hx444_1)).trans hx444_1
       have HR444_0 := Aside0.mk hi444_0
       have HC444_0 := Aside0.mk hl444_0
       clear hi444_0 hl444_0
       have HR444_1 := Aside0.mk hi444_1
       have HC444_1 := Aside0.mk hl444_1
       clear hi444_1 hl444_1
       replace p444 := eq_true p444
       replace q444 := eq_true q444
       have p445 : 0 ≤ (x5_1 : Int) := of_decide_eq_true zh
       have q445 : x5_1 < (l1.length : Int) := of_decide_eq_true zh
       obtain ⟨ad445, A445_0, c445_0, A445_1, c445_1, e445, hx445_0, hx445_1, hl445_0, hi445_0, hl445_1, hi445_1⟩ := at_T61 HR1.out x5_1 p445 q445
       have hw445_1 := hx445_1
       have hw445_0 := hx445_0
       cases e445
       replace hx445_0 := (HB.out.cell (World.block_lt_of_cell? w _ hx445_0)).trans hx445_0
       replace hx445_1 := (HB.out.cell (World.block_lt_of_cell? w _ hx445_1)).trans hx445_1
       have HR445_0 := Aside0.mk hi445_0
       have HC445_0 := Aside0.mk hl445_0
       clear hi445_0 hl445_0
       have HR445_1 := Aside0.mk hi445_1
       have HC445_1 := Aside0.mk hl445_1
       clear hi445_1 hl445_1
       replace p445 := eq_true p445
       replace q445 := eq_true q445
       refine start_ (n := 10) (S := fun w' => w'.cell? (ad444.add ((x5_1).toNat * 2)) = some (.slice A444_0 ((rd_T61 l0 x5_1).f0).length c444_0) ∧ w'.cell? ⟨(ad444.add ((x5_1).toNat * 2)).block, (ad444.add ((x5_1).toNat * 2)).off + 1, none⟩ = some (.slice A444_1 ((rd_T61 l0 x5_1).f1).length c444_1) ∧ w'.cell? (ad445.add ((x5_1).toNat * 2)) = some (.slice A445_0 ((rd_T61 l1 x5_1).f0).length c445_0) ∧ w'.cell? ⟨(ad445.add ((x5_1).toNat * 2)).block, (ad445.add ((x5_1).toNat * 2)).off + 1, none⟩ = some (.slice A445_1 ((rd_T61 l1 x5_1).f1).length c445_1)) (ds := []) #[false, false, false, false, false, false, false, false, false, false] zK rfl rfl ⟨((HB.out.cell (World.block_lt_of_cell? w _ hw444_0)).trans hw444_0), ((HB.out.cell (World.block_lt_of_cell? w _ hw444_1)).trans hw444_1), ((HB.out.cell (World.block_lt_of_cell? w _ hw445_0)).trans hw445_0), ((HB.out.cell (World.block_lt_of_cell? w _ hw445_1)).trans hw445_1)⟩ (fun hHeld => ?_); refine with_tabW ancepsref40_SameTables.tab6 ancepsref40_SameTables.bits6 (fun HT_ HW_ => ?_)
       generalize wr.drew = w9 at HB HR444_0 HR444_1 HR445_0 HR445_1 hx444_0 hx444_1 hx445_0 hx445_1 hHeld ⊢
       refine pure_ (i := 0) (N := some 17) (v := ?_) (a' := ?_) #[true, false, false, false, false, false, false, false, false, false] rfl rfl (any_of HT_.out zK) (fun _ _ _ h => h) (Or.inl ⟨by rfl, ?_⟩) ?_ ?_
       rotate_left
       ·intro w'
        go_simp
        with_reducible rfl
       rotate_left
       ·simp only [Act.put, List.setIfInBounds_toArray, List.set_cons_zero, List.set_cons_succ, i64_w, i32_w]
        rfl
       refine pure_ (i := 1) (N := some 18) (v := ?_) (a' := ?_) #[true, true, false, false, false, false, false, false, false, false] rfl rfl (any_of HT_.out zK) (fun _ _ _ h => h) (Or.inl ⟨by rfl, ?_⟩) ?_ ?_
       rotate_left
       ·intro w'
        go_simp
        with_reducible rfl
       rotate_left
       ·simp only [Act.put, List.setIfInBounds_toArray, List.set_cons_zero, List.set_cons_succ, i64_w, i32_w]
        rfl
       refine pure_ (i := 2) (N := some 19) (v := ?_) (a' := ?_) #[true, true, true, false, false, false, false, false, false, false] rfl rfl (any_of HT_.out zK) (fun _ _ _ h => h) (Or.inl ⟨by rfl, ?_⟩) ?_ ?_
       rotate_left
       ·intro w'
        go_simp
        with_reducible rfl
       rotate_left
       ·simp only [Act.put, List.setIfInBounds_toArray, List.set_cons_zero, List.set_cons_succ, i64_w, i32_w]
        rfl
       refine pure_ (i := 4) (N := some 21) (v := ?_) (a' := ?_) #[true, true, true, false, true, false, false, false, false, false] rfl rfl (any_of HT_.out zK) (fun _ _ _ h => h) (Or.inl ⟨by rfl, ?_⟩) ?_ ?_
       rotate_left
       ·intro w'
        go_simp
        with_reducible rfl
       rotate_left
       ·simp only [Act.put, List.setIfInBounds_toArray, List.set_cons_zero, List.set_cons_succ, i64_w, i32_w]
        rfl
       refine pure_ (i := 5) (N := some 22) (v := ?_) (a' := ?_) #[true, true, true, false, true, true, false, false, false, false] rfl rfl (any_of HT_.out zK) (fun _ _ _ h => h) (Or.inl ⟨by rfl, ?_⟩) ?_ ?_
       rotate_left
       ·intro w'
        go_simp
        with_reducible rfl
       rotate_left
       ·simp only [Act.put, List.setIfInBounds_toArray, List.set_cons_zero, List.set_cons_succ, i64_w, i32_w]
        rfl
       refine pure_ (i := 6) (N := some 23) (v := ?_) (a' := ?_) #[true, true, true, false, true, true, true, false, false, false] rfl rfl (any_of HT_.out zK) (fun _ _ _ h => h) (Or.inl ⟨by rfl, ?_⟩) ?_ ?_
       rotate_left
       ·intro w'
        go_simp
        with_reducible rfl
       rotate_left
       ·simp only [Act.put, List.setIfInBounds_toArray, List.set_cons_zero, List.set_cons_succ, i64_w, i32_w]
        rfl
       refine take_ (i := 3) (N := some 20) (v := ?_) (a' := ?_) #[true, true, true, true, true, true, true, false, false, false] rfl rfl (take_ofW HT_.out HW_.out zK) (fun _ _ _ h => h) (Or.inl ⟨by rfl, ?_⟩) hHeld ?_ ?_
       rotate_left
       ·rintro w' ⟨s0, s1, s2, s3⟩
        go_simp
        with_reducible rfl
       rotate_left
       ·simp only [Act.put, List.setIfInBounds_toArray, List.set_cons_zero, List.set_cons_succ, i64_w, i32_w]
        rfl
       refine take_ (i := 7) (N := some 24) (v := ?_) (a' := ?_) #[true, true, true, true, true, true, true, true, false, false] rfl rfl (take_ofW HT_.out HW_.out zK) (fun _ _ _ h => h) (Or.inl ⟨by rfl, ?_⟩) hHeld ?_ ?_
       rotate_left
       ·rintro w' ⟨s0, s1, s2, s3⟩
        go_simp
        with_reducible rfl
       rotate_left
       ·simp only [Act.put, List.setIfInBounds_toArray, List.set_cons_zero, List.set_cons_succ, i64_w, i32_w]
        rfl
       refine one_ (i := 8) (N := some 25) #[true, true, true, true, true, true, true, true, true, false] rfl rfl (one_of HT_.out zK) (by decide) (fun K hK => ?_)
       refine goes_ Try.func64 zK rfl #[.agg #[.slice A444_0 ((rd_T61 l0 x5_1).f0).length c444_0, .slice A444_1 ((rd_T61 l0 x5_1).f1).length c444_1], .agg #[.slice A445_0 ((rd_T61 l1 x5_1).f0).length c445_0, .slice A445_1 ((rd_T61 l1 x5_1).f1).length c445_1]] (by rfl) rfl rfl zM ?_
       with_reducible refine (ancepsref38_Equal.calls k1 _ _ ((rd_T61 l0 x5_1).f0) _ _ ((rd_T61 l0 x5_1).f1) _ _ ((rd_T61 l1 x5_1).f0) _ _ ((rd_T61 l1 x5_1).f1) t446 _ ?side1 ?side2 ?side3 ?side4 ?side5 ?side6 ?side7 ?side8 A7.out).mono ?_
       (case side1 => repeat (first | exact (Kd.C_below HR444_0.out HB.out) | (with_reducible refine Kd.C_alloc ?_ _) | (with_reducible refine Kd.C_drewN ?_ _) | (with_reducible refine Kd.C_drew ?_)))
       (case side2 => exact HC444_0.out)
       (case side3 => repeat (first | exact (Kd.C_below HR444_1.out HB.out) | (with_reducible refine Kd.C_alloc ?_ _) | (with_reducible refine Kd.C_drewN ?_ _) | (with_reducible refine Kd.C_drew ?_)))
       (case side4 => exact HC444_1.out)
       (case side5 => repeat (first | exact (Kd.C_below HR445_0.out HB.out) | (with_reducible refine Kd.C_alloc ?_ _) | (with_reducible refine Kd.C_drewN ?_ _) | (with_reducible refine Kd.C_drew ?_)))
       (case side6 => exact HC445_0.out)
       (case side7 => repeat (first | exact (Kd.C_below HR445_1.out HB.out) | (with_reducible refine Kd.C_alloc ?_ _) | (with_reducible refine Kd.C_drewN ?_ _) | (with_reducible refine Kd.C_drew ?_)))
       (case side8 => exact HC445_1.out)
       rintro e w10 ⟨rfl, hb⟩
       refine ⟨_, rfl, ?_⟩
       have n0_ := Aside0.mk (below_step zB hb)
       clear HB
       have HB := n0_
       clear n0_
       (try clear hb)
       (try clear hb2)
       (try clear hk)
       (try clear hi)
       refine hK.out _ _ ⟨((HB.out.cell (World.block_lt_of_cell? w _ hw444_0)).trans hw444_0), ((HB.out.cell (World.block_lt_of_cell? w _ hw444_1)).trans hw444_1), ((HB.out.cell (World.block_lt_of_cell? w _ hw445_0)).trans hw445_0), ((HB.out.cell (World.block_lt_of_cell? w _ hw445_1)).trans hw445_1)⟩ (fun hHeld => ?_)
       clear hK K
       refine norm_ (a' := ?_) ?_ ?_
       rotate_left
       ·show Act.put _ (some 25) _ = _
        simp only [Act.put, List.setIfInBounds_toArray, List.set_cons_zero, List.set_cons_succ, i64_w, i32_w]
        rfl
       refine pure_ (i := 9) (N := some 26) (v := ?_) (a' := ?_) #[true, true, true, true, true, true, true, true, true, true] rfl rfl (any_of HT_.out zK) (fun _ _ _ h => h) (Or.inl ⟨by rfl, ?_⟩) ?_ ?_
       rotate_left
       ·intro w'
        go_simp
        with_reducible rfl
       rotate_left
       ·simp only [Act.put, List.setIfInBounds_toArray, List.set_cons_zero, List.set_cons_succ, i64_w, i32_w]
        rfl
       refine done_ (done_of HT_.out zK) ?_
       go_upto_if 26 with (fail)
       (try simp only [Act.put, List.setIfInBounds_toArray, List.set_cons_zero, List.set_cons_succ])
       have H := HC8.out
       clear HC8
       by_cases c11 : t446 = true
       ·subst c11
        have H1 : (ancepsref40_SameTables.l0 k1 l0 l1 (wrap64 (x5_1 + 1))) = some r := by rw [if_pos rfl] at H; exact H
        clear H
        have H := H1
        clear H1
        have H' := Aside0.mk H
        clear H
        go_wp2
        go_roundg k1
        case measure => have := HK1.out; omega
        case rel => exact ⟨(wrap64 (x5_1 + 1)), zT, H', ⟨by have := HK1.out; omega⟩, ⟨by repeat (first | (with_reducible first | exact HB.out | apply below_alloc | apply pw_below_drewN | apply below_drew1) | exact HB.out)⟩⟩
       ·replace c11 := Bool.eq_false_iff.mpr c11
        subst c11
        have H1 : (some false) = some r := by rw [if_neg (show ¬ (false = true) by decide)] at H; exact H
        clear H
        have H := H1
        clear H1
        obtain rfl := Option.some.inj H
        go_wp2
        go_ret
        exact ⟨by first | rfl | (simp [errW_none, errW_some] <;> rfl) | (simp [*, errW_none, errW_some] <;> rfl), by repeat (first | (with_reducible first | exact HB.out | apply below_alloc | apply pw_below_drewN | apply below_drew1) | exact HB.out)⟩
      ·rw [if_neg c6] at H
       exact absurd H (by simp)
     ·rw [if_neg c5] at H
      exact absurd H (by simp)
    ·rw [if_neg c4] at H
     have c4b0 : decide (x5_1 < (l0.length : Int)) = false := decide_eq_false c4
     clear c4
     obtain rfl := Option.some.inj H
     go_wp2
     go_ret
     exact ⟨by first | rfl | (simp [errW_none, errW_some] <;> rfl) | (simp [*, errW_none, errW_some] <;> rfl), by repeat (first | (with_reducible first | exact HB.out | apply below_alloc | apply pw_below_drewN | apply below_drew1) | exact HB.out)⟩
 ·rw [if_neg c3] at H
  have c3b0 : ((l0.length : Int) == (l1.length : Int)) = false := beq_eq_false_iff_ne.mpr c3
  have c3b1 : ((l0.length : Int) != (l1.length : Int)) = true := bne_iff_ne.mpr c3
  have c3b2 : (l0.length == l1.length) = false := by first | simpa using c3 | (simp at c3 ⊢; omega)
  obtain rfl := Option.some.inj H
  go_enter Try.func34, Try.ntmps34
  go_wp2
  go_ret
  exact ⟨by first | rfl | (simp [errW_none, errW_some] <;> rfl) | (simp [*, errW_none, errW_some] <;> rfl), by repeat (first | (with_reducible first | exact HB.out | apply below_alloc | apply pw_below_drewN | apply below_drew1) | exact HB.out)⟩
/-! ### ancepslaw40_SolveGiven: function 8 -/
def ancepslaw40_SolveGiven.j0 : Nat → List (S61) → Int → Int → Bool → Option (Bool)
 | 0, _, _, _, _ => none
 | k + 1, x0, x1, x2, x17 => if x17 = true then ((ancepslaw40_awake.f k).bind fun t449 => (some t449)) else ((solve_Given.f k x0 x1 x2).bind fun bt450 => ((ancepsref40_Given.f k x0 x1 x2).bind fun bt454 => (if bt450.2 = bt454.2 then ((ancepsref40_SameTables.f k bt450.1 bt454.1).bind fun t458 => (some t458)) else (some false))))
def ancepslaw40_SolveGiven.f (k : Nat) (l0 : List (S61)) (a1 : Int) (a2 : Int) : Option (Bool) := (ancepslaw40_awake.f k).bind fun t447 => (if t447 = true then ((ancepsref40_Few.f k l0).bind fun t448 => (ancepslaw40_SolveGiven.j0 k l0 a1 a2 (!t448))) else (ancepslaw40_SolveGiven.j0 k l0 a1 a2 true))
theorem ancepslaw40_SolveGiven.mono_l : ∀ k, (∀ y0 y1 y2 y3, LeO (ancepslaw40_SolveGiven.j0 k y0 y1 y2 y3) (ancepslaw40_SolveGiven.j0 (k + 1) y0 y1 y2 y3))
 | 0 => fun _ _ _ _ r h => by simp [ancepslaw40_SolveGiven.j0] at h
 | k + 1 => by
  have ih0 := ancepslaw40_SolveGiven.mono_l k
  ·intro y0 y1 y2 y3
   unfold ancepslaw40_SolveGiven.j0
   repeat' first
   | (with_reducible exact ih0 _ _ _ _)
   | (with_reducible exact ancepslaw40_awake.mono _)
   | (with_reducible exact ancepsref40_Few.mono _ _)
   | (with_reducible exact ancepsref40_Given.mono _ _ _ _)
   | (with_reducible exact ancepsref40_SameTables.mono _ _ _)
   | (with_reducible exact solve_Given.mono _ _ _ _)
   | (with_reducible exact LeO.refl _)
   | (with_reducible exact LeO.none _)
   | (with_reducible refine LeO.ite ?_ ?_)
   | (with_reducible refine LeO.bind ?_ (fun _ => ?_))
   | exact ih0 _ _ _ _
   | exact ancepslaw40_awake.mono _
   | exact ancepsref40_Few.mono _ _
   | exact ancepsref40_Given.mono _ _ _ _
   | exact ancepsref40_SameTables.mono _ _ _
   | exact solve_Given.mono _ _ _ _
   | exact LeO.none _
   | refine LeO.ite ?_ ?_
   | refine LeO.bind ?_ (fun _ => ?_)
theorem ancepslaw40_SolveGiven.mono : ∀ a0 a1 a2 k, LeO (ancepslaw40_SolveGiven.f k a0 a1 a2) (ancepslaw40_SolveGiven.f (k + 1) a0 a1 a2) := by
 intro a0 a1 a2 k
 have ih0 := ancepslaw40_SolveGiven.mono_l k
 unfold ancepslaw40_SolveGiven.f
 repeat' first
   | (with_reducible exact ih0 _ _ _ _)
   | (with_reducible exact ancepslaw40_awake.mono _)
   | (with_reducible exact ancepsref40_Few.mono _ _)
   | (with_reducible exact ancepsref40_Given.mono _ _ _ _)
   | (with_reducible exact ancepsref40_SameTables.mono _ _ _)
   | (with_reducible exact solve_Given.mono _ _ _ _)
   | (with_reducible exact LeO.refl _)
   | (with_reducible exact LeO.none _)
   | (with_reducible refine LeO.ite ?_ ?_)
   | (with_reducible refine LeO.bind ?_ (fun _ => ?_))
   | exact ih0 _ _ _ _
   | exact ancepslaw40_awake.mono _
   | exact ancepsref40_Few.mono _ _
   | exact ancepsref40_Given.mono _ _ _ _
   | exact ancepsref40_SameTables.mono _ _ _
   | exact solve_Given.mono _ _ _ _
   | exact LeO.none _
   | refine LeO.ite ?_ ?_
   | refine LeO.bind ?_ (fun _ => ?_)
set_option maxHeartbeats 8000000 in
set_option maxRecDepth 100000 in
theorem ancepslaw40_SolveGiven.calls (k : Nat) (A0 : Option Addr) (c0 : Nat) (l0 : List (S61)) (a1 : Int) (a2 : Int) (r : Bool) (w : World) (hr0 : Kd.C k61 w A0 l0.length l0) (hc0 : l0.length ≤ c0) (h : ancepslaw40_SolveGiven.f k l0 a1 a2 = some r) :
  Calls Try.prog 8 #[.slice A0 l0.length c0, .int .i64 a1, .int .i64 a2] w fun e w' => e = .returned (.bool r) ∧ Below w.heap.size w w' := by
 have HR0 := Aside0.mk hr0
 have HC0 := Aside0.mk hc0
 clear hr0 hc0
 have HB := Aside0.mk (Below.refl w.heap.size w)
 have H : ((ancepslaw40_awake.f k).bind fun t447 => (if t447 = true then ((ancepsref40_Few.f k l0).bind fun t448 => (ancepslaw40_SolveGiven.j0 k l0 a1 a2 (!t448))) else (ancepslaw40_SolveGiven.j0 k l0 a1 a2 true))) = some r := h
 clear h
 have HC4 := Aside0.mk H
 clear H
 go_enter Try.func8, Try.ntmps8
 go_upto_region 1 with (fail)
 go_cut [17] (fun v17 wc => ∃ (kq : Nat) (x17_3 : Bool), v17 = .bool x17_3 ∧ Aside0 (ancepslaw40_SolveGiven.j0 kq l0 a1 a2 x17_3 = some r) ∧ Aside0 (kq ≤ k) ∧ Aside0 (Below w.heap.size w wc))
 case first =>
  have H := HC4.out
  clear HC4
  replace H := Option.bind_eq_some_iff.mp H
  obtain ⟨t447, A50, H⟩ := H
  replace H : (if t447 = true then ((ancepsref40_Few.f k l0).bind fun t448 => (ancepslaw40_SolveGiven.j0 k l0 a1 a2 (!t448))) else (ancepslaw40_SolveGiven.j0 k l0 a1 a2 true)) = some r := H
  have A5 := Aside0.mk A50
  clear A50
  by_cases c6 : t447 = true
  ·subst c6
   have H1 : ((ancepsref40_Few.f k l0).bind fun t448 => (ancepslaw40_SolveGiven.j0 k l0 a1 a2 (!t448))) = some r := by rw [if_pos rfl] at H; exact H
   clear H
   have H := H1
   clear H1
   replace H := Option.bind_eq_some_iff.mp H
   obtain ⟨t448, A70, H⟩ := H
   replace H : (ancepslaw40_SolveGiven.j0 k l0 a1 a2 (!t448)) = some r := H
   have A7 := Aside0.mk A70
   clear A70
   have H' := Aside0.mk H
   clear H
   go_wp2_with (first | ((with_reducible refine gate_callee (f := 12) rfl ?_); refine goesL_ (some 11) rfl rfl Try.func12 zK rfl #[] rfl zM ?_; (with_reducible refine (ancepslaw40_awake.calls k  true _ A5.out).mono ?_); rintro e w8 ⟨rfl, hb⟩; refine ⟨_, rfl, ?_⟩; have n0_ := Aside0.mk (below_step zB hb); clear HB; have HB := n0_; clear n0_; (try clear hb); (try clear hb2); (try clear hk); (try clear hi)) | (go_at_call 13; (with_reducible refine (ancepsref40_Few.calls k _ _ l0 t448 _ ?side1 ?side2 A7.out).mono ?_); (case side1 => repeat (first | exact (Kd.C_below HR0.out HB.out) | (with_reducible refine Kd.C_alloc ?_ _) | (with_reducible refine Kd.C_drewN ?_ _) | (with_reducible refine Kd.C_drew ?_))); (case side2 => exact HC0.out); rintro e w9 ⟨rfl, hb⟩; have n0_ := Aside0.mk (below_step zB hb); clear HB; have HB := n0_; clear n0_; (try clear hb); (try clear hb2); (try clear hk); (try clear hi)))
   go_meet
   case rel => exact ⟨_, (!t448), zT, H', ⟨by first | omega | exact Nat.le_refl _⟩, ⟨by repeat (first | (with_reducible first | exact HB.out | apply below_alloc | apply pw_below_drewN | apply below_drew1) | exact HB.out)⟩⟩
  ·replace c6 := Bool.eq_false_iff.mpr c6
   subst c6
   have H1 : (ancepslaw40_SolveGiven.j0 k l0 a1 a2 true) = some r := by rw [if_neg (show ¬ (false = true) by decide)] at H; exact H
   clear H
   have H := H1
   clear H1
   have H' := Aside0.mk H
   clear H
   go_wp2_with (first | ((with_reducible refine gate_callee (f := 12) rfl ?_); refine goesL_ (some 11) rfl rfl Try.func12 zK rfl #[] rfl zM ?_; (with_reducible refine (ancepslaw40_awake.calls k  false _ A5.out).mono ?_); rintro e w10 ⟨rfl, hb⟩; refine ⟨_, rfl, ?_⟩; have n0_ := Aside0.mk (below_step zB hb); clear HB; have HB := n0_; clear n0_; (try clear hb); (try clear hb2); (try clear hk); (try clear hi)))
   go_meet
   case rel => exact ⟨_, (true), zT, H', ⟨by first | omega | exact Nat.le_refl _⟩, ⟨by repeat (first | (with_reducible first | exact HB.out | apply below_alloc | apply pw_below_drewN | apply below_drew1) | exact HB.out)⟩⟩
 case rest =>
  clear HC4
  obtain ⟨kq, x17_3, rfl, HA, HJ3, HB⟩ := hcut
  cases kq with
  | zero => exact absurd HA.out (by simp [ancepslaw40_SolveGiven.j0])
  | succ kj3 =>
   have H := HA.out
   clear HA
   simp only [ancepslaw40_SolveGiven.j0] at H
   by_cases c11 : x17_3 = true
   ·subst c11
    have H1 : ((ancepslaw40_awake.f kj3).bind fun t449 => (some t449)) = some r := by rw [if_pos rfl] at H; exact H
    clear H
    have H := H1
    clear H1
    replace H := Option.bind_eq_some_iff.mp H
    obtain ⟨t449, A120, H⟩ := H
    replace H : (some t449) = some r := H
    have A12 := Aside0.mk A120
    clear A120
    obtain rfl := Option.some.inj H
    go_wp2_with (first | ((with_reducible refine gate_callee (f := 12) rfl ?_); refine goesL_ (some 18) rfl rfl Try.func12 zK rfl #[] rfl zM ?_; (with_reducible refine (ancepslaw40_awake.calls kj3  t449 _ A12.out).mono ?_); rintro e w13 ⟨rfl, hb⟩; refine ⟨_, rfl, ?_⟩; have n0_ := Aside0.mk (below_step zB hb); clear HB; have HB := n0_; clear n0_; (try clear hb); (try clear hb2); (try clear hk); (try clear hi)))
    go_ret
    exact ⟨by first | rfl | (simp [errW_none, errW_some] <;> rfl) | (simp [*, errW_none, errW_some] <;> rfl), by repeat (first | (with_reducible first | exact HB.out | apply below_alloc | apply pw_below_drewN | apply below_drew1) | exact HB.out)⟩
   ·replace c11 := Bool.eq_false_iff.mpr c11
    subst c11
    have H1 : ((solve_Given.f kj3 l0 a1 a2).bind fun bt450 => ((ancepsref40_Given.f kj3 l0 a1 a2).bind fun bt454 => (if bt450.2 = bt454.2 then ((ancepsref40_SameTables.f kj3 bt450.1 bt454.1).bind fun t458 => (some t458)) else (some false)))) = some r := by rw [if_neg (show ¬ (false = true) by decide)] at H; exact H
    clear H
    have H := H1
    clear H1
    replace H := Option.bind_eq_some_iff.mp H
    obtain ⟨⟨t450, t451⟩, A140, H⟩ := H
    replace H : ((ancepsref40_Given.f kj3 l0 a1 a2).bind fun bt454 => (if t451 = bt454.2 then ((ancepsref40_SameTables.f kj3 t450 bt454.1).bind fun t458 => (some t458)) else (some false))) = some r := H
    have A14 := Aside0.mk A140
    clear A140
    replace H := Option.bind_eq_some_iff.mp H
    obtain ⟨⟨t454, t457⟩, A150, H⟩ := H
    replace H : (if t451 = t457 then ((ancepsref40_SameTables.f kj3 t450 t454).bind fun t458 => (some t458)) else (some false)) = some r := H
    have A15 := Aside0.mk A150
    clear A150
    have HC16 := Aside0.mk H
    clear H
    go_upto_region 5 with (first | ((with_reducible refine gate_callee (f := 32) rfl ?_); refine goesL_ (some 23) rfl rfl Try.func32 zK rfl #[.slice A0 l0.length c0, .int .i64 a1, .int .i64 a2] rfl zM ?_; (with_reducible refine (solve_Given.calls kj3 _ _ l0 a1 a2 t450 t451 _ ?side1 ?side2 A14.out).mono ?_); (case side1 => repeat (first | exact (Kd.C_below HR0.out HB.out) | (with_reducible refine Kd.C_alloc ?_ _) | (with_reducible refine Kd.C_drewN ?_ _) | (with_reducible refine Kd.C_drew ?_))); (case side2 => exact HC0.out); rintro e w17 ⟨v452, rfl, ho0, hb⟩; refine ⟨_, rfl, ?_⟩; have n0_ := Aside0.mk (Kd.N_lower (Kd.N_mono (ok' := fun k_ => True) (Kd.S_N (Kd.S_bound ho0)) (fun k_ hk_ => trivial)) (below_size zB)); have n1_ := Aside0.mk (below_step zB hb); clear HB; have HO453 := n0_; have HB := n1_; clear n0_ n1_; (try clear hb); (try clear hb2); (try clear hk); (try clear hi); (try clear ho0)) | ((with_reducible refine gate_callee (f := 33) rfl ?_); refine goesL_ (some 30) rfl rfl Try.func33 zK rfl #[.slice A0 l0.length c0, .int .i64 a1, .int .i64 a2] rfl zM ?_; (with_reducible refine (ancepsref40_Given.calls kj3 (fun k_ => k_ < w.heap.size) _ _ l0 a1 a2 t454 t457 _ ?side1 A15.out).mono ?_); (case side1 => exact Kd.V_mk HC0.out (Kd.F_below (Kd.C_F k61_heap HR0.out) zB)); rintro e w18 ⟨v455, rfl, ho0, hb⟩; refine ⟨_, rfl, ?_⟩; have n0_ := Aside0.mk (Kd.N_elder' (zN HO453) (Kd.N_base ho0) hb); have n1_ := Aside0.mk (Kd.N_lower (Kd.N_mono (ok' := fun k_ => some k_ ≠ (v452 : Value).ownBlock) ho0 (fun k_ hk_ => Or.elim hk_ (fun hs_ => fun e_ => Nat.not_le.2 hs_ (Kd.N_base HO453.out k_ e_.symm)) (fun hn_ => (Kd.fresh' (Kd.N_lt (zN HO453)) k_ hn_)))) (below_size zB)); have n2_ := Aside0.mk (below_step zB hb); clear HO453; clear HB; have HO453 := n0_; have HO456 := n1_; have HB := n2_; clear n0_ n1_ n2_; (try clear hb); (try clear hb2); (try clear hk); (try clear hi); (try clear ho0)))
    (try simp only [Act.put, List.setIfInBounds_toArray, List.set_cons_zero, List.set_cons_succ])
    have H := HC16.out
    clear HC16
    by_cases c19 : t451 = t457
    ·rw [if_pos c19] at H
     have c19b0 : (t451 == t457) = true := beq_iff_eq.mpr c19
     have c19b1 : (t451 != t457) = false := bne_eq_false_iff_eq.mpr c19
     clear c19
     (first | rw [c19b0] | (simp only [i64_w, i32_w]; rw [c19b0]) | skip)
     (try rw [c19b1])
     replace H := Option.bind_eq_some_iff.mp H
     obtain ⟨t458, A200, H⟩ := H
     replace H : (some t458) = some r := H
     have A20 := Aside0.mk A200
     clear A200
     obtain rfl := Option.some.inj H
     obtain ⟨Ao21, co21, eo21⟩ := Kd.N_slice HO453.out
     subst eo21
     obtain ⟨Ao22, co22, eo22⟩ := Kd.N_slice HO456.out
     subst eo22
     go_wp2_with (first | (go_at_call 34; (with_reducible refine (ancepsref40_SameTables.calls kj3 _ _ t450 _ _ t454 t458 _ ?side1 ?side2 ?side3 ?side4 A20.out).mono ?_); (case side1 => repeat (first | exact (Kd.N_reads' HO453.out).2.2 | (with_reducible refine Kd.C_alloc ?_ _) | (with_reducible refine Kd.C_drewN ?_ _) | (with_reducible refine Kd.C_drew ?_))); (case side2 => exact (Kd.N_reads' HO453.out).2.1); (case side3 => repeat (first | exact (Kd.N_reads' HO456.out).2.2 | (with_reducible refine Kd.C_alloc ?_ _) | (with_reducible refine Kd.C_drewN ?_ _) | (with_reducible refine Kd.C_drew ?_))); (case side4 => exact (Kd.N_reads' HO456.out).2.1); rintro e w23 ⟨rfl, hb⟩; have n0_ := Aside0.mk (Kd.N_below (zN HO453) hb); have n1_ := Aside0.mk (Kd.N_below (zN HO456) hb); have n2_ := Aside0.mk (below_step zB hb); clear HO453; clear HO456; clear HB; have HO453 := n0_; have HO456 := n1_; have HB := n2_; clear n0_ n1_ n2_; (try clear hb); (try clear hb2); (try clear hk); (try clear hi)))
     go_ret
     exact ⟨by first | rfl | (simp [errW_none, errW_some] <;> rfl) | (simp [*, errW_none, errW_some] <;> rfl), by repeat (first | (with_reducible first | exact HB.out | apply below_alloc | apply pw_below_drewN | apply below_drew1) | exact HB.out)⟩
    ·rw [if_neg c19] at H
     have c19b0 : (t451 == t457) = false := beq_eq_false_iff_ne.mpr c19
     have c19b1 : (t451 != t457) = true := bne_iff_ne.mpr c19
     (first | rw [c19b0] | (simp only [i64_w, i32_w]; rw [c19b0]) | skip)
     (try rw [c19b1])
     obtain rfl := Option.some.inj H
     go_wp2
     go_ret
     exact ⟨by first | rfl | (simp [errW_none, errW_some] <;> rfl) | (simp [*, errW_none, errW_some] <;> rfl), by repeat (first | (with_reducible first | exact HB.out | apply below_alloc | apply pw_below_drewN | apply below_drew1) | exact HB.out)⟩
end Go.Proofs.Ytbagnalcabdlhaa.S
