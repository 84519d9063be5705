-- Written by wip/tools/myprint.py, a program of this session's.
import Derived.Test.YtbagnalcabdlhaaS0
import Derived.Test.YtbagnalcabdlhaaS2
namespace Go.Proofs.Ytbagnalcabdlhaa.S
open Go.RowKit Go.Proofs.YtbagnalcabdlhaaW.PrintWords Go.Proofs.YtbagnalcabdlhaaW.PrintLast Go.Proofs.YtbagnalcabdlhaaW.PrintMore
attribute [local go_sem] max2_int min2_int max_two min_two max_three min_three max_four min_four   -- for this text's walks alone
set_option linter.unusedVariables false
set_option linter.unusedSimpArgs false
/-! ### slices_Clone_int_int: function 63 -/
def slices_Clone_int_int.f (l0 : List Int) : Option (List Int) := (some (([] : List Int) : List Int)).bind fun y395 => (if y395.length + l0.length < 17592186044416 then (some (y395 ++ l0)) else (none))
set_option maxHeartbeats 8000000 in
set_option maxRecDepth 100000 in
theorem slices_Clone_int_int.calls (A0 : Option Addr) (c0 : Nat) (l0 : List Int) (r : List Int) (w : World) (hr0 : Kd.C (Kd.int .i64) w A0 l0.length l0) (hc0 : l0.length ≤ c0) (h : slices_Clone_int_int.f l0 = some r) :
  Calls Try.prog 63 #[.slice A0 l0.length c0] w fun e w' => ∃ v0_ : Value, e = .returned (v0_) ∧ Kd.R (Kd.int .i64) 3 w' w.heap.size (fun _ => True) v0_ r ∧ Below w.heap.size w w' := by
 have HR0 := Aside0.mk hr0
 have HC0 := Aside0.mk hc0
 clear hr0 hc0
 have HB := Aside0.mk (Below.refl w.heap.size w)
 have H : ((some (([] : List Int) : List Int)).bind fun y395 => (if y395.length + l0.length < 17592186044416 then (some (y395 ++ l0)) else (none))) = some r := h
 clear h
 have hnq_ : ∀ (w : World) (a : Option Addr) (n c n' c' : Nat), (binOp .eql 42 (.slice a n c) (.slice none n' c')).run Try.prog w = .ok (.bool a.isNone) w := fun w a n c n' c' => Lib.run_eql_slice_nil w _ _ a n c n' c' Try.underlying42
 rcases A0 with _ | adn0
 ·obtain rfl : l0 = [] := (by rcases l0 with _ | ⟨x_, xs_⟩; (· rfl); (· obtain ⟨_, _, e_, _⟩ := Kd.C_get HR0.out 0 0 (by omega) (by simp); cases e_))
  simp only [List.length_nil, List.nil_append] at H
  (first | rw [if_pos (by omega)] at H | simp at H)
  try simp only [Option.some.injEq] at H
  subst H
  go_enter Try.func63, Try.ntmps63
  go_wp2
  go_ret
  first | exact ⟨_, rfl, Kd.R_nil _ _ _ _ _, Below.refl _ _⟩ | exact ⟨_, rfl, Kd.S_nil _ _ _ _ _, Below.refl _ _⟩ | exact ⟨_, rfl, Kd.V_nil _ _ _ _ _, Below.refl _ _⟩ | exact ⟨_, rfl, Kd.N_nil _ _ _ _ _, Below.refl _ _⟩
 ·replace H := H
  obtain ⟨y395, hy395⟩ : ∃ y_ : List Int, y_ = (([] : List Int)) := ⟨_, rfl⟩
  replace H : (if y395.length + l0.length < 17592186044416 then (some (y395 ++ l0)) else (none)) = some r := by first | (rw [hy395]; with_reducible exact H) | (have H2_ := (Option.bind_some _ _).symm.trans H; rw [hy395]; with_reducible exact H2_) | (have H2_ := (Option.bind_some _ _).symm.trans H; with_reducible exact H2_) | with_reducible exact H | (rw [hy395]; exact H) | exact H
  have Ny395 := Aside0.mk hy395
  clear hy395
  by_cases c2 : y395.length + l0.length < 17592186044416
  ·rw [if_pos c2] at H
   have LMc2 := Aside0.mk c2
   clear c2
   obtain ⟨y398, hy398⟩ : ∃ y_ : List Int, y_ = (y395 ++ l0) := ⟨_, rfl⟩
   replace H : (some y398) = some r := by first | (rw [hy398]; with_reducible exact H) | (have H2_ := (Option.bind_some _ _).symm.trans H; rw [hy398]; with_reducible exact H2_) | (have H2_ := (Option.bind_some _ _).symm.trans H; with_reducible exact H2_) | with_reducible exact H | (rw [hy398]; exact H) | exact H
   have Ny398 := Aside0.mk hy398
   clear hy398
   obtain rfl := Option.some.inj H
   go_enter Try.func63, Try.ntmps63
   go_wp2_with (first | ((with_reducible refine gate_dst (N := 5) rfl ?_); refine Kd.R_lit (Kd.int .i64) _ 3 ?hg (N := 5) ?hd (xs := ([] : List Int)) (inner := []) (ok := fun _ => True) (okp := fun _ => True) ?hr ?hp (fun _ hk => hk) trivial (Below.refl _ _) (Nat.le_refl _) (by simp) ?_; (case hd => rfl); (case hg => rfl); (case hr => first | (go_simp; done) | (go_simp; rfl)); (case hp => exact (Reps.none _ _)); intro v396 w3 ho4 hb hg_ hnew_; clear hg_ hnew_; (first | rw [← Ny395.out] at ho4 | (simp only [Int.reduceToNat] at ho4; rw [← Ny395.out] at ho4)); have n0_ := Aside0.mk (Kd.R_lower ho4 (below_size zB)); have n1_ := Aside0.mk (below_step zB hb); clear HB; have HO397 := n0_; have HB := n1_; clear n0_ n1_; clear hb ho4) | ((with_reducible refine gate_builtin (b := .append) (xs := #[.tmp 5, .tmp 6]) rfl ?_); at_builtin; refine Kd.R_append_rows (Kd.int .i64) (w0 := w) w.heap.size rfl (.tmp 5) (.tmp 6) 42 3 (.int .i64 0) 8 rfl Try.underlying42 info3 rfl (by decide) (by omega) v396 y395 l0 _ _ _ (fun _ => True) (fun _ => False) rfl rfl ?aO ?aR (fun _ _ h => h) (fun _ h => h.elim) ?aF ?aB ?aS ?aL ?_; (case aR => repeat (first | exact (Kd.C_below HR0.out HB.out) | (with_reducible refine Kd.C_alloc ?_ _) | (with_reducible refine Kd.C_drewN ?_ _) | (with_reducible refine Kd.C_drew ?_))); (case aB => exact zB); (case aF => exact (fun _ _ => trivial)); (case aO => exact (zR HO397)); (case aS => exact (below_size zB)); (case aL => have := LMc2.out; omega); intro v399 w5 ho hb hg hat; rw [← Ny398.out] at ho; have n0_ := Aside0.mk (hb); have n1_ := Aside0.mk (ho); clear HB; clear HO397; have HB := n0_; have HO400 := n1_; clear n0_ n1_; clear ho hb hg hat))
   go_ret
   exact ⟨_, by first | rfl | (simp [errW_none, errW_some] <;> rfl) | (simp [*, errW_none, errW_some] <;> rfl), by (with_reducible repeat (first | apply Kd.R_alloc | apply Kd.R_drewN | apply Kd.R_drew)); exact HO400.out, by repeat (first | (with_reducible first | exact HB.out | apply below_alloc | apply pw_below_drewN | apply below_drew1) | exact HB.out)⟩
  ·rw [if_neg c2] at H
   exact absurd H (by simp)
/-! ### solve_Given: function 32 -/
mutual
def solve_Given.j0 : Nat → List (S61) → Int → Int → Bool → Option ((List (S61)) × Int)
 | 0, _, _, _, _ => none
 | k + 1, x0, x1, x2, x30 => if x30 = true then (some (([] : List (S61)), 6)) else (if (x0.length : Int) = 16 then (some (([] : List (S61)), 3)) else (solve_Given.l0 k x1 x2 ([] : List (S61)) x0 (x0.length : Int) 0))
def solve_Given.l0 : Nat → Int → Int → List (S61) → List (S61) → Int → Int → Option ((List (S61)) × Int)
 | 0, _, _, _, _, _, _ => none
 | k + 1, x1, x2, x9, x34, x35, x36 => if x36 < x35 then (if 0 ≤ x36 then (if x36 < (x34.length : Int) then ((slices_Clone_int_int.f ((rd_T61 x34 x36).f0)).bind fun t404 => ((slices_Clone_int_int.f ((rd_T61 x34 x36).f1)).bind fun t407 => (if x9.length < 2932031007402 then (solve_Given.l0 k x1 x2 (x9 ++ [(⟨t404, t407⟩ : S61)]) x34 x35 (wrap64 (x36 + 1))) else (none)))) else (none)) else (none)) else (if x9.length < 2932031007402 then (some ((x9 ++ [(⟨(([x1] : List Int)), (([x2] : List Int))⟩ : S61)]), 0)) else (none))
end
def solve_Given.f (k : Nat) (l0 : List (S61)) (a1 : Int) (a2 : Int) : Option ((List (S61)) × Int) := (solve_valid.f k l0).bind fun t401 => (if t401 = 0 then (if a1 < 0 then (solve_Given.j0 k l0 a1 a2 true) else (if a1 ≥ 24 then (solve_Given.j0 k l0 a1 a2 true) else (if a2 < 0 then (solve_Given.j0 k l0 a1 a2 true) else (solve_Given.j0 k l0 a1 a2 (decide (a2 > 1)))))) else (some (([] : List (S61)), t401)))
theorem solve_Given.mono_l : ∀ k, (∀ y0 y1 y2 y3, LeO (solve_Given.j0 k y0 y1 y2 y3) (solve_Given.j0 (k + 1) y0 y1 y2 y3)) ∧ (∀ y0 y1 y2 y3 y4 y5, LeO (solve_Given.l0 k y0 y1 y2 y3 y4 y5) (solve_Given.l0 (k + 1) y0 y1 y2 y3 y4 y5))
 | 0 => ⟨fun _ _ _ _ r h => by simp [solve_Given.j0] at h, fun _ _ _ _ _ _ r h => by simp [solve_Given.l0] at h⟩
 | k + 1 => by
  obtain ⟨ih0, ih1⟩ := solve_Given.mono_l k
  refine ⟨?_, ?_⟩
  ·intro y0 y1 y2 y3
   unfold solve_Given.j0
   repeat' first
   | (with_reducible exact ih0 _ _ _ _)
   | (with_reducible exact ih1 _ _ _ _ _ _)
   | (with_reducible exact solve_valid.mono _ _)
   | (with_reducible exact LeO.refl _)
   | (with_reducible exact LeO.none _)
   | (with_reducible refine LeO.ite ?_ ?_)
   | (with_reducible refine LeO.bind ?_ (fun _ => ?_))
   | exact ih0 _ _ _ _
   | exact ih1 _ _ _ _ _ _
   | exact solve_valid.mono _ _
   | exact LeO.none _
   | refine LeO.ite ?_ ?_
   | refine LeO.bind ?_ (fun _ => ?_)
  ·intro y0 y1 y2 y3 y4 y5
   unfold solve_Given.l0
   repeat' first
   | (with_reducible exact ih0 _ _ _ _)
   | (with_reducible exact ih1 _ _ _ _ _ _)
   | (with_reducible exact solve_valid.mono _ _)
   | (with_reducible exact LeO.refl _)
   | (with_reducible exact LeO.none _)
   | (with_reducible refine LeO.ite ?_ ?_)
   | (with_reducible refine LeO.bind ?_ (fun _ => ?_))
   | exact ih0 _ _ _ _
   | exact ih1 _ _ _ _ _ _
   | exact solve_valid.mono _ _
   | exact LeO.none _
   | refine LeO.ite ?_ ?_
   | refine LeO.bind ?_ (fun _ => ?_)
theorem solve_Given.mono : ∀ a0 a1 a2 k, LeO (solve_Given.f k a0 a1 a2) (solve_Given.f (k + 1) a0 a1 a2) := by
 intro a0 a1 a2 k
 obtain ⟨ih0, ih1⟩ := solve_Given.mono_l k
 unfold solve_Given.f
 repeat' first
   | (with_reducible exact ih0 _ _ _ _)
   | (with_reducible exact ih1 _ _ _ _ _ _)
   | (with_reducible exact solve_valid.mono _ _)
   | (with_reducible exact LeO.refl _)
   | (with_reducible exact LeO.none _)
   | (with_reducible refine LeO.ite ?_ ?_)
   | (with_reducible refine LeO.bind ?_ (fun _ => ?_))
   | exact ih0 _ _ _ _
   | exact ih1 _ _ _ _ _ _
   | exact solve_valid.mono _ _
   | exact LeO.none _
   | refine LeO.ite ?_ ?_
   | refine LeO.bind ?_ (fun _ => ?_)
def solve_Given.T12 : Bool × List (List Nat × List Nat) := (true, [([], []), ([], []), ([1], [1]), ([2], [2]), ([], []), ([4], [4]), ([5, 3], [5]), ([3, 6], [3, 6]), ([7], [7]), ([0, 8, 6], [0, 8]), ([9, 9, 0, 1, 2, 3, 4, 5, 6, 7, 8, 9], [0, 9])])
def solve_Given.B12 : List Nat := [0, 0, 2, 6, 0, 16, 62, 126, 254, 511, 1023]
theorem solve_Given.tab12 : rtab .any (opsOf Try.f32 12) = solve_Given.T12 := by kernel_rfl
theorem solve_Given.bits12 : waitsOk solve_Given.T12.2 solve_Given.B12 = true := by kernel_rfl
set_option maxHeartbeats 8000000 in
set_option maxRecDepth 100000 in
theorem solve_Given.calls (k : Nat) (A0 : Option Addr) (c0 : Nat) (l0 : List (S61)) (a1 : Int) (a2 : Int) (r1 : List (S61)) (r2 : Int) (w : World) (hr0 : Kd.C k61 w A0 l0.length l0) (hc0 : l0.length ≤ c0) (h : solve_Given.f k l0 a1 a2 = some (r1, r2)) :
  Calls Try.prog 32 #[.slice A0 l0.length c0, .int .i64 a1, .int .i64 a2] w fun e w' => ∃ v0_ : Value, e = .returned (.tuple #[v0_, .int .i64 r2]) ∧ Kd.S k61 61 w' w.heap.size (fun _ => True) v0_ r1 ∧ Below w.heap.size w w' := by
 have hu61 := Try.underlying61
 have hu42 := Try.underlying42
 have HR0 := Aside0.mk hr0
 have HC0 := Aside0.mk hc0
 clear hr0 hc0
 have HB := Aside0.mk (Below.refl w.heap.size w)
 have H : ((solve_valid.f k l0).bind fun t401 => (if t401 = 0 then (if a1 < 0 then (solve_Given.j0 k l0 a1 a2 true) else (if a1 ≥ 24 then (solve_Given.j0 k l0 a1 a2 true) else (if a2 < 0 then (solve_Given.j0 k l0 a1 a2 true) else (solve_Given.j0 k l0 a1 a2 (decide (a2 > 1)))))) else (some (([] : List (S61)), t401)))) = some (r1, r2) := h
 clear h
 replace H := Option.bind_eq_some_iff.mp H
 obtain ⟨t401, A40, H⟩ := H
 replace H : (if t401 = 0 then (if a1 < 0 then (solve_Given.j0 k l0 a1 a2 true) else (if a1 ≥ 24 then (solve_Given.j0 k l0 a1 a2 true) else (if a2 < 0 then (solve_Given.j0 k l0 a1 a2 true) else (solve_Given.j0 k l0 a1 a2 (decide (a2 > 1)))))) else (some (([] : List (S61)), t401))) = some (r1, r2) := H
 have A4 := Aside0.mk A40
 clear A40
 have HC5 := Aside0.mk H
 clear H
 go_enter Try.func32, Try.ntmps32
 go_upto_if 15 with (first | ((with_reducible refine gate_callee (f := 46) rfl ?_); refine goesL_ (some 13) rfl rfl Try.func46 zK rfl #[.slice A0 l0.length c0] rfl zM ?_; (with_reducible refine (solve_valid.calls k _ _ l0 t401 _ ?side1 ?side2 A4.out).mono ?_); (case side1 => repeat (first | exact HR0.out | (with_reducible refine Kd.C_alloc ?_ _) | (with_reducible refine Kd.C_drewN ?_ _) | (with_reducible refine Kd.C_drew ?_))); (case side2 => exact HC0.out); rintro e w6 ⟨rfl, hb⟩; refine ⟨_, rfl, ?_⟩; have n0_ := Aside0.mk (below_step zB hb); clear HB; have HB := n0_; clear n0_; (try clear hb); (try clear hb2); (try clear hk); (try clear hi)))
 (try simp only [Act.put, List.setIfInBounds_toArray, List.set_cons_zero, List.set_cons_succ])
 have H := HC5.out
 clear HC5
 by_cases c7 : t401 = 0
 ·rw [if_pos c7] at H
  have c7b0 : (t401 == 0) = true := beq_iff_eq.mpr c7
  have c7b1 : (t401 != 0) = false := bne_eq_false_iff_eq.mpr c7
  clear c7
  (first | rw [c7b0] | (simp only [i64_w, i32_w]; rw [c7b0]) | skip)
  (try rw [c7b1])
  have HC8 := Aside0.mk H
  clear H
  go_upto_region 4 with (fail)
  go_cut [30] (fun v30 wc => ∃ (kq : Nat) (x30_7 : Bool), v30 = .bool x30_7 ∧ Aside0 (solve_Given.j0 kq l0 a1 a2 x30_7 = some (r1, r2)) ∧ Aside0 (kq ≤ k) ∧ Aside0 (Below w.heap.size w wc))
  case first =>
   have H := HC8.out
   clear HC8
   by_cases c9 : a1 < 0
   ·rw [if_pos c9] at H
    have c9b0 : decide (a1 < 0) = true := decide_eq_true c9
    clear c9
    (first | rw [c9b0] | (simp only [i64_w, i32_w]; rw [c9b0]) | skip)
    have H' := Aside0.mk H
    clear H
    go_wp2
    go_meet
    case rel => exact ⟨_, (true), zT, H', ⟨by first | omega | exact Nat.le_refl _⟩, ⟨by repeat (first | (with_reducible first | exact HB.out | apply below_alloc | apply pw_below_drewN | apply below_drew1) | exact HB.out)⟩⟩
   ·rw [if_neg c9] at H
    have c9b0 : decide (a1 < 0) = false := decide_eq_false c9
    clear c9
    (first | rw [c9b0] | (simp only [i64_w, i32_w]; rw [c9b0]) | skip)
    by_cases c10 : a1 ≥ 24
    ·rw [if_pos c10] at H
     have c10b0 : decide (24 ≤ a1) = true := decide_eq_true c10
     clear c10
     have H' := Aside0.mk H
     clear H
     go_wp2
     go_meet
     case rel => exact ⟨_, (true), zT, H', ⟨by first | omega | exact Nat.le_refl _⟩, ⟨by repeat (first | (with_reducible first | exact HB.out | apply below_alloc | apply pw_below_drewN | apply below_drew1) | exact HB.out)⟩⟩
    ·rw [if_neg c10] at H
     have c10b0 : decide (24 ≤ a1) = false := decide_eq_false c10
     clear c10
     by_cases c11 : a2 < 0
     ·rw [if_pos c11] at H
      have c11b0 : decide (a2 < 0) = true := decide_eq_true c11
      clear c11
      have H' := Aside0.mk H
      clear H
      go_wp2
      go_meet
      case rel => exact ⟨_, (true), zT, H', ⟨by first | omega | exact Nat.le_refl _⟩, ⟨by repeat (first | (with_reducible first | exact HB.out | apply below_alloc | apply pw_below_drewN | apply below_drew1) | exact HB.out)⟩⟩
     ·rw [if_neg c11] at H
      have c11b0 : decide (a2 < 0) = false := decide_eq_false c11
      clear c11
      have H' := Aside0.mk H
      clear H
      go_wp2
      go_meet
      case rel => exact ⟨_, (decide (a2 > 1)), zT, H', ⟨by first | omega | exact Nat.le_refl _⟩, ⟨by repeat (first | (with_reducible first | exact HB.out | apply below_alloc | apply pw_below_drewN | apply below_drew1) | exact HB.out)⟩⟩
  case rest =>
   clear HC8
   try clear c7
   try clear c7b0
   try clear c7b1
   obtain ⟨kq, x30_7, rfl, HA, HJ7, HB⟩ := hcut
   cases kq with
   | zero => exact absurd HA.out (by simp [solve_Given.j0])
   | succ kj7 =>
    have H := HA.out
    clear HA
    simp only [solve_Given.j0] at H
    by_cases c12 : x30_7 = true
    ·subst c12
     have H1 : (some (([] : List (S61)), 6)) = some (r1, r2) := by rw [if_pos rfl] at H; exact H
     clear H
     have H := H1
     clear H1
     simp only [Option.some.injEq, Prod.mk.injEq] at H
     obtain ⟨rfl, rfl⟩ := H
     go_wp2
     go_ret2
     exact ⟨_, by first | rfl | (simp [errW_none, errW_some] <;> rfl) | (simp [*, errW_none, errW_some] <;> rfl), by first | exact Kd.S_nil _ _ _ _ _ | exact Kd.N_nil _ _ _ _ _ | exact Kd.V_nil _ _ _ _ _ | exact Kd.Q_nil _ _ _ _ _ | exact Kd.R_nil _ _ _ _ _, by repeat (first | (with_reducible first | exact HB.out | apply below_alloc | apply pw_below_drewN | apply below_drew1) | exact HB.out)⟩
    ·replace c12 := Bool.eq_false_iff.mpr c12
     subst c12
     have H1 : (if (l0.length : Int) = 16 then (some (([] : List (S61)), 3)) else (solve_Given.l0 kj7 a1 a2 ([] : List (S61)) l0 (l0.length : Int) 0)) = some (r1, r2) := by rw [if_neg (show ¬ (false = true) by decide)] at H; exact H
     clear H
     have H := H1
     clear H1
     by_cases c13 : (l0.length : Int) = 16
     ·rw [if_pos c13] at H
      have c13b0 : ((l0.length : Int) == 16) = true := beq_iff_eq.mpr c13
      have c13b1 : ((l0.length : Int) != 16) = false := bne_eq_false_iff_eq.mpr c13
      clear c13
      simp only [Option.some.injEq, Prod.mk.injEq] at H
      obtain ⟨rfl, rfl⟩ := H
      go_wp2
      go_ret2
      exact ⟨_, by first | rfl | (simp [errW_none, errW_some] <;> rfl) | (simp [*, errW_none, errW_some] <;> rfl), by first | exact Kd.S_nil _ _ _ _ _ | exact Kd.N_nil _ _ _ _ _ | exact Kd.V_nil _ _ _ _ _ | exact Kd.Q_nil _ _ _ _ _ | exact Kd.R_nil _ _ _ _ _, by repeat (first | (with_reducible first | exact HB.out | apply below_alloc | apply pw_below_drewN | apply below_drew1) | exact HB.out)⟩
     ·rw [if_neg c13] at H
      have c13b0 : ((l0.length : Int) == 16) = false := beq_eq_false_iff_ne.mpr c13
      have c13b1 : ((l0.length : Int) != 16) = true := bne_iff_ne.mpr c13
      have H' := Aside0.mk H
      clear H
      go_wp2
      go_loopg [9, 36] kj7 (fun kq v9 v36 w' => ∃ (x9_2 : List (S61)) (x36_2 : Int), v36 = .int .i64 x36_2 ∧ Aside0 (solve_Given.l0 kq a1 a2 x9_2 l0 (l0.length : Int) x36_2 = some (r1, r2)) ∧ Aside0 (kq ≤ kj7) ∧ Aside0 (Kd.S k61 61 w' w.heap.size (fun _ => True) v9 x9_2) ∧ Aside0 (Below w.heap.size w w'))
      case atStart => exact ⟨(([] : List (S61))), (0), zT, H', ⟨Nat.le_refl _⟩, ⟨by first | exact Kd.S_nil _ _ _ _ _ | exact Kd.N_nil _ _ _ _ _ | exact Kd.V_nil _ _ _ _ _ | exact Kd.Q_nil _ _ _ _ _ | exact Kd.R_nil _ _ _ _ _⟩, ⟨by repeat (first | (with_reducible first | exact HB.out | apply below_alloc | apply pw_below_drewN | apply below_drew1) | exact HB.out)⟩⟩
      case round =>
       clear H'
       try clear c7
       try clear c7b0
       try clear c7b1
       try clear c12
       try clear c13
       try clear c13b0
       try clear c13b1
       obtain ⟨x9_2, x36_2, rfl, HA, HK2, HO_9, HB⟩ := hrel
       cases gk with
       | zero => exact absurd HA.out (by simp [solve_Given.l0])
       | succ k2 =>
        have H := HA.out
        clear HA
        simp only [solve_Given.l0] at H
        by_cases c14 : x36_2 < (l0.length : Int)
        ·rw [if_pos c14] at H
         have c14b0 : decide (x36_2 < (l0.length : Int)) = true := decide_eq_true c14
         clear c14
         by_cases c15 : 0 ≤ x36_2
         ·rw [if_pos c15] at H
          have c15b0 : decide (0 ≤ x36_2) = true := decide_eq_true c15
          clear c15
          by_cases c16 : x36_2 < (l0.length : Int)
          ·rw [if_pos c16] at H
           have c16b0 : decide (x36_2 < (l0.length : Int)) = true := decide_eq_true c16
           clear c16
           replace H := Option.bind_eq_some_iff.mp H
           obtain ⟨t404, A170, H⟩ := H
           replace H : ((slices_Clone_int_int.f ((rd_T61 l0 x36_2).f1)).bind fun t407 => (if x9_2.length < 2932031007402 then (solve_Given.l0 k2 a1 a2 (x9_2 ++ [(⟨t404, t407⟩ : S61)]) l0 (l0.length : Int) (wrap64 (x36_2 + 1))) else (none))) = some (r1, r2) := H
           have A17 := Aside0.mk A170
           clear A170
           replace H := Option.bind_eq_some_iff.mp H
           obtain ⟨t407, A180, H⟩ := H
           replace H : (if x9_2.length < 2932031007402 then (solve_Given.l0 k2 a1 a2 (x9_2 ++ [(⟨t404, t407⟩ : S61)]) l0 (l0.length : Int) (wrap64 (x36_2 + 1))) else (none)) = some (r1, r2) := H
           have A18 := Aside0.mk A180
           clear A180
           by_cases c19 : x9_2.length < 2932031007402
           ·rw [if_pos c19] at H
            have LMc19 := Aside0.mk c19
            clear c19
            obtain ⟨y410, hy410⟩ : ∃ y_ : List (S61), y_ = (x9_2 ++ [(⟨t404, t407⟩ : S61)]) := ⟨_, rfl⟩
            replace H : (solve_Given.l0 k2 a1 a2 y410 l0 (l0.length : Int) (wrap64 (x36_2 + 1))) = some (r1, r2) := by first | (rw [hy410]; with_reducible exact H) | (have H2_ := (Option.bind_some _ _).symm.trans H; rw [hy410]; with_reducible exact H2_) | (have H2_ := (Option.bind_some _ _).symm.trans H; with_reducible exact H2_) | with_reducible exact H | (rw [hy410]; exact H) | exact H
            have Ny410 := Aside0.mk hy410
            clear hy410
            have H' := Aside0.mk H
            clear H
            have p402 : 0 ≤ (x36_2 : Int) := of_decide_eq_true zh
            have q402 : x36_2 < (l0.length : Int) := of_decide_eq_true zh
            obtain ⟨ad402, A402_0, c402_0, A402_1, c402_1, e402, hx402_0, hx402_1, hl402_0, hi402_0, hl402_1, hi402_1⟩ := at_T61 HR0.out x36_2 p402 q402
            cases e402
            replace hx402_0 := (HB.out.cell (World.block_lt_of_cell? w _ hx402_0)).trans hx402_0
            replace hx402_1 := (HB.out.cell (World.block_lt_of_cell? w _ hx402_1)).trans hx402_1
            have HR402_0 := Aside0.mk hi402_0
            have HC402_0 := Aside0.mk hl402_0
            clear hi402_0 hl402_0
            have HR402_1 := Aside0.mk hi402_1
            have HC402_1 := Aside0.mk hl402_1
            clear hi402_1 hl402_1
            replace p402 := eq_true p402
            replace q402 := eq_true q402
            try go_wp2_with (first | ((with_reducible refine gate_dst (N := 11) rfl ?_); refine box_event ?hg (N := 11) ?hd (cs := #[.slice none 0 0, .slice none 0 0]) (t := 61) ?hr ?_; (case hd => rfl); (case hg => rfl); (case hr => first | (go_simp; done) | (go_simp; rfl)); intro gb403 hg w20 hbox hb; have n0_ := Aside0.mk (Kd.S_below (Kd.S_elderB (zS HO_9) gb403 (Nat.le_of_eq hg.symm)) hb); have n1_ := Aside0.mk (below_step zB hb); have n2_ := Aside0.mk (hbox); have n3_ := Aside0.mk ((by rw [hg]; exact (below_size zB) : w.heap.size ≤ gb403)); have n4_ := Aside0.mk ((by rw [hg]; exact (below_size zB) : w.heap.size ≤ gb403)); clear HO_9; clear HB; have HO_9 := n0_; have HB := n1_; have BK403 := n2_; have GW403 := n3_; have GE403 := n4_; clear n0_ n1_ n2_ n3_ n4_; clear hb hbox hg; have hcz21_0 : w20.cell? ⟨gb403, 0, none⟩ = some (.slice none 0 0) := (blk_cell BK403.out 0).trans rfl; have hcz21_1 : w20.cell? ⟨gb403, 1, none⟩ = some (.slice none 0 0) := (blk_cell BK403.out 1).trans rfl; have hfz21_0 := blk_frozen BK403.out 0; have hfz21_1 := blk_frozen BK403.out 1))
            have n0_ : Aside0 (Kd.S k61 61 ((w20.setCell ⟨gb403, 0, none⟩ (.slice A402_0 ((rd_T61 l0 x36_2).f0).length c402_0)).setCell ⟨gb403, 1, none⟩ (.slice A402_1 ((rd_T61 l0 x36_2).f1).length c402_1)) w.heap.size (fun k_ => k_ ≠ gb403) u9 x9_2) := ⟨by (with_reducible repeat (first | apply Kd.S_alloc | apply Kd.S_drewN | apply Kd.S_drew)); exact Kd.S_mono (Kd.S_far (p := ⟨gb403, 1, none⟩) (Kd.S_far (p := ⟨gb403, 0, none⟩) (Kd.S_mono HO_9.out (fun k_ hk => (⟨hk, hk.2⟩ : _ ∧ k_ ≠ gb403))) (fun _ hk => hk.2) (.slice A402_0 ((rd_T61 l0 x36_2).f0).length c402_0)) (fun _ hk => hk.2) (.slice A402_1 ((rd_T61 l0 x36_2).f1).length c402_1)) (fun _ hk => hk.1.2)⟩
            have n1_ : Aside0 (((w20.setCell ⟨gb403, 0, none⟩ (.slice A402_0 ((rd_T61 l0 x36_2).f0).length c402_0)).setCell ⟨gb403, 1, none⟩ (.slice A402_1 ((rd_T61 l0 x36_2).f1).length c402_1)).heap[gb403]? = some (.cells #[.slice A402_0 ((rd_T61 l0 x36_2).f0).length c402_0, .slice A402_1 ((rd_T61 l0 x36_2).f1).length c402_1] 61 (0, 0))) := ⟨by (with_reducible repeat (first | refine blk_drewN ?_ _ | refine blk_drew ?_ | refine blk_alloc ?_ _)); refine blk_put (cs := #[.slice A402_0 ((rd_T61 l0 x36_2).f0).length c402_0, .slice none 0 0]) ?_ 1 _ rfl; (with_reducible repeat (first | refine blk_drewN ?_ _ | refine blk_drew ?_ | refine blk_alloc ?_ _)); refine blk_put (cs := #[.slice none 0 0, .slice none 0 0]) ?_ 0 _ rfl; (with_reducible repeat (first | refine blk_drewN ?_ _ | refine blk_drew ?_ | refine blk_alloc ?_ _)); exact BK403.out⟩
            have n2_ : Aside0 (Below w.heap.size w ((w20.setCell ⟨gb403, 0, none⟩ (.slice A402_0 ((rd_T61 l0 x36_2).f0).length c402_0)).setCell ⟨gb403, 1, none⟩ (.slice A402_1 ((rd_T61 l0 x36_2).f1).length c402_1))) := ⟨by repeat (first | (with_reducible first | exact HB.out | apply below_alloc | apply pw_below_drewN | apply below_drew1 | refine below_set ?_ GE403.out) | exact HB.out)⟩
            (try clear HO_9)
            (try clear BK403)
            (try clear HB)
            generalize ((w20.setCell ⟨gb403, 0, none⟩ (.slice A402_0 ((rd_T61 l0 x36_2).f0).length c402_0)).setCell ⟨gb403, 1, none⟩ (.slice A402_1 ((rd_T61 l0 x36_2).f1).length c402_1)) = w22 at n0_ n1_ n2_ ⊢
            have HO_9 := n0_
            have BK403 := n1_
            have HB := n2_
            clear n0_ n1_ n2_
            have n0_ := Aside0.mk (Kd.S_drew HO_9.out)
            have n1_ := Aside0.mk (blk_drew BK403.out)
            have n2_ := Aside0.mk (below_drew1 HB.out)
            clear HO_9
            clear BK403
            clear HB
            have HO_9 := n0_
            have BK403 := n1_
            have HB := n2_
            clear n0_ n1_ n2_
            refine start_ (n := 11) (S := fun w' => w'.cell? ⟨gb403, 0, none⟩ = some (.slice A402_0 ((rd_T61 l0 x36_2).f0).length c402_0) ∧ w'.cell? ⟨gb403, 1, none⟩ = some (.slice A402_1 ((rd_T61 l0 x36_2).f1).length c402_1)) (ds := []) #[false, false, false, false, false, false, false, false, false, false, false] zK rfl rfl ⟨(blk_cell BK403.out 0).trans rfl, (blk_cell BK403.out 1).trans rfl⟩ (fun hHeld => ?_); refine with_tabW solve_Given.tab12 solve_Given.bits12 (fun HT_ HW_ => ?_)
            generalize w22.drew = w23 at HO_9 BK403 HB hHeld ⊢
            refine pure_ (i := 0) (N := some 40) (v := ?_) (a' := ?_) #[true, false, false, false, false, false, false, false, false, false, false] rfl rfl (any_of HT_.out zK) (fun _ _ _ h => h) (Or.inl ⟨by rfl, ?_⟩) ?_ ?_
            rotate_left
            ·intro w'
             go_simp
             with_reducible rfl
            rotate_left
            ·simp only [Act.put, List.setIfInBounds_toArray, List.set_cons_zero, List.set_cons_succ, i64_w, i32_w]
             rfl
            refine pure_ (i := 1) (N := some 41) (v := ?_) (a' := ?_) #[true, true, false, false, false, false, false, false, false, false, false] rfl rfl (any_of HT_.out zK) (fun _ _ _ h => h) (Or.inl ⟨by rfl, ?_⟩) ?_ ?_
            rotate_left
            ·intro w'
             go_simp
             with_reducible rfl
            rotate_left
            ·simp only [Act.put, List.setIfInBounds_toArray, List.set_cons_zero, List.set_cons_succ, i64_w, i32_w]
             rfl
            refine pure_ (i := 4) (N := some 44) (v := ?_) (a' := ?_) #[true, true, false, false, true, false, false, false, false, false, false] rfl rfl (any_of HT_.out zK) (fun _ _ _ h => h) (Or.inl ⟨by rfl, ?_⟩) ?_ ?_
            rotate_left
            ·intro w'
             go_simp
             with_reducible rfl
            rotate_left
            ·simp only [Act.put, List.setIfInBounds_toArray, List.set_cons_zero, List.set_cons_succ, i64_w, i32_w]
             rfl
            refine take_ (i := 2) (N := some 42) (v := ?_) (a' := ?_) #[true, true, true, false, true, false, false, false, false, false, false] rfl rfl (take_ofW HT_.out HW_.out zK) (fun _ _ _ h => h) (Or.inl ⟨by rfl, ?_⟩) hHeld ?_ ?_
            rotate_left
            ·rintro w' ⟨s0, s1⟩
             go_simp
             with_reducible rfl
            rotate_left
            ·simp only [Act.put, List.setIfInBounds_toArray, List.set_cons_zero, List.set_cons_succ, i64_w, i32_w]
             rfl
            refine take_ (i := 5) (N := some 45) (v := ?_) (a' := ?_) #[true, true, true, false, true, true, false, false, false, false, false] rfl rfl (take_ofW HT_.out HW_.out zK) (fun _ _ _ h => h) (Or.inl ⟨by rfl, ?_⟩) hHeld ?_ ?_
            rotate_left
            ·rintro w' ⟨s0, s1⟩
             go_simp
             with_reducible rfl
            rotate_left
            ·simp only [Act.put, List.setIfInBounds_toArray, List.set_cons_zero, List.set_cons_succ, i64_w, i32_w]
             rfl
            refine one_ (i := 3) (N := some 43) #[true, true, true, true, true, true, false, false, false, false, false] rfl rfl (one_of HT_.out zK) (by decide) (fun K hK => ?_)
            refine goes_ Try.func63 zK rfl #[.slice A402_0 ((rd_T61 l0 x36_2).f0).length c402_0] (by rfl) rfl rfl zM ?_
            with_reducible refine (slices_Clone_int_int.calls _ _ ((rd_T61 l0 x36_2).f0) t404 _ ?side1 ?side2 A17.out).mono ?_
            (case side1 => repeat (first | exact (Kd.C_below HR402_0.out HB.out) | (with_reducible refine Kd.C_alloc ?_ _) | (with_reducible refine Kd.C_drewN ?_ _) | (with_reducible refine Kd.C_drew ?_)))
            (case side2 => exact HC402_0.out)
            rintro e w24 ⟨v405, rfl, ho0, hb⟩
            refine ⟨_, rfl, ?_⟩
            have n0_ := Aside0.mk (Kd.S_elder' (zS HO_9) (Kd.R_base ho0) hb)
            have n1_ := Aside0.mk (Kd.R_lower ho0 (below_size zB))
            have n2_ := Aside0.mk (blk_below (g := gb403) (o := .cells #[.slice A402_0 ((rd_T61 l0 x36_2).f0).length c402_0, .slice A402_1 ((rd_T61 l0 x36_2).f1).length c402_1] 61 (0, 0)) (zk BK403) hb)
            have n3_ := Aside0.mk (below_step zB hb)
            clear HO_9
            clear BK403
            clear HB
            have HO_9 := n0_
            have HO406 := n1_
            have BK403 := n2_
            have HB := n3_
            clear n0_ n1_ n2_ n3_
            (try clear hb)
            (try clear hb2)
            (try clear hk)
            (try clear hi)
            (try clear ho0)
            refine hK.out _ _ ⟨(blk_cell BK403.out 0).trans rfl, (blk_cell BK403.out 1).trans rfl⟩ (fun hHeld => ?_)
            clear hK K
            refine norm_ (a' := ?_) ?_ ?_
            rotate_left
            ·show Act.put _ (some 43) _ = _
             simp only [Act.put, List.setIfInBounds_toArray, List.set_cons_zero, List.set_cons_succ, i64_w, i32_w]
             rfl
            refine one_ (i := 6) (N := some 46) #[true, true, true, true, true, true, true, false, false, false, false] rfl rfl (one_of HT_.out zK) (by decide) (fun K hK => ?_)
            refine goes_ Try.func63 zK rfl #[.slice A402_1 ((rd_T61 l0 x36_2).f1).length c402_1] (by rfl) rfl rfl zM ?_
            with_reducible refine (slices_Clone_int_int.calls _ _ ((rd_T61 l0 x36_2).f1) t407 _ ?side1 ?side2 A18.out).mono ?_
            (case side1 => repeat (first | exact (Kd.C_below HR402_1.out HB.out) | (with_reducible refine Kd.C_alloc ?_ _) | (with_reducible refine Kd.C_drewN ?_ _) | (with_reducible refine Kd.C_drew ?_)))
            (case side2 => exact HC402_1.out)
            rintro e w25 ⟨v408, rfl, ho0, hb⟩
            refine ⟨_, rfl, ?_⟩
            have n0_ := Aside0.mk (Kd.S_elder' (zS HO_9) (Kd.R_base ho0) hb)
            have n1_ := Aside0.mk (Kd.R_elder' (zR HO406) (Kd.R_base ho0) hb)
            have n2_ := Aside0.mk (Kd.R_lower (Kd.R_new' ho0 (Kd.R_lt (zR HO406))) (below_size zB))
            have n3_ := Aside0.mk (blk_below (g := gb403) (o := .cells #[.slice A402_0 ((rd_T61 l0 x36_2).f0).length c402_0, .slice A402_1 ((rd_T61 l0 x36_2).f1).length c402_1] 61 (0, 0)) (zk BK403) hb)
            have n4_ := Aside0.mk (below_step zB hb)
            clear HO_9
            clear HO406
            clear BK403
            clear HB
            have HO_9 := n0_
            have HO406 := n1_
            have HO409 := n2_
            have BK403 := n3_
            have HB := n4_
            clear n0_ n1_ n2_ n3_ n4_
            (try clear hb)
            (try clear hb2)
            (try clear hk)
            (try clear hi)
            (try clear ho0)
            obtain ⟨Ao26, co26, eo26⟩ := Kd.R_slice HO409.out
            (first | subst eo26 | (injection eo26 with f1_ f2_ f3_; have f4_ := f1_.symm; have f5_ := f3_.symm; clear f1_ f2_ f3_; subst f4_; subst f5_))
            obtain ⟨Ao27, co27, eo27⟩ := Kd.R_slice HO406.out
            (first | subst eo27 | (injection eo27 with f1_ f2_ f3_; have f4_ := f1_.symm; have f5_ := f3_.symm; clear f1_ f2_ f3_; subst f4_; subst f5_))
            refine hK.out _ _ ⟨(blk_cell BK403.out 0).trans rfl, (blk_cell BK403.out 1).trans rfl⟩ (fun hHeld => ?_)
            clear hK K
            refine norm_ (a' := ?_) ?_ ?_
            rotate_left
            ·show Act.put _ (some 46) _ = _
             simp only [Act.put, List.setIfInBounds_toArray, List.set_cons_zero, List.set_cons_succ, i64_w, i32_w]
             rfl
            refine pure_ (i := 7) (N := some 47) (v := ?_) (a' := ?_) #[true, true, true, true, true, true, true, true, false, false, false] rfl rfl (any_of HT_.out zK) (fun _ _ _ h => h) (Or.inl ⟨by rfl, ?_⟩) ?_ ?_
            rotate_left
            ·intro w'
             go_simp
             with_reducible rfl
            rotate_left
            ·simp only [Act.put, List.setIfInBounds_toArray, List.set_cons_zero, List.set_cons_succ, i64_w, i32_w]
             rfl
            refine one_ (i := 8) (N := some 48) #[true, true, true, true, true, true, true, true, true, false, false] rfl rfl (one_of HT_.out zK) (by decide) (fun K hK => ?_)
            refine value_ (w1 := ?_) (v := ?_) (by rfl) rfl ?_ ?_
            rotate_left 2
            ·go_simp
             constructor
             ·rfl
             ·rfl
            refine hK.out _ _ ⟨(blk_cell (blk_alloc BK403.out _) 0).trans rfl, (blk_cell (blk_alloc BK403.out _) 1).trans rfl⟩ (fun hHeld => ?_)
            clear hK K
            refine norm_ (a' := ?_) ?_ ?_
            rotate_left
            ·show Act.put _ (some 48) _ = _
             simp only [Act.put, List.setIfInBounds_toArray, List.set_cons_zero, List.set_cons_succ, i64_w, i32_w]
             rfl
            refine one_ (i := 9) (N := some 49) #[true, true, true, true, true, true, true, true, true, true, false] rfl rfl (one_of HT_.out zK) (by decide) (fun K hK => ?_)
            refine Kd.S_append_step k61 (w0 := w) w.heap.size (by rfl) (.tmp 40) (.tmp 48) 22 61 (.agg #[(.slice none 0 0), (.slice none 0 0)]) 48 rfl Try.underlying22 info61 rfl (by decide) (by omega) u9 x9_2 (⟨t404, t407⟩ : S61) [.slice Ao27 t404.length co27, .slice Ao26 t407.length co26] (fun k_ => k_ ≠ gb403) (fun k_ => some k_ = (.slice Ao27 t404.length co27 : Value).ownBlock ∨ some k_ = (.slice Ao26 t407.length co26 : Value).ownBlock) rfl rfl ?aP (fun k_ hk_ => hk_.elim (fun h_ => ((Kd.R_mono (ok' := fun k_ => ((fun k_ => k_ ≠ gb403)) k_ ∧ some k_ ≠ (u9 : Value).ownBlock) (Kd.R_types (Kd.R_apart' (HO406.out) (Kd.S_typed HO_9.out) (by decide)) BK403.out (by decide)) (fun k_ hk => ⟨hk.2, hk.1.2⟩))).1 k_ h_.symm) (fun h_ => ((Kd.R_mono (ok' := fun k_ => ((fun k_ => k_ ≠ gb403)) k_ ∧ some k_ ≠ (u9 : Value).ownBlock) (Kd.R_types (Kd.R_apart' (HO409.out) (Kd.S_typed HO_9.out) (by decide)) BK403.out (by decide)) (fun k_ hk => ⟨hk.2, hk.1.2⟩))).1 k_ h_.symm)) ?aF ?aO ?aB ?aS ?aL ?_
            (case aP => exact k61_mkM _ _ _ (⟨t404, t407⟩ : S61) (Kd.R_mono (Kd.R_tight rfl (Kd.R_mono (ok' := fun k_ => ((fun k_ => k_ ≠ gb403)) k_ ∧ some k_ ≠ (u9 : Value).ownBlock) (Kd.R_types (Kd.R_apart' (HO406.out) (Kd.S_typed HO_9.out) (by decide)) BK403.out (by decide)) (fun k_ hk => ⟨hk.2, hk.1.2⟩))) (fun _ h_ => Or.inl h_)) (Kd.R_mono (Kd.R_tight rfl (Kd.R_mono (ok' := fun k_ => ((fun k_ => k_ ≠ gb403)) k_ ∧ some k_ ≠ (u9 : Value).ownBlock) (Kd.R_types (Kd.R_apart' (HO409.out) (Kd.S_typed HO_9.out) (by decide)) BK403.out (by decide)) (fun k_ hk => ⟨hk.2, hk.1.2⟩))) (fun _ h_ => Or.inr (h_))))
            (case aB => exact zB)
            (case aF => exact (fun k_ hk => Kd.freshB (g := gb403) (o := .cells #[.slice A402_0 ((rd_T61 l0 x36_2).f0).length c402_0, .slice A402_1 ((rd_T61 l0 x36_2).f1).length c402_1] 61 (0, 0)) (zk BK403) k_ hk))
            (case aO => exact (by (with_reducible repeat (first | apply Kd.S_alloc | apply Kd.S_drewN | apply Kd.S_drew)); exact Kd.S_mono HO_9.out (fun k_ hk => ⟨hk.1.1, fun e_ => e_.elim (fun h_ => hk.1.2 h_) (fun h_ => hk.2 h_)⟩)))
            (case aS => exact (below_size zB))
            (case aL => have := LMc19.out; omega)
            intro v411 w28 ho hb hg hat
            rw [← Ny410.out] at ho
            have n0_ := Aside0.mk (blk_grown (g := gb403) (o := .cells #[.slice A402_0 ((rd_T61 l0 x36_2).f0).length c402_0, .slice A402_1 ((rd_T61 l0 x36_2).f1).length c402_1] 61 (0, 0)) (zk BK403) hg (Kd.S_away HO_9.out (fun _ hk => hk.1.1)))
            have n1_ := Aside0.mk (hb)
            have n2_ := Aside0.mk (ho)
            clear BK403
            clear HB
            clear HO_9
            clear HO406
            clear HO409
            have BK403 := n0_
            have HB := n1_
            have HO412 := n2_
            clear n0_ n1_ n2_
            clear ho hb hg hat
            refine hK.out _ _ ⟨(blk_cell BK403.out 0).trans rfl, (blk_cell BK403.out 1).trans rfl⟩ (fun hHeld => ?_)
            clear hK K
            refine norm_ (a' := ?_) ?_ ?_
            rotate_left
            ·show Act.put _ (some 49) _ = _
             simp only [Act.put, List.setIfInBounds_toArray, List.set_cons_zero, List.set_cons_succ, i64_w, i32_w]
             rfl
            refine pure_ (i := 10) (N := some 9) (v := ?_) (a' := ?_) #[true, true, true, true, true, true, true, true, true, true, true] rfl rfl (any_of HT_.out zK) (fun _ _ _ h => h) (Or.inl ⟨by rfl, ?_⟩) ?_ ?_
            rotate_left
            ·intro w'
             go_simp
             with_reducible rfl
            rotate_left
            ·simp only [Act.put, List.setIfInBounds_toArray, List.set_cons_zero, List.set_cons_succ, i64_w, i32_w]
             rfl
            refine done_ (done_of HT_.out zK) ?_
            try go_wp2
            go_roundg k2
            case measure => have := HJ7.out; have := HK2.out; omega
            case rel => exact ⟨(y410), (wrap64 (x36_2 + 1)), zT, H', ⟨by have := HJ7.out; have := HK2.out; omega⟩, ⟨by (with_reducible repeat (first | apply Kd.S_alloc | apply Kd.S_drewN | apply Kd.S_drew)); exact Kd.S_mono HO412.out (fun _ hk => trivial)⟩, ⟨by repeat (first | (with_reducible first | exact HB.out | apply below_alloc | apply pw_below_drewN | apply below_drew1 | refine below_set ?_ GE403.out) | exact HB.out)⟩⟩
           ·rw [if_neg c19] at H
            exact absurd H (by simp)
          ·rw [if_neg c16] at H
           exact absurd H (by simp)
         ·rw [if_neg c15] at H
          exact absurd H (by simp)
        ·rw [if_neg c14] at H
         have c14b0 : decide (x36_2 < (l0.length : Int)) = false := decide_eq_false c14
         clear c14
         obtain ⟨y413, hy413⟩ : ∃ y_ : List Int, y_ = (([a1] : List Int)) := ⟨_, rfl⟩
         replace H : (if x9_2.length < 2932031007402 then (some ((x9_2 ++ [(⟨y413, (([a2] : List Int))⟩ : S61)]), 0)) else (none)) = some (r1, r2) := by first | (rw [hy413]; with_reducible exact H) | (have H2_ := (Option.bind_some _ _).symm.trans H; rw [hy413]; with_reducible exact H2_) | (have H2_ := (Option.bind_some _ _).symm.trans H; with_reducible exact H2_) | with_reducible exact H | (rw [hy413]; exact H) | exact H
         have Ny413 := Aside0.mk hy413
         clear hy413
         obtain ⟨y416, hy416⟩ : ∃ y_ : List Int, y_ = (([a2] : List Int)) := ⟨_, rfl⟩
         replace H : (if x9_2.length < 2932031007402 then (some ((x9_2 ++ [(⟨y413, y416⟩ : S61)]), 0)) else (none)) = some (r1, r2) := by first | (rw [hy416]; with_reducible exact H) | (have H2_ := (Option.bind_some _ _).symm.trans H; rw [hy416]; with_reducible exact H2_) | (have H2_ := (Option.bind_some _ _).symm.trans H; with_reducible exact H2_) | with_reducible exact H | (rw [hy416]; exact H) | exact H
         have Ny416 := Aside0.mk hy416
         clear hy416
         by_cases c29 : x9_2.length < 2932031007402
         ·rw [if_pos c29] at H
          have LMc29 := Aside0.mk c29
          clear c29
          obtain ⟨y419, hy419⟩ : ∃ y_ : List (S61), y_ = (x9_2 ++ [(⟨y413, y416⟩ : S61)]) := ⟨_, rfl⟩
          replace H : (some (y419, 0)) = some (r1, r2) := by first | (rw [hy419]; with_reducible exact H) | (have H2_ := (Option.bind_some _ _).symm.trans H; rw [hy419]; with_reducible exact H2_) | (have H2_ := (Option.bind_some _ _).symm.trans H; with_reducible exact H2_) | with_reducible exact H | (rw [hy419]; exact H) | exact H
          have Ny419 := Aside0.mk hy419
          clear hy419
          simp only [Option.some.injEq, Prod.mk.injEq] at H
          obtain ⟨rfl, rfl⟩ := H
          go_wp2_with (first | ((with_reducible refine gate_dst (N := 53) rfl ?_); refine Kd.R_lit (Kd.int .i64) _ 3 ?hg (N := 53) ?hd (xs := ([a1] : List Int)) (inner := [.int .i64 a1]) (ok := fun _ => True) (okp := fun _ => True) ?hr ?hp (fun _ hk => hk) trivial (Below.refl _ _) (Nat.le_refl _) (by simp) ?_; (case hd => rfl); (case hg => rfl); (case hr => first | (go_simp; done) | (go_simp; rfl)); (case hp => exact (Reps.one (show Kd.M (Kd.int .i64) _ _ _ a1 [.int .i64 a1] from rfl) (Reps.none _ _))); intro v414 w30 ho31 hb hg_ hnew_; clear hg_ hnew_; (first | rw [← Ny413.out] at ho31 | (simp only [Int.reduceToNat] at ho31; rw [← Ny413.out] at ho31)); have n0_ := Aside0.mk (Kd.S_elder' (zS HO_9) (Kd.R_base ho31) hb); have n1_ := Aside0.mk (Kd.R_lower ho31 (below_size zB)); have n2_ := Aside0.mk (below_step zB hb); clear HO_9; clear HB; have HO_9 := n0_; have HO415 := n1_; have HB := n2_; clear n0_ n1_ n2_; clear hb ho31) | ((with_reducible refine gate_dst (N := 55) rfl ?_); refine Kd.R_lit (Kd.int .i64) _ 3 ?hg (N := 55) ?hd (xs := ([a2] : List Int)) (inner := [.int .i64 a2]) (ok := fun _ => True) (okp := fun _ => True) ?hr ?hp (fun _ hk => hk) trivial (Below.refl _ _) (Nat.le_refl _) (by simp) ?_; (case hd => rfl); (case hg => rfl); (case hr => first | (go_simp; done) | (go_simp; rfl)); (case hp => exact (Reps.one (show Kd.M (Kd.int .i64) _ _ _ a2 [.int .i64 a2] from rfl) (Reps.none _ _))); intro v417 w32 ho33 hb hg_ hnew_; clear hg_ hnew_; (first | rw [← Ny416.out] at ho33 | (simp only [Int.reduceToNat] at ho33; rw [← Ny416.out] at ho33)); have n0_ := Aside0.mk (Kd.S_elder' (zS HO_9) (Kd.R_base ho33) hb); have n1_ := Aside0.mk (Kd.R_elder' (zR HO415) (Kd.R_base ho33) hb); have n2_ := Aside0.mk (Kd.R_lower (Kd.R_new' ho33 (Kd.R_lt (zR HO415))) (below_size zB)); have n3_ := Aside0.mk (below_step zB hb); clear HO_9; clear HO415; clear HB; have HO_9 := n0_; have HO415 := n1_; have HO418 := n2_; have HB := n3_; clear n0_ n1_ n2_ n3_; clear hb ho33; obtain ⟨Ao34, co34, eo34⟩ := Kd.R_slice HO418.out; subst eo34; obtain ⟨Ao35, co35, eo35⟩ := Kd.R_slice HO415.out; subst eo35) | ((with_reducible refine gate_builtin (b := .append) (xs := #[.tmp 51, .tmp 57]) rfl ?_); at_builtin; refine Kd.S_append k61 (w0 := w) w.heap.size rfl (.tmp 51) (.tmp 57) 22 61 (.agg #[(.slice none 0 0), (.slice none 0 0)]) 48 rfl Try.underlying22 info61 rfl (by decide) (by omega) u9 x9_2 (⟨y413, y416⟩ : S61) [.slice Ao35 y413.length co35, .slice Ao34 y416.length co34] (fun _ => True) (fun k_ => some k_ = (.slice Ao35 y413.length co35 : Value).ownBlock ∨ some k_ = (.slice Ao34 y416.length co34 : Value).ownBlock) rfl rfl ?aP (fun k_ hk_ => hk_.elim (fun h_ => ((Kd.R_mono (ok' := fun k_ => ((fun _ => True)) k_ ∧ some k_ ≠ (u9 : Value).ownBlock) (Kd.R_apart' (HO415.out) (Kd.S_typed HO_9.out) (by decide)) (fun k_ hk => ⟨trivial, hk.2⟩))).1 k_ h_.symm) (fun h_ => ((Kd.R_mono (ok' := fun k_ => ((fun _ => True)) k_ ∧ some k_ ≠ (u9 : Value).ownBlock) (Kd.R_apart' (HO418.out) (Kd.S_typed HO_9.out) (by decide)) (fun k_ hk => ⟨trivial, hk.2⟩))).1 k_ h_.symm)) ?aF ?aO ?aB ?aS ?aL ?_; (case aP => exact k61_mkM _ _ _ (⟨y413, y416⟩ : S61) (Kd.R_mono (Kd.R_tight rfl (Kd.R_mono (ok' := fun k_ => ((fun _ => True)) k_ ∧ some k_ ≠ (u9 : Value).ownBlock) (Kd.R_apart' (HO415.out) (Kd.S_typed HO_9.out) (by decide)) (fun k_ hk => ⟨trivial, hk.2⟩))) (fun _ h_ => Or.inl h_)) (Kd.R_mono (Kd.R_tight rfl (Kd.R_mono (ok' := fun k_ => ((fun _ => True)) k_ ∧ some k_ ≠ (u9 : Value).ownBlock) (Kd.R_apart' (HO418.out) (Kd.S_typed HO_9.out) (by decide)) (fun k_ hk => ⟨trivial, hk.2⟩))) (fun _ h_ => Or.inr (h_)))); (case aB => exact zB); (case aF => exact (fun _ _ => trivial)); (case aO => exact (by (with_reducible repeat (first | apply Kd.S_alloc | apply Kd.S_drewN | apply Kd.S_drew)); exact Kd.S_mono HO_9.out (fun k_ hk => ⟨trivial, fun e_ => e_.elim (fun h_ => hk.1.2 h_) (fun h_ => hk.2 h_)⟩))); (case aS => exact (below_size zB)); (case aL => have := LMc29.out; omega); intro v420 w36 ho hb hg hat; rw [← Ny419.out] at ho; have n0_ := Aside0.mk (hb); have n1_ := Aside0.mk (ho); clear HB; clear HO_9; clear HO415; clear HO418; have HB := n0_; have HO421 := n1_; clear n0_ n1_; clear ho hb hg hat))
          go_ret2
          exact ⟨_, by first | rfl | (simp [errW_none, errW_some] <;> rfl) | (simp [*, errW_none, errW_some] <;> rfl), by (with_reducible repeat (first | apply Kd.S_alloc | apply Kd.S_drewN | apply Kd.S_drew)); exact HO421.out, by repeat (first | (with_reducible first | exact HB.out | apply below_alloc | apply pw_below_drewN | apply below_drew1) | exact HB.out)⟩
         ·rw [if_neg c29] at H
          exact absurd H (by simp)
 ·rw [if_neg c7] at H
  have c7b0 : (t401 == 0) = false := beq_eq_false_iff_ne.mpr c7
  have c7b1 : (t401 != 0) = true := bne_iff_ne.mpr c7
  (first | rw [c7b0] | (simp only [i64_w, i32_w]; rw [c7b0]) | skip)
  (try rw [c7b1])
  simp only [Option.some.injEq, Prod.mk.injEq] at H
  obtain ⟨rfl, rfl⟩ := H
  go_wp2
  go_ret2
  exact ⟨_, by first | rfl | (simp [errW_none, errW_some] <;> rfl) | (simp [*, errW_none, errW_some] <;> rfl), by first | exact Kd.S_nil _ _ _ _ _ | exact Kd.N_nil _ _ _ _ _ | exact Kd.V_nil _ _ _ _ _ | exact Kd.Q_nil _ _ _ _ _ | exact Kd.R_nil _ _ _ _ _, by repeat (first | (with_reducible first | exact HB.out | apply below_alloc | apply pw_below_drewN | apply below_drew1) | exact HB.out)⟩
end Go.Proofs.Ytbagnalcabdlhaa.S
