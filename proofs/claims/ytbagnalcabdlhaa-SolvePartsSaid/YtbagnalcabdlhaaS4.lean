-- Written by wip/tools/myprint.py, a program of this session's.
import Derived.Test.YtbagnalcabdlhaaS0
import Derived.Test.YtbagnalcabdlhaaS2
import Derived.Test.YtbagnalcabdlhaaS3
namespace Go.Proofs.Ytbagnalcabdlhaa.S
open Go.RowKit Go.Proofs.YtbagnalcabdlhaaW.PrintWords Go.Proofs.YtbagnalcabdlhaaW.PrintLast Go.Proofs.YtbagnalcabdlhaaW.PrintMore
attribute [local go_sem] max2_int min2_int max_two min_two max_three min_three max_four min_four   -- for this text's walks alone
set_option linter.unusedVariables false
set_option linter.unusedSimpArgs false
/-! ### api_Table_solve_choices_fails: function 1000093 -/
def api_Table_solve_choices_fails.l0 : Nat → List (S61) → Int → Int → Int → Int → Option (Int)
 | 0, _, _, _, _, _ => none
 | k + 1, x0, x7, x8, x260000, x260001 => if x8 < x7 then (if 0 ≤ x8 then (if x8 < (x0.length : Int) then ((solve_choices_fails.f k x260000 x260001 ((rd_T61 x0 x8).f0) ((rd_T61 x0 x8).f1)).bind fun t261 => (if t261 = true then (some x8) else (api_Table_solve_choices_fails.l0 k x0 x7 (wrap64 (x8 + 1)) x260000 x260001))) else (none)) else (none)) else (some (-1))
def api_Table_solve_choices_fails.f (k : Nat) (l0 : List (S61)) (a1_0 : Int) (a1_1 : Int) : Option (Int) := api_Table_solve_choices_fails.l0 k l0 (l0.length : Int) 0 a1_0 a1_1
theorem api_Table_solve_choices_fails.mono_l : ∀ k, (∀ y0 y1 y2 y3 y4, LeO (api_Table_solve_choices_fails.l0 k y0 y1 y2 y3 y4) (api_Table_solve_choices_fails.l0 (k + 1) y0 y1 y2 y3 y4))
 | 0 => fun _ _ _ _ _ r h => by simp [api_Table_solve_choices_fails.l0] at h
 | k + 1 => by
  have ih0 := api_Table_solve_choices_fails.mono_l k
  ·intro y0 y1 y2 y3 y4
   unfold api_Table_solve_choices_fails.l0
   repeat' first
   | (with_reducible exact ih0 _ _ _ _ _)
   | (with_reducible exact solve_choices_fails.mono _ _ _ _ _)
   | (with_reducible exact LeO.refl _)
   | (with_reducible exact LeO.none _)
   | (with_reducible refine LeO.ite ?_ ?_)
   | (with_reducible refine LeO.bind ?_ (fun _ => ?_))
   | exact ih0 _ _ _ _ _
   | exact solve_choices_fails.mono _ _ _ _ _
   | exact LeO.none _
   | refine LeO.ite ?_ ?_
   | refine LeO.bind ?_ (fun _ => ?_)
theorem api_Table_solve_choices_fails.mono : ∀ a0 a1 a2 k, LeO (api_Table_solve_choices_fails.f k a0 a1 a2) (api_Table_solve_choices_fails.f (k + 1) a0 a1 a2) := by
 intro a0 a1 a2 k
 have ih0 := api_Table_solve_choices_fails.mono_l k
 unfold api_Table_solve_choices_fails.f
 repeat' first
   | (with_reducible exact ih0 _ _ _ _ _)
   | (with_reducible exact solve_choices_fails.mono _ _ _ _ _)
   | (with_reducible exact LeO.refl _)
   | (with_reducible exact LeO.none _)
   | (with_reducible refine LeO.ite ?_ ?_)
   | (with_reducible refine LeO.bind ?_ (fun _ => ?_))
   | exact ih0 _ _ _ _ _
   | exact solve_choices_fails.mono _ _ _ _ _
   | exact LeO.none _
   | refine LeO.ite ?_ ?_
   | refine LeO.bind ?_ (fun _ => ?_)
set_option maxHeartbeats 8000000 in
set_option maxRecDepth 100000 in
theorem api_Table_solve_choices_fails.calls (k : Nat) (A0 : Option Addr) (c0 : Nat) (l0 : List (S61)) (a1_0 : Int) (a1_1 : Int) (r : Int) (w : World) (hr0 : Kd.C k61 w A0 l0.length l0) (hc0 : l0.length ≤ c0) (h : api_Table_solve_choices_fails.f k l0 a1_0 a1_1 = some r) :
  Calls Try.prog 93 #[.slice A0 l0.length c0, .func (.func 92) #[.agg #[.int .i64 a1_0, .int .i64 a1_1]] #[]] w fun e w' => e = .returned (.int .i64 r) ∧ Below w.heap.size w w' := by
 have hu61 := Try.underlying61
 have HR0 := Aside0.mk hr0
 have HC0 := Aside0.mk hc0
 clear hr0 hc0
 have HB := Aside0.mk (Below.refl w.heap.size w)
 have H : (api_Table_solve_choices_fails.l0 k l0 (l0.length : Int) 0 a1_0 a1_1) = some r := h
 clear h
 have H' := Aside0.mk H
 clear H
 go_enter Try.func93, Try.ntmps93
 go_wp2
 go_loopg [8] k (fun kq v8 w' => ∃ (x8_1 : Int), v8 = .int .i64 x8_1 ∧ Aside0 (api_Table_solve_choices_fails.l0 kq l0 (l0.length : Int) x8_1 a1_0 a1_1 = some r) ∧ Aside0 (kq ≤ k) ∧ Aside0 (Below w.heap.size w w'))
 case atStart => exact ⟨(0), zT, H', ⟨Nat.le_refl _⟩, ⟨by repeat (first | (with_reducible first | exact HB.out | apply below_alloc | apply pw_below_drewN | apply below_drew1) | exact HB.out)⟩⟩
 case round =>
  clear H'
  obtain ⟨x8_1, rfl, HA, HK1, HB⟩ := hrel
  cases gk with
  | zero => exact absurd HA.out (by simp [api_Table_solve_choices_fails.l0])
  | succ k1 =>
   have H := HA.out
   clear HA
   simp only [api_Table_solve_choices_fails.l0] at H
   by_cases c3 : x8_1 < (l0.length : Int)
   ·rw [if_pos c3] at H
    have c3b0 : decide (x8_1 < (l0.length : Int)) = true := decide_eq_true c3
    clear c3
    by_cases c4 : 0 ≤ x8_1
    ·rw [if_pos c4] at H
     have c4b0 : decide (0 ≤ x8_1) = true := decide_eq_true c4
     clear c4
     by_cases c5 : x8_1 < (l0.length : Int)
     ·rw [if_pos c5] at H
      have c5b0 : decide (x8_1 < (l0.length : Int)) = true := decide_eq_true c5
      clear c5
      replace H := Option.bind_eq_some_iff.mp H
      obtain ⟨t261, A60, H⟩ := H
      replace H : (if t261 = true then (some x8_1) else (api_Table_solve_choices_fails.l0 k1 l0 (l0.length : Int) (wrap64 (x8_1 + 1)) a1_0 a1_1)) = some r := H
      have A6 := Aside0.mk A60
      clear A60
      have HC7 := Aside0.mk H
      clear H
      have p260 : 0 ≤ (x8_1 : Int) := of_decide_eq_true zh
      have q260 : x8_1 < (l0.length : Int) := of_decide_eq_true zh
      obtain ⟨ad260, A260_0, c260_0, A260_1, c260_1, e260, hx260_0, hx260_1, hl260_0, hi260_0, hl260_1, hi260_1⟩ := at_T61 HR0.out x8_1 p260 q260
      cases e260
      replace hx260_0 := (HB.out.cell (World.block_lt_of_cell? w _ hx260_0)).trans hx260_0
      replace hx260_1 := (HB.out.cell (World.block_lt_of_cell? w _ hx260_1)).trans hx260_1
      have HR260_0 := Aside0.mk hi260_0
      have HC260_0 := Aside0.mk hl260_0
      clear hi260_0 hl260_0
      have HR260_1 := Aside0.mk hi260_1
      have HC260_1 := Aside0.mk hl260_1
      clear hi260_1 hl260_1
      replace p260 := eq_true p260
      replace q260 := eq_true q260
      go_upto_if 16 with (first | (go_at_call 92; (with_reducible refine (solve_choices_fails.calls k1 a1_0 a1_1 _ _ ((rd_T61 l0 x8_1).f0) _ _ ((rd_T61 l0 x8_1).f1) t261 _ ?side1 ?side2 ?side3 ?side4 A6.out).mono ?_); (case side1 => repeat (first | exact (Kd.C_below HR260_0.out HB.out) | (with_reducible refine Kd.C_alloc ?_ _) | (with_reducible refine Kd.C_drewN ?_ _) | (with_reducible refine Kd.C_drew ?_))); (case side2 => exact HC260_0.out); (case side3 => repeat (first | exact (Kd.C_below HR260_1.out HB.out) | (with_reducible refine Kd.C_alloc ?_ _) | (with_reducible refine Kd.C_drewN ?_ _) | (with_reducible refine Kd.C_drew ?_))); (case side4 => exact HC260_1.out); rintro e w8 ⟨rfl, hb⟩; have n0_ := Aside0.mk (below_step zB hb); clear HB; have HB := n0_; clear n0_; (try clear hb); (try clear hb2); (try clear hk); (try clear hi)))
      (try simp only [Act.put, List.setIfInBounds_toArray, List.set_cons_zero, List.set_cons_succ])
      have H := HC7.out
      clear HC7
      by_cases c9 : t261 = true
      ·subst c9
       have H1 : (some x8_1) = some r := by rw [if_pos rfl] at H; exact H
       clear H
       have H := H1
       clear H1
       obtain rfl := Option.some.inj H
       go_wp2
       go_ret
       exact ⟨by first | rfl | (simp [errW_none, errW_some] <;> rfl) | (simp [*, errW_none, errW_some] <;> rfl), by repeat (first | (with_reducible first | exact HB.out | apply below_alloc | apply pw_below_drewN | apply below_drew1) | exact HB.out)⟩
      ·replace c9 := Bool.eq_false_iff.mpr c9
       subst c9
       have H1 : (api_Table_solve_choices_fails.l0 k1 l0 (l0.length : Int) (wrap64 (x8_1 + 1)) a1_0 a1_1) = some r := by rw [if_neg (show ¬ (false = true) by decide)] at H; exact H
       clear H
       have H := H1
       clear H1
       have H' := Aside0.mk H
       clear H
       go_wp2
       go_roundg k1
       case measure => have := HK1.out; omega
       case rel => exact ⟨(wrap64 (x8_1 + 1)), zT, H', ⟨by have := HK1.out; omega⟩, ⟨by repeat (first | (with_reducible first | exact HB.out | apply below_alloc | apply pw_below_drewN | apply below_drew1) | exact HB.out)⟩⟩
     ·rw [if_neg c5] at H
      exact absurd H (by simp)
    ·rw [if_neg c4] at H
     exact absurd H (by simp)
   ·rw [if_neg c3] at H
    have c3b0 : decide (x8_1 < (l0.length : Int)) = false := decide_eq_false c3
    clear c3
    obtain rfl := Option.some.inj H
    go_wp2
    go_ret
    exact ⟨by first | rfl | (simp [errW_none, errW_some] <;> rfl) | (simp [*, errW_none, errW_some] <;> rfl), by repeat (first | (with_reducible first | exact HB.out | apply below_alloc | apply pw_below_drewN | apply below_drew1) | exact HB.out)⟩
/-! ### solve_choices_failing: function 87 -/
def solve_choices_failing.f (k : Nat) (a0_0 : Int) (a0_1 : Int) (l1 : List (S61)) : Option (Int) := (api_Table_solve_choices_fails.f k l1 a0_0 a0_1).bind fun t263 => (some t263)
theorem solve_choices_failing.mono : ∀ a0 a1 a2 k, LeO (solve_choices_failing.f k a0 a1 a2) (solve_choices_failing.f (k + 1) a0 a1 a2) := by
 intro a0 a1 a2 k
 unfold solve_choices_failing.f
 repeat' first
   | (with_reducible exact api_Table_solve_choices_fails.mono _ _ _ _)
   | (with_reducible exact LeO.refl _)
   | (with_reducible exact LeO.none _)
   | (with_reducible refine LeO.ite ?_ ?_)
   | (with_reducible refine LeO.bind ?_ (fun _ => ?_))
   | exact api_Table_solve_choices_fails.mono _ _ _ _
   | exact LeO.none _
   | refine LeO.ite ?_ ?_
   | refine LeO.bind ?_ (fun _ => ?_)
set_option maxHeartbeats 8000000 in
set_option maxRecDepth 100000 in
theorem solve_choices_failing.calls (k : Nat) (a0_0 : Int) (a0_1 : Int) (A1 : Option Addr) (c1 : Nat) (l1 : List (S61)) (r : Int) (w : World) (hr1 : Kd.C k61 w A1 l1.length l1) (hc1 : l1.length ≤ c1) (h : solve_choices_failing.f k a0_0 a0_1 l1 = some r) :
  Calls Try.prog 87 #[.agg #[.int .i64 a0_0, .int .i64 a0_1], .slice A1 l1.length c1] w fun e w' => e = .returned (.int .i64 r) ∧ Below w.heap.size w w' := by
 have hu68 := Try.underlying68
 have HR1 := Aside0.mk hr1
 have HC1 := Aside0.mk hc1
 clear hr1 hc1
 have HB := Aside0.mk (Below.refl w.heap.size w)
 have H : ((api_Table_solve_choices_fails.f k l1 a0_0 a0_1).bind fun t263 => (some t263)) = some r := h
 clear h
 replace H := Option.bind_eq_some_iff.mp H
 obtain ⟨t263, A30, H⟩ := H
 replace H : (some t263) = some r := H
 have A3 := Aside0.mk A30
 clear A30
 obtain rfl := Option.some.inj H
 go_enter Try.func87, Try.ntmps87
 go_wp2_with (first | ((with_reducible refine gate_dst (N := 2) rfl ?_); refine box_event ?hg (N := 2) ?hd (cs := #[.int .i64 a0_0, .int .i64 a0_1]) (t := 68) ?hr ?_; (case hd => rfl); (case hg => rfl); (case hr => first | (go_simp; done) | (go_simp; rfl)); intro gb262 hg w4 hbox hb; have n0_ := Aside0.mk (below_step zB hb); have n1_ := Aside0.mk (hbox); have n2_ := Aside0.mk ((by rw [hg]; exact (below_size zB) : w.heap.size ≤ gb262)); have n3_ := Aside0.mk ((by rw [hg]; exact (below_size zB) : w.heap.size ≤ gb262)); clear HB; have HB := n0_; have BK262 := n1_; have GW262 := n2_; have GE262 := n3_; clear n0_ n1_ n2_ n3_; clear hb hbox hg; have hcz5_0 : w4.cell? ⟨gb262, 0, none⟩ = some (.int .i64 a0_0) := (blk_cell BK262.out 0).trans rfl; have hcz5_1 : w4.cell? ⟨gb262, 1, none⟩ = some (.int .i64 a0_1) := (blk_cell BK262.out 1).trans rfl; have hfz5_0 := blk_frozen BK262.out 0; have hfz5_1 := blk_frozen BK262.out 1) | ((with_reducible refine gate_callee (f := 93) rfl ?_); refine goesL_ (some 8) rfl rfl Try.func93 zK rfl #[.slice A1 l1.length c1, .func (.func 92) #[.agg #[.int .i64 a0_0, .int .i64 a0_1]] #[]] rfl zM ?_; (with_reducible refine (api_Table_solve_choices_fails.calls k _ _ l1 a0_0 a0_1 t263 _ ?side1 ?side2 A3.out).mono ?_); (case side1 => repeat (first | exact (Kd.C_below HR1.out HB.out) | (with_reducible refine Kd.C_alloc ?_ _) | (with_reducible refine Kd.C_drewN ?_ _) | (with_reducible refine Kd.C_drew ?_))); (case side2 => exact HC1.out); rintro e w6 ⟨rfl, hb⟩; refine ⟨_, rfl, ?_⟩; have n0_ := Aside0.mk (blk_below (g := gb262) (o := .cells #[.int .i64 a0_0, .int .i64 a0_1] 68 (0, 0)) (zk BK262) hb); have n1_ := Aside0.mk (below_step zB hb); clear BK262; clear HB; have BK262 := n0_; have HB := n1_; clear n0_ n1_; (try clear hb); (try clear hb2); (try clear hk); (try clear hi)))
 go_ret
 exact ⟨by first | rfl | (simp [errW_none, errW_some] <;> rfl) | (simp [*, errW_none, errW_some] <;> rfl), by repeat (first | (with_reducible first | exact HB.out | apply below_alloc | apply pw_below_drewN | apply below_drew1 | refine below_set ?_ GE262.out) | exact HB.out)⟩
/-! ### solve_choices_with: function 88 -/
def solve_choices_with.f (a0_0 : Int) (a0_1 : Int) (a1 : Int) (a2 : Int) : Option (Int × Int) := if 0 ≤ a1 then (some (Go.bits .or .i64 a0_0 (shl .i64 1 a1), Go.bits .or .i64 (Go.bits .andNot .i64 a0_1 (shl .i64 1 a1)) (shl .i64 a2 a1))) else (none)
def solve_choices_with.T1 : Bool × List (List Nat × List Nat) := (true, [([], []), ([0], [0]), ([], []), ([2], [2]), ([1, 3], [1, 3]), ([], []), ([5], [5]), ([], []), ([7], [7]), ([6, 8], [6, 8]), ([], []), ([], []), ([10, 11], [10, 11]), ([9, 12], [9, 12]), ([4, 13], [4, 13]), ([14, 0, 1, 2, 3, 4, 5, 6, 7, 8, 9, 10, 11, 12, 13, 14], [14])])
def solve_choices_with.B1 : List Nat := [0, 1, 0, 4, 15, 0, 32, 0, 128, 480, 0, 0, 3072, 8160, 16383, 32767]
theorem solve_choices_with.tab1 : rtab .any (opsOf Try.f88 1) = solve_choices_with.T1 := by kernel_rfl
theorem solve_choices_with.bits1 : waitsOk solve_choices_with.T1.2 solve_choices_with.B1 = true := by kernel_rfl
set_option maxHeartbeats 8000000 in
set_option maxRecDepth 100000 in
theorem solve_choices_with.calls (a0_0 : Int) (a0_1 : Int) (a1 : Int) (a2 : Int) (r1 : Int) (r2 : Int) (w : World) (h : solve_choices_with.f a0_0 a0_1 a1 a2 = some (r1, r2)) :
  Calls Try.prog 88 #[.agg #[.int .i64 a0_0, .int .i64 a0_1], .int .i64 a1, .int .i64 a2] w fun e w' => e = .returned (.agg #[.int .i64 r1, .int .i64 r2]) ∧ Below w.heap.size w w' := by
 have hu68 := Try.underlying68
 have hu3 := Try.underlying3
 have HB := Aside0.mk (Below.refl w.heap.size w)
 have H : (if 0 ≤ a1 then (some (Go.bits .or .i64 a0_0 (shl .i64 1 a1), Go.bits .or .i64 (Go.bits .andNot .i64 a0_1 (shl .i64 1 a1)) (shl .i64 a2 a1))) else (none)) = some (r1, r2) := h
 clear h
 by_cases c4 : 0 ≤ a1
 ·rw [if_pos c4] at H
  have c4b0 := eq_true c4
  have c4b1 : decide (0 ≤ a1) = true := decide_eq_true c4
  clear c4
  obtain ⟨ji5, hji5⟩ : ∃ j_ : Int, (shl .i64 1 a1) = j_ := ⟨_, rfl⟩
  replace H : (some (Go.bits .or .i64 a0_0 (ji5), Go.bits .or .i64 (Go.bits .andNot .i64 a0_1 (ji5)) (shl .i64 a2 a1))) = some (r1, r2) := by first | (rw [hji5] at H; exact H) | (simp only [hji5] at H ⊢; exact H)
  have hji5_ : (IntKind.i64.wrap (1 * 2 ^ min a1.toNat 64)) = ji5 := hji5
  have hji5z : a1 ≤ 64 → (IntKind.i64.wrap (1 * 2 ^ a1.toNat)) = ji5 := shl_small hji5
  have hji5u : (IntKind.i64.wrap (2 ^ min a1.toNat 64)) = ji5 := by have h_ := hji5_; rw [Int.one_mul] at h_; exact h_
  have hji5v : a1 ≤ 64 → (IntKind.i64.wrap (2 ^ a1.toNat)) = ji5 := fun hle_ => by have h_ := hji5z hle_; rw [Int.one_mul] at h_; exact h_
  have hji5y : (wrap64 (1 * 2 ^ min a1.toNat 64)) = ji5 := (i64_w _).symm.trans hji5_
  have hji5x : a1 ≤ 64 → (wrap64 (1 * 2 ^ a1.toNat)) = ji5 := fun h_ => (i64_w _).symm.trans (hji5z h_)
  have c6b0 := eq_true (of_decide_eq_true zh : 0 ≤ a1)
  have c7b0 := eq_true (of_decide_eq_true zh : 0 ≤ a1)
  obtain ⟨ji8, hji8⟩ : ∃ j_ : Int, (shl .i64 a2 a1) = j_ := ⟨_, rfl⟩
  replace H : (some (Go.bits .or .i64 a0_0 (ji5), Go.bits .or .i64 (Go.bits .andNot .i64 a0_1 (ji5)) (ji8))) = some (r1, r2) := by first | (rw [hji8] at H; exact H) | (simp only [hji8] at H ⊢; exact H)
  have hji8_ : (IntKind.i64.wrap (a2 * 2 ^ min a1.toNat 64)) = ji8 := hji8
  have hji8z : a1 ≤ 64 → (IntKind.i64.wrap (a2 * 2 ^ a1.toNat)) = ji8 := shl_small hji8
  have hji8y : (wrap64 (a2 * 2 ^ min a1.toNat 64)) = ji8 := (i64_w _).symm.trans hji8_
  have hji8x : a1 ≤ 64 → (wrap64 (a2 * 2 ^ a1.toNat)) = ji8 := fun h_ => (i64_w _).symm.trans (hji8z h_)
  simp only [Option.some.injEq, Prod.mk.injEq] at H
  obtain ⟨rfl, rfl⟩ := H
  go_enter Try.func88, Try.ntmps88
  try go_wp2_with (first | ((with_reducible refine gate_dst (N := 3) rfl ?_); refine box_event ?hg (N := 3) ?hd (cs := #[.int .i64 a0_0, .int .i64 a0_1]) (t := 68) ?hr ?_; (case hd => rfl); (case hg => rfl); (case hr => first | (go_simp; done) | (go_simp; rfl)); intro gb264 hg w9 hbox hb; have n0_ := Aside0.mk (below_step zB hb); have n1_ := Aside0.mk (hbox); have n2_ := Aside0.mk ((by rw [hg]; exact (below_size zB) : w.heap.size ≤ gb264)); have n3_ := Aside0.mk ((by rw [hg]; exact (below_size zB) : w.heap.size ≤ gb264)); clear HB; have HB := n0_; have BK264 := n1_; have GW264 := n2_; have GE264 := n3_; clear n0_ n1_ n2_ n3_; clear hb hbox hg) | ((with_reducible refine gate_dst (N := 6) rfl ?_); refine box_event ?hg (N := 6) ?hd (cs := #[.int .i64 0, .int .i64 0]) (t := 68) ?hr ?_; (case hd => rfl); (case hg => rfl); (case hr => first | (go_simp; done) | (go_simp; rfl)); intro gb265 hg w10 hbox hb; have n0_ := Aside0.mk (blk_below (g := gb264) (o := .cells #[.int .i64 a0_0, .int .i64 a0_1] 68 (0, 0)) (zk BK264) hb); have n1_ := Aside0.mk (below_step zB hb); have n2_ := Aside0.mk (hbox); have n3_ := Aside0.mk ((by rw [hg]; exact (below_size zB) : w.heap.size ≤ gb265)); have n4_ := Aside0.mk ((by rw [hg]; exact (below_size zB) : w.heap.size ≤ gb265)); have n5_ := Aside0.mk ((by rw [hg]; exact Nat.ne_of_lt (blk_lt (g := gb264) (o := .cells #[.int .i64 a0_0, .int .i64 a0_1] 68 (0, 0)) (zk BK264)) : gb264 ≠ gb265)); have n6_ := Aside0.mk ((by rw [hg]; exact Nat.ne_of_gt (blk_lt (g := gb264) (o := .cells #[.int .i64 a0_0, .int .i64 a0_1] 68 (0, 0)) (zk BK264)) : gb265 ≠ gb264)); clear BK264; clear HB; have BK264 := n0_; have HB := n1_; have BK265 := n2_; have GW265 := n3_; have GE265 := n4_; have NB264_265 := n5_; have NB265_264 := n6_; clear n0_ n1_ n2_ n3_ n4_ n5_ n6_; clear hb hbox hg))
  have n0_ := Aside0.mk (blk_drew BK264.out)
  have n1_ := Aside0.mk (blk_drew BK265.out)
  have n2_ := Aside0.mk (below_drew1 HB.out)
  clear BK264
  clear BK265
  clear HB
  have BK264 := n0_
  have BK265 := n1_
  have HB := n2_
  clear n0_ n1_ n2_
  refine start_ (n := 16) (S := fun w' => w'.cell? ⟨gb264, 0, none⟩ = some (.int .i64 a0_0) ∧ w'.cell? ⟨gb264, 1, none⟩ = some (.int .i64 a0_1)) (ds := []) #[false, false, false, false, false, false, false, false, false, false, false, false, false, false, false, false] zK rfl rfl ⟨(blk_cell BK264.out 0).trans rfl, (blk_cell BK264.out 1).trans rfl⟩ (fun hHeld => ?_); refine with_tabW solve_choices_with.tab1 solve_choices_with.bits1 (fun HT_ HW_ => ?_)
  generalize w10.drew = w11 at BK264 BK265 HB hHeld ⊢
  refine pure_ (i := 0) (N := some 7) (v := ?_) (a' := ?_) #[true, false, false, false, false, false, false, false, false, false, false, false, false, false, false, false] rfl rfl (any_of HT_.out zK) (fun _ _ _ h => h) (Or.inl ⟨by rfl, ?_⟩) ?_ ?_
  rotate_left
  ·intro w'
   go_simp
   with_reducible rfl
  rotate_left
  ·simp only [Act.put, List.setIfInBounds_toArray, List.set_cons_zero, List.set_cons_succ, i64_w, i32_w]
   rfl
  refine pure_ (i := 2) (N := some 9) (v := ?_) (a' := ?_) #[true, false, true, false, false, false, false, false, false, false, false, false, false, false, false, false] rfl rfl (any_of HT_.out zK) (fun _ _ _ h => h) (Or.inl ⟨by rfl, ?_⟩) ?_ ?_
  rotate_left
  ·intro w'
   go_simp
   with_reducible rfl
  rotate_left
  ·simp only [Act.put, List.setIfInBounds_toArray, List.set_cons_zero, List.set_cons_succ, i64_w, i32_w]
   rfl
  refine pure_ (i := 3) (N := some 10) (v := ?_) (a' := ?_) #[true, false, true, true, false, false, false, false, false, false, false, false, false, false, false, false] rfl rfl (any_of HT_.out zK) (fun _ _ _ h => h) (Or.inl ⟨by rfl, ?_⟩) ?_ ?_
  rotate_left
  ·intro w'
   go_simp
   with_reducible rfl
  rotate_left
  ·simp only [Act.put, List.setIfInBounds_toArray, List.set_cons_zero, List.set_cons_succ, i64_w, i32_w]
   rfl
  refine pure_ (i := 5) (N := some 12) (v := ?_) (a' := ?_) #[true, false, true, true, false, true, false, false, false, false, false, false, false, false, false, false] rfl rfl (any_of HT_.out zK) (fun _ _ _ h => h) (Or.inl ⟨by rfl, ?_⟩) ?_ ?_
  rotate_left
  ·intro w'
   go_simp
   with_reducible rfl
  rotate_left
  ·simp only [Act.put, List.setIfInBounds_toArray, List.set_cons_zero, List.set_cons_succ, i64_w, i32_w]
   rfl
  refine pure_ (i := 7) (N := some 14) (v := ?_) (a' := ?_) #[true, false, true, true, false, true, false, true, false, false, false, false, false, false, false, false] rfl rfl (any_of HT_.out zK) (fun _ _ _ h => h) (Or.inl ⟨by rfl, ?_⟩) ?_ ?_
  rotate_left
  ·intro w'
   go_simp
   with_reducible rfl
  rotate_left
  ·simp only [Act.put, List.setIfInBounds_toArray, List.set_cons_zero, List.set_cons_succ, i64_w, i32_w]
   rfl
  refine pure_ (i := 8) (N := some 15) (v := ?_) (a' := ?_) #[true, false, true, true, false, true, false, true, true, false, false, false, false, false, false, false] rfl rfl (any_of HT_.out zK) (fun _ _ _ h => h) (Or.inl ⟨by rfl, ?_⟩) ?_ ?_
  rotate_left
  ·intro w'
   go_simp
   with_reducible rfl
  rotate_left
  ·simp only [Act.put, List.setIfInBounds_toArray, List.set_cons_zero, List.set_cons_succ, i64_w, i32_w]
   rfl
  refine pure_ (i := 10) (N := some 17) (v := ?_) (a' := ?_) #[true, false, true, true, false, true, false, true, true, false, true, false, false, false, false, false] rfl rfl (any_of HT_.out zK) (fun _ _ _ h => h) (Or.inl ⟨by rfl, ?_⟩) ?_ ?_
  rotate_left
  ·intro w'
   go_simp
   with_reducible rfl
  rotate_left
  ·simp only [Act.put, List.setIfInBounds_toArray, List.set_cons_zero, List.set_cons_succ, i64_w, i32_w]
   rfl
  refine pure_ (i := 11) (N := some 18) (v := ?_) (a' := ?_) #[true, false, true, true, false, true, false, true, true, false, true, true, false, false, false, false] rfl rfl (any_of HT_.out zK) (fun _ _ _ h => h) (Or.inl ⟨by rfl, ?_⟩) ?_ ?_
  rotate_left
  ·intro w'
   go_simp
   with_reducible rfl
  rotate_left
  ·simp only [Act.put, List.setIfInBounds_toArray, List.set_cons_zero, List.set_cons_succ, i64_w, i32_w]
   rfl
  refine pure_ (i := 12) (N := some 19) (v := ?_) (a' := ?_) #[true, false, true, true, false, true, false, true, true, false, true, true, true, false, false, false] rfl rfl (any_of HT_.out zK) (fun _ _ _ h => h) (Or.inl ⟨by rfl, ?_⟩) ?_ ?_
  rotate_left
  ·intro w'
   go_simp
   with_reducible rfl
  rotate_left
  ·simp only [Act.put, List.setIfInBounds_toArray, List.set_cons_zero, List.set_cons_succ, i64_w, i32_w]
   rfl
  refine take_ (i := 1) (N := some 8) (v := ?_) (a' := ?_) #[true, true, true, true, false, true, false, true, true, false, true, true, true, false, false, false] rfl rfl (take_ofW HT_.out HW_.out zK) (fun _ _ _ h => h) (Or.inl ⟨by rfl, ?_⟩) hHeld ?_ ?_
  rotate_left
  ·rintro w' ⟨s0, s1⟩
   go_simp
   with_reducible rfl
  rotate_left
  ·simp only [Act.put, List.setIfInBounds_toArray, List.set_cons_zero, List.set_cons_succ, i64_w, i32_w]
   rfl
  refine pure_ (i := 4) (N := some 11) (v := ?_) (a' := ?_) #[true, true, true, true, true, true, false, true, true, false, true, true, true, false, false, false] rfl rfl (any_of HT_.out zK) (fun _ _ _ h => h) (Or.inl ⟨by rfl, ?_⟩) ?_ ?_
  rotate_left
  ·intro w'
   go_simp
   with_reducible rfl
  rotate_left
  ·simp only [Act.put, List.setIfInBounds_toArray, List.set_cons_zero, List.set_cons_succ, i64_w, i32_w]
   rfl
  refine take_ (i := 6) (N := some 13) (v := ?_) (a' := ?_) #[true, true, true, true, true, true, true, true, true, false, true, true, true, false, false, false] rfl rfl (take_ofW HT_.out HW_.out zK) (fun _ _ _ h => h) (Or.inl ⟨by rfl, ?_⟩) hHeld ?_ ?_
  rotate_left
  ·rintro w' ⟨s0, s1⟩
   go_simp
   with_reducible rfl
  rotate_left
  ·simp only [Act.put, List.setIfInBounds_toArray, List.set_cons_zero, List.set_cons_succ, i64_w, i32_w]
   rfl
  refine pure_ (i := 9) (N := some 16) (v := ?_) (a' := ?_) #[true, true, true, true, true, true, true, true, true, true, true, true, true, false, false, false] rfl rfl (any_of HT_.out zK) (fun _ _ _ h => h) (Or.inl ⟨by rfl, ?_⟩) ?_ ?_
  rotate_left
  ·intro w'
   go_simp
   with_reducible rfl
  rotate_left
  ·simp only [Act.put, List.setIfInBounds_toArray, List.set_cons_zero, List.set_cons_succ, i64_w, i32_w]
   rfl
  refine pure_ (i := 13) (N := some 20) (v := ?_) (a' := ?_) #[true, true, true, true, true, true, true, true, true, true, true, true, true, true, false, false] rfl rfl (any_of HT_.out zK) (fun _ _ _ h => h) (Or.inl ⟨by rfl, ?_⟩) ?_ ?_
  rotate_left
  ·intro w'
   go_simp
   with_reducible rfl
  rotate_left
  ·simp only [Act.put, List.setIfInBounds_toArray, List.set_cons_zero, List.set_cons_succ, i64_w, i32_w]
   rfl
  refine pure_ (i := 14) (N := some 21) (v := ?_) (a' := ?_) #[true, true, true, true, true, true, true, true, true, true, true, true, true, true, true, false] rfl rfl (any_of HT_.out zK) (fun _ _ _ h => h) (Or.inl ⟨by rfl, ?_⟩) ?_ ?_
  rotate_left
  ·intro w'
   go_simp
   with_reducible rfl
  rotate_left
  ·simp only [Act.put, List.setIfInBounds_toArray, List.set_cons_zero, List.set_cons_succ, i64_w, i32_w]
   rfl
  refine one_ (i := 15) (N := none) #[true, true, true, true, true, true, true, true, true, true, true, true, true, true, true, true] rfl rfl (one_of HT_.out zK) (by decide) (fun K hK => ?_)
  have hs12 : w11.cell? ⟨gb265, 0, none⟩ = some (.int .i64 0) := (blk_cell BK265.out 0).trans rfl
  have hfs12 := blk_frozen BK265.out 0
  have hns12_0 := NB264_265.out
  have hms12_0 := NB265_264.out
  have hs13 : w11.cell? ⟨gb265, 1, none⟩ = some (.int .i64 0) := (blk_cell BK265.out 1).trans rfl
  have hfs13 := blk_frozen BK265.out 1
  have hns13_0 := NB264_265.out
  have hms13_0 := NB265_264.out
  refine skip_ (w1 := ?_) (by rfl) rfl ?_ ?_
  rotate_left
  ·go_simp
   rfl
  refine hK.out _ _ ⟨((cell_far (p := ⟨gb265, _, none⟩) NB264_265.out _).trans (((cell_far (p := ⟨gb265, _, none⟩) NB264_265.out _).trans (hHeld.1)))), ((cell_far (p := ⟨gb265, _, none⟩) NB264_265.out _).trans (((cell_far (p := ⟨gb265, _, none⟩) NB264_265.out _).trans (hHeld.2))))⟩ (fun hHeld => ?_)
  clear hK K
  refine done_ (done_of HT_.out zK) ?_
  try go_wp2
  refine bodyPost_ret (results_cell_row rfl _ _ gb265 68 #[.int .i64 (Go.bits .or .i64 a0_0 (ji5)), .int .i64 (Go.bits .or .i64 (Go.bits .andNot .i64 a0_1 (ji5)) (ji8))] (0, 0) _ rfl (by (with_reducible repeat (first | refine blk_drewN ?_ _ | refine blk_drew ?_ | refine blk_alloc ?_ _)); refine blk_put (cs := #[.int .i64 (Go.bits .or .i64 a0_0 (ji5)), .int .i64 0]) ?_ 1 _ rfl; (with_reducible repeat (first | refine blk_drewN ?_ _ | refine blk_drew ?_ | refine blk_alloc ?_ _)); refine blk_put (cs := #[.int .i64 0, .int .i64 0]) ?_ 0 _ rfl; (with_reducible repeat (first | refine blk_drewN ?_ _ | refine blk_drew ?_ | refine blk_alloc ?_ _)); exact BK265.out) Try.underlying68 rfl zK) rfl ?_
  exact ⟨by first | rfl | (simp [errW_none, errW_some] <;> rfl) | (simp only [← hji5, ← hji8]; first | rfl | (simp [errW_none, errW_some] <;> rfl)) | (simp [*, errW_none, errW_some] <;> rfl), by repeat (first | (with_reducible first | exact HB.out | apply below_alloc | apply pw_below_drewN | apply below_drew1 | refine below_set ?_ GE264.out | refine below_set ?_ GE265.out) | exact HB.out)⟩
 ·rw [if_neg c4] at H
  exact absurd H (by simp)
/-! ### solve_solutions: function 48 -/
/-! #### search, and what goes through it -/
/-- What the body of a range over the solutions keeps: all that lay here (but the blocks from n0 to n1: the body's own variables), and the choices of the search. -/
def KpS (n0 n1 n2 : Nat) (W W' : World) : Prop := W.heap.size ≤ W'.heap.size ∧ ∀ k, k < W.heap.size → ((k < n0 ∨ (n1 ≤ k ∧ k < n2)) ∨ ∃ cs, W.heap[k]? = some (.cells cs 68 (0, 0))) → W'.heap[k]? = W.heap[k]?
theorem KpS.refl {n0 n1 n2 : Nat} (W : World) : KpS n0 n1 n2 W W := ⟨Nat.le_refl _, fun _ _ _ => rfl⟩
theorem KpS.trans {n0 n1 n2 : Nat} {A B C : World} (h : KpS n0 n1 n2 A B) (k : KpS n0 n1 n2 B C) : KpS n0 n1 n2 A C :=
 ⟨Nat.le_trans h.1 k.1, fun j hj hp => by
  have e := h.2 j hj hp
  have e2 := k.2 j (Nat.lt_of_lt_of_le hj h.1) (hp.elim .inl (fun ⟨cs, hc⟩ => .inr ⟨cs, e.trans hc⟩))
  exact e2.trans e⟩
theorem KpS.below {n0 n1 n2 : Nat} {A B : World} (h : Below A.heap.size A B) : KpS n0 n1 n2 A B := ⟨h.size, fun j hj _ => h.block j hj⟩
theorem KpS.box {n0 n1 n2 : Nat} {A B : World} (h : KpS n0 n1 n2 A B) {g : Nat} {cs : Array Value} (hb : A.heap[g]? = some (.cells cs 68 (0, 0))) : B.heap[g]? = some (.cells cs 68 (0, 0)) :=
 (h.2 g (blk_lt hb) (.inr ⟨cs, hb⟩)).trans hb
theorem KpS.kept {n0 n1 n2 : Nat} {A B : World} (h : KpS n0 n1 n2 A B) : Kept A B (fun k => n0 ≤ k ∧ (k < n1 ∨ n2 ≤ k)) := ⟨h.1, fun i hi hn => h.2 i hi (.inl (by omega))⟩
theorem KpS.put {n0 n1 n2 : Nat} (h02 : n0 ≤ n2) (W : World) (l : Nat) (o o' : Obj) (hl : n2 ≤ l) (h : W.heap[l]? = some o) (ho : o.isCells = false) : KpS n0 n1 n2 W (W.putObj l o') :=
 ⟨(grownBy_putObj' W l o').size, fun k hk hp => (grownBy_putObj' W l o').block k hk (fun e => by
  cases e
  rcases hp with hp | ⟨cs, hc⟩
  ·omega
  ·rw [h] at hc; cases hc; simp [Obj.isCells] at ho)⟩
theorem KpS.set {n0 n1 n2 : Nat} {W : World} {g t : Nat} {cs : Array Value} (hb : W.heap[g]? = some (.cells cs t (0, 0))) (ht : t ≠ 68) (h0 : n0 ≤ g) (h1 : g < n1) (h2 : n1 ≤ n2) (j : Nat) (u : Value) : KpS n0 n1 n2 W (W.setCell ⟨g, j, none⟩ u) :=
 ⟨by simp [World.setCell], fun k hk hp => Below.heap_setCell W _ u k (fun e => by
  dsimp only at e
  subst e
  rcases hp with hp | ⟨cs', hc⟩
  ·omega
  ·rw [hb] at hc; cases hc; exact ht rfl)⟩
theorem ne_row_ {A : World} {B : Nat} {row : Option Nat} (hr : ∀ r, row = some r → B ≤ r ∧ ∃ o : Obj, A.heap[r]? = some o ∧ o.isCells = false) {g t : Nat} {cs : Array Value} (hb : A.heap[g]? = some (.cells cs t (0, 0))) : some g ≠ row := by
 intro e
 obtain ⟨_, o, ho, hc⟩ := hr g e.symm
 rw [hb] at ho
 cases ho
 simp [Obj.isCells] at hc
theorem run_loadVar_one {P : Program} (w : World) (g t ty : Nat) (v : Value) (fr : Nat × Nat) (d : TypeDesc) (hg : w.heap[g]? = some (.cells #[v] t fr)) (hu : P.underlying ty = some d) (hd : (match d with | .struct _ | .array _ _ => true | _ => false) = false) :
  (loadVar ty ⟨g, 0, none⟩).run P w = .ok v w := by
 have hagg : (isAgg ty).run P w = .ok false w := by
  unfold isAgg
  rw [Sem.run_bind, run_underlying hu w]
  cases d <;> simp_all
 have hc : w.cell? ⟨g, 0, none⟩ = some v := by simp [World.cell?, hg]
 simp [loadVar, Sem.run_bind, hagg, hc]
theorem results_two {P : Program} {fn : Func} {p p' : Tmp} {ty ty' : TypeId} (h : fn.results = #[.cell p ty, .cell p' ty']) (tmps : Array Value) (w : World) (g g' : Nat) (v v' : Value)
  (hp : tmps.getD p undef = .pointer (some ⟨g, 0, none⟩)) (hp' : tmps.getD p' undef = .pointer (some ⟨g', 0, none⟩)) (h1 : (loadVar ty ⟨g, 0, none⟩).run P w = .ok v w) (h2 : (loadVar ty' ⟨g', 0, none⟩).run P w = .ok v' w) :
  (results fn tmps).run P w = .ok (.tuple #[v, v']) w := by
 have e1 : tmps[p]?.getD undef = .pointer (some ⟨g, 0, none⟩) := by simpa using hp
 have e2 : tmps[p']?.getD undef = .pointer (some ⟨g', 0, none⟩) := by simpa using hp'
 simp [results, h, e1, e2, asAddr, h1, h2]
theorem two_set {W : World} {g g' t t' : Nat} {v v' : Value} (h1 : W.heap[g]? = some (.cells #[v] t (0, 0))) (h2 : W.heap[g']? = some (.cells #[v'] t' (0, 0))) (hne : g ≠ g') (u u' : Value) :
  ((W.setCell ⟨g, 0, none⟩ u).setCell ⟨g', 0, none⟩ u').heap[g]? = some (.cells #[u] t (0, 0)) ∧ ((W.setCell ⟨g, 0, none⟩ u).setCell ⟨g', 0, none⟩ u').heap[g']? = some (.cells #[u'] t' (0, 0)) :=
 ⟨blk_far (blk_put (cs := #[v]) h1 0 u rfl) hne _, blk_put (cs := #[v']) (blk_far h2 (Ne.symm hne) _) 0 u' rfl⟩
theorem two_keep (W : World) (g g' : Nat) (u u' : Value) : KeepsOthers W ((W.setCell ⟨g, 0, none⟩ u).setCell ⟨g', 0, none⟩ u') := (KeepsOthers.setCell _ _ _).trans (KeepsOthers.setCell _ _ _)
theorem blk_deferred {W : World} {D g t : Nat} {cs : Array Value} {x : Option (List Deferred)} (hb : W.heap[g]? = some (.cells cs t (0, 0))) (hK : W.heap[D]? = some (.deferred x)) (o' : Obj) : (W.putObj D o').heap[g]? = some (.cells cs t (0, 0)) :=
 blk_grown hb (grownBy_putObj' W D o') (fun e => by cases e; rw [hK] at hb; cases hb)
theorem KpS.grown {n0 n1 n2 : Nat} {W W' : World} {row : Option Nat} (hg : W.grownBy W' row) (h02 : n0 ≤ n2) (hr : ∀ k, row = some k → n2 ≤ k ∧ ∃ cs t, W.heap[k]? = some (.cells cs t (0, 0)) ∧ t ≠ 68) : KpS n0 n1 n2 W W' :=
 ⟨hg.size, fun k hk hp => hg.block k hk (fun e => by
  obtain ⟨h1, cs, t, hb, ht⟩ := hr k e.symm
  rcases hp with hp | ⟨cs', hc⟩
  ·omega
  ·rw [hb] at hc; cases hc; exact ht rfl)⟩
theorem room_none_ {F : Fence} (hd : F.depth = none) (k : Nat) : F.room k := fun d h => by rw [hd] at h; cases h
theorem RoundIn.anyDepth_ {F : Fence} (hd : F.depth = none) {m m' : Nat} {P : Program} {l : Nat} {f : FuncId} {tmps : Array Value} {assign body : Code} {w : World} {R : Ending → World → Prop}
  (h : RoundIn F m P l f tmps assign body w R) : RoundIn F m' P l f tmps assign body w R := ⟨h.1, fun c cs _ => h.2 c cs (room_none_ hd _)⟩
theorem YieldAt.anyDepth_ {F : Fence} (hd : F.depth = none) {m : Nat} (m' : Nat) {P : Program} {l : Nat} {args : Array Value} {W : World} {R : Ending → World → Prop} (h : YieldAt F m P l args W R) : YieldAt F m' P l args W R := by
 obtain ⟨fn, tmps, assign, body, hy, hR⟩ := h
 exact ⟨fn, tmps, assign, body, hy, RoundIn.anyDepth_ hd hR⟩
/-- All solutions below some choices, in order. -/
def solve_search.f : Nat → List (S61) → List Int → Int → Int → Option (List Int)
 | 0, _, _, _, _ => none
 | k + 1, l0, l1, a2_0, a2_1 => (solve_choices_failing.f k a2_0 a2_1 l0).bind fun t129 => (if t129 ≥ 0 then (some []) else (if (l1.length : Int) = 0 then (some [a2_1]) else (if 0 ≤ (wrap64 ((l1.length : Int) - 1)) then (if (wrap64 ((l1.length : Int) - 1)) < (l1.length : Int) then (if (wrap64 ((l1.length : Int) - 1)) ≤ (l1.length : Int) then ((solve_choices_with.f a2_0 a2_1 (rd l1 (wrap64 ((l1.length : Int) - 1))) 0).bind fun bt132 => ((solve_search.f k l0 (l1.take ((wrap64 ((l1.length : Int) - 1)) : Int).toNat) bt132.1 bt132.2).bind fun t134 => ((solve_choices_with.f a2_0 a2_1 (rd l1 (wrap64 ((l1.length : Int) - 1))) 1).bind fun bt135 => ((solve_search.f k l0 (l1.take ((wrap64 ((l1.length : Int) - 1)) : Int).toNat) bt135.1 bt135.2).bind fun t137 => (some (t134 ++ t137)))))) else (none)) else (none)) else (none))))
theorem solve_search.mono_l : ∀ k, (∀ y0 y1 y2 y3, LeO (solve_search.f k y0 y1 y2 y3) (solve_search.f (k + 1) y0 y1 y2 y3))
 | 0 => fun _ _ _ _ r h => by simp [solve_search.f] at h
 | k + 1 => by
  have ih0 := solve_search.mono_l k
  ·intro y0 y1 y2 y3
   unfold solve_search.f
   repeat' first
   | (with_reducible exact ih0 _ _ _ _)
   | (with_reducible exact solve_choices_failing.mono _ _ _ _)
   | (with_reducible exact LeO.refl _)
   | (with_reducible exact LeO.none _)
   | (with_reducible refine LeO.ite ?_ ?_)
   | (with_reducible refine LeO.bind ?_ (fun _ => ?_))
   | exact ih0 _ _ _ _
   | exact solve_choices_failing.mono _ _ _ _
   | exact LeO.none _
   | refine LeO.ite ?_ ?_
   | refine LeO.bind ?_ (fun _ => ?_)
theorem solve_search.mono : ∀ a0 a1 a2 a3 k, LeO (solve_search.f k a0 a1 a2 a3) (solve_search.f (k + 1) a0 a1 a2 a3) := by
 intro a0 a1 a2 a3 k
 have ih0 := solve_search.mono_l k
 exact ih0 a0 a1 a2 a3
section
attribute [local go_sem] Oper.semAt_some
set_option maxHeartbeats 8000000 in
set_option maxRecDepth 100000 in
theorem solve_search.in_ (lp N n0 n1 n2 : Nat) (J Jx : List Int → World → Prop) (w0 : World) (A0 : Option Addr) (c0 : Nat) (l0 : List (S61)) (hc0 : l0.length ≤ c0)
  (hL_ : ∀ W', KpS n0 n1 n2 w0 W' → Kd.C k61 W' A0 l0.length l0) (hJb_ : ∀ s W W', J s W → Below W.heap.size W W' → J s W')
  (hY_ : ∀ m pre x W, J pre W → pre.length < N → YieldAt Fence.wide m Try.prog lp #[.int .i64 x] W fun e W' => (e = .returned (.bool true) ∧ J (pre ++ [x]) W' ∧ KpS n0 n1 n2 W W') ∨ (e = .returned (.bool false) ∧ Jx (pre ++ [x]) W')) (k : Nat) :
  ∀ (A1 : Option Addr) (c1 : Nat) (l1 : List Int) (a2_0 : Int) (a2_1 : Int) (r pre : List Int) (w : World) (hK_ : KpS n0 n1 n2 w0 w) (hJ_ : J pre w) (hV_ : ∀ W', KpS n0 n1 n2 w0 W' → Kd.C (Kd.int .i64) W' A1 l1.length l1) (hc1 : l1.length ≤ c1) (hN : pre.length + r.length ≤ N) (h : solve_search.f k l0 l1 a2_0 a2_1 = some r),
  Calls Try.prog 86 #[.slice A0 l0.length c0, .slice A1 l1.length c1, .agg #[.int .i64 a2_0, .int .i64 a2_1], .func (.yield lp) #[] #[]] w fun e w' => (e = .returned (.bool true) ∧ J (pre ++ r) w' ∧ KpS n0 n1 n2 w w') ∨ (e = .returned (.bool false) ∧ ∃ q, q <+: r ∧ Jx (pre ++ q) w') := by
 have hL := Aside0.mk hL_
 have hJb := Aside0.mk hJb_
 have hY := Aside0.mk hY_
 clear hL_ hJb_ hY_
 induction k using Nat.strongRecOn with
 | _ k ih =>
 intro A1 c1 l1 a2_0 a2_1 r pre w hK_ hJ_ hV_ hc1 hN h
 cases k with
 | zero => exact absurd h (by simp [solve_search.f])
 | succ k =>
 simp only [solve_search.f] at h
 have hu68 := Try.underlying68
 have hu3 := Try.underlying3
 have HK := Aside0.mk hK_
 have HJ := Aside0.mk hJ_
 have HV := Aside0.mk hV_
 clear hK_ hJ_ hV_
 have HC1 := Aside0.mk hc1
 have HN := Aside0.mk hN
 clear hc1 hN
 have HB := Aside0.mk (Below.refl w.heap.size w)
 have H := h
 clear h
 replace H := Option.bind_eq_some_iff.mp H
 obtain ⟨t129, A50, H⟩ := H
 have A5 := Aside0.mk A50
 clear A50
 have HC6 := Aside0.mk H
 clear H
 have IH := Aside0.mk ih
 clear ih
 go_enter Try.func86, Try.ntmps86
 go_upto_if 14 with (first | ((with_reducible refine gate_dst (N := 6) rfl ?_); refine box_event ?hg (N := 6) ?hd (cs := #[.int .i64 a2_0, .int .i64 a2_1]) (t := 68) ?hr ?_; (case hd => rfl); (case hg => rfl); (case hr => first | (go_simp; done) | (go_simp; rfl)); intro gb128 hg w7 hbox hb; have n0_ := Aside0.mk (below_step zB hb); have n1_ := Aside0.mk (hbox); have n2_ := Aside0.mk ((by rw [hg]; exact (below_size zB) : w.heap.size ≤ gb128)); have n3_ := Aside0.mk ((by rw [hg]; exact (below_size zB) : w.heap.size ≤ gb128)); clear HB; have HB := n0_; have BK128 := n1_; have GW128 := n2_; have GE128 := n3_; clear n0_ n1_ n2_ n3_; clear hb hbox hg; have hcz8_0 : w7.cell? ⟨gb128, 0, none⟩ = some (.int .i64 a2_0) := (blk_cell BK128.out 0).trans rfl; have hcz8_1 : w7.cell? ⟨gb128, 1, none⟩ = some (.int .i64 a2_1) := (blk_cell BK128.out 1).trans rfl; have hfz8_0 := blk_frozen BK128.out 0; have hfz8_1 := blk_frozen BK128.out 1) | (go_at_call 87; (with_reducible refine (solve_choices_failing.calls k a2_0 a2_1 _ _ l0 t129 _ ?side1 ?side2 A5.out).mono ?_); (case side1 => exact hL.out _ (KpS.trans HK.out (KpS.below zB))); (case side2 => exact hc0); rintro e w9 ⟨rfl, hb⟩; have n0_ := Aside0.mk (blk_below (g := gb128) (o := .cells #[.int .i64 a2_0, .int .i64 a2_1] 68 (0, 0)) (zk BK128) hb); have n1_ := Aside0.mk (below_step zB hb); clear BK128; clear HB; have BK128 := n0_; have HB := n1_; clear n0_ n1_; (try clear hb); (try clear hb2); (try clear hk); (try clear hi)))
 repeat (go_quiet (first | ((with_reducible refine gate_dst (N := 6) rfl ?_); refine box_event ?hg (N := 6) ?hd (cs := #[.int .i64 a2_0, .int .i64 a2_1]) (t := 68) ?hr ?_; (case hd => rfl); (case hg => rfl); (case hr => first | (go_simp; done) | (go_simp; rfl)); intro gb128 hg w7 hbox hb; have n0_ := Aside0.mk (below_step zB hb); have n1_ := Aside0.mk (hbox); have n2_ := Aside0.mk ((by rw [hg]; exact (below_size zB) : w.heap.size ≤ gb128)); have n3_ := Aside0.mk ((by rw [hg]; exact (below_size zB) : w.heap.size ≤ gb128)); clear HB; have HB := n0_; have BK128 := n1_; have GW128 := n2_; have GE128 := n3_; clear n0_ n1_ n2_ n3_; clear hb hbox hg; have hcz8_0 : w7.cell? ⟨gb128, 0, none⟩ = some (.int .i64 a2_0) := (blk_cell BK128.out 0).trans rfl; have hcz8_1 : w7.cell? ⟨gb128, 1, none⟩ = some (.int .i64 a2_1) := (blk_cell BK128.out 1).trans rfl; have hfz8_0 := blk_frozen BK128.out 0; have hfz8_1 := blk_frozen BK128.out 1) | (go_at_call 87; (with_reducible refine (solve_choices_failing.calls k a2_0 a2_1 _ _ l0 t129 _ ?side1 ?side2 A5.out).mono ?_); (case side1 => exact hL.out _ (KpS.trans HK.out (KpS.below zB))); (case side2 => exact hc0); rintro e w9 ⟨rfl, hb⟩; have n0_ := Aside0.mk (blk_below (g := gb128) (o := .cells #[.int .i64 a2_0, .int .i64 a2_1] 68 (0, 0)) (zk BK128) hb); have n1_ := Aside0.mk (below_step zB hb); clear BK128; clear HB; have BK128 := n0_; have HB := n1_; clear n0_ n1_; (try clear hb); (try clear hb2); (try clear hk); (try clear hi))); go_upto_if 14 with (first | ((with_reducible refine gate_dst (N := 6) rfl ?_); refine box_event ?hg (N := 6) ?hd (cs := #[.int .i64 a2_0, .int .i64 a2_1]) (t := 68) ?hr ?_; (case hd => rfl); (case hg => rfl); (case hr => first | (go_simp; done) | (go_simp; rfl)); intro gb128 hg w7 hbox hb; have n0_ := Aside0.mk (below_step zB hb); have n1_ := Aside0.mk (hbox); have n2_ := Aside0.mk ((by rw [hg]; exact (below_size zB) : w.heap.size ≤ gb128)); have n3_ := Aside0.mk ((by rw [hg]; exact (below_size zB) : w.heap.size ≤ gb128)); clear HB; have HB := n0_; have BK128 := n1_; have GW128 := n2_; have GE128 := n3_; clear n0_ n1_ n2_ n3_; clear hb hbox hg; have hcz8_0 : w7.cell? ⟨gb128, 0, none⟩ = some (.int .i64 a2_0) := (blk_cell BK128.out 0).trans rfl; have hcz8_1 : w7.cell? ⟨gb128, 1, none⟩ = some (.int .i64 a2_1) := (blk_cell BK128.out 1).trans rfl; have hfz8_0 := blk_frozen BK128.out 0; have hfz8_1 := blk_frozen BK128.out 1) | (go_at_call 87; (with_reducible refine (solve_choices_failing.calls k a2_0 a2_1 _ _ l0 t129 _ ?side1 ?side2 A5.out).mono ?_); (case side1 => exact hL.out _ (KpS.trans HK.out (KpS.below zB))); (case side2 => exact hc0); rintro e w9 ⟨rfl, hb⟩; have n0_ := Aside0.mk (blk_below (g := gb128) (o := .cells #[.int .i64 a2_0, .int .i64 a2_1] 68 (0, 0)) (zk BK128) hb); have n1_ := Aside0.mk (below_step zB hb); clear BK128; clear HB; have BK128 := n0_; have HB := n1_; clear n0_ n1_; (try clear hb); (try clear hb2); (try clear hk); (try clear hi))))
 (try simp only [Act.put, List.setIfInBounds_toArray, List.set_cons_zero, List.set_cons_succ])
 have H := HC6.out
 clear HC6
 by_cases c10 : t129 ≥ 0
 ·rw [if_pos c10] at H
  have c10b0 : decide (0 ≤ t129) = true := decide_eq_true c10
  clear c10
  (first | rw [c10b0] | (simp only [i64_w, i32_w]; rw [c10b0]) | skip)
  obtain rfl := Option.some.inj H
  go_wp2
  repeat (go_quiet (fail); try go_wp2)
  go_ret
  have hbel : Below w.heap.size w _ := zB
  exact .inl ⟨rfl, by (try rw [List.append_nil]); exact hJb.out _ _ _ HJ.out hbel, KpS.below hbel⟩
 ·rw [if_neg c10] at H
  have c10b0 : decide (0 ≤ t129) = false := decide_eq_false c10
  clear c10
  (first | rw [c10b0] | (simp only [i64_w, i32_w]; rw [c10b0]) | skip)
  by_cases c11 : (l1.length : Int) = 0
  ·rw [if_pos c11] at H
   have c11b0 : ((l1.length : Int) == 0) = true := beq_iff_eq.mpr c11
   have c11b1 : ((l1.length : Int) != 0) = false := bne_eq_false_iff_eq.mpr c11
   clear c11
   obtain rfl := Option.some.inj H
   have hcz12_0 : w9.cell? ⟨gb128, 0, none⟩ = some (.int .i64 a2_0) := (blk_cell BK128.out 0).trans rfl
   have hcz12_1 : w9.cell? ⟨gb128, 1, none⟩ = some (.int .i64 a2_1) := (blk_cell BK128.out 1).trans rfl
   have hfz12_0 := blk_frozen BK128.out 0
   have hfz12_1 := blk_frozen BK128.out 1
   obtain ⟨fn, tmps, assign, body, hy, hR⟩ := hY.out (5 - 1) pre a2_1 w9 (hJb.out _ _ _ HJ.out HB.out) (by have := HN.out; simp at this; omega)
   refine (wpIn_wide (n := 5)).1 ?_
   gi_wp2
   refine (wpIn_wide (n := 5)).1 ?_
   gi_wp2
   refine hR.mono ?_
   rintro e W3 (⟨rfl, hJ3, hK3⟩ | ⟨rfl, hJx3⟩)
   ·gi_wp2
    go_ret
    exact .inl ⟨rfl, hJ3, (KpS.below HB.out).trans hK3⟩
   ·gi_wp2
    go_ret
    exact .inr ⟨rfl, [a2_1], List.prefix_refl _, hJx3⟩
  ·rw [if_neg c11] at H
   have c11b0 : ((l1.length : Int) == 0) = false := beq_eq_false_iff_ne.mpr c11
   have c11b1 : ((l1.length : Int) != 0) = true := bne_iff_ne.mpr c11
   have c11b2 : ¬ (l1 = []) := fun h_ => c11 (by rw [h_]; rfl)
   obtain ⟨ji13, hji13⟩ : ∃ j_ : Int, (wrap64 ((l1.length : Int) - 1)) = j_ := ⟨_, rfl⟩
   simp only [hji13] at H
   obtain ⟨lt_, hlt_⟩ : ∃ t_ : List Int, t_ = l1.take ((ji13) : Int).toNat := ⟨_, rfl⟩
   simp only [← hlt_] at H
   have hji13w : (IntKind.i64.wrap ((l1.length : Int) - 1)) = ji13 := (i64_w _).trans hji13
   by_cases c14 : 0 ≤ (ji13)
   ·rw [if_pos c14] at H
    have c14b0 : decide (0 ≤ (ji13)) = true := decide_eq_true c14
    clear c14
    by_cases c15 : (ji13) < (l1.length : Int)
    ·rw [if_pos c15] at H
     have c15b0 : decide ((ji13) < (l1.length : Int)) = true := decide_eq_true c15
     clear c15
     have c16b0 := eq_true (of_decide_eq_true zh : 0 ≤ (ji13))
     by_cases c17 : (ji13) ≤ (l1.length : Int)
     ·rw [if_pos c17] at H
      have c17b0 := eq_true c17
      have c17b1 : decide ((ji13) ≤ (l1.length : Int)) = true := decide_eq_true c17
      clear c17
      replace H := Option.bind_eq_some_iff.mp H
      obtain ⟨⟨t132, t133⟩, A180, H⟩ := H
      have A18 := Aside0.mk A180
      clear A180
      replace H := Option.bind_eq_some_iff.mp H
      obtain ⟨t134, A190, H⟩ := H
      have A19 := Aside0.mk A190
      clear A190
      replace H := Option.bind_eq_some_iff.mp H
      obtain ⟨⟨t135, t136⟩, A210, H⟩ := H
      have A21 := Aside0.mk A210
      clear A210
      replace H := Option.bind_eq_some_iff.mp H
      obtain ⟨t137, A220, H⟩ := H
      have A22 := Aside0.mk A220
      clear A220
      obtain rfl := Option.some.inj H
      clear H
      have p130 : 0 ≤ ((ji13) : Int) := of_decide_eq_true zh
      have q130 : (ji13) < (l1.length : Int) := of_decide_eq_true zh
      obtain ⟨ad130, e130, hx130_0⟩ := Kd.at_int (HV.out w9 (KpS.trans HK.out (KpS.below HB.out))) (ji13) p130 q130
      cases e130
      replace p130 := eq_true p130
      replace q130 := eq_true q130
      obtain ⟨i023, hi023, _, hsz23, _⟩ := info_parts info3
      obtain ⟨hcut23, hA23, hC23⟩ := print_take_of (P := Try.prog) (Value.int .i64) 0 42 3 .i64 Try.underlying42 hi023 hsz23 (some ad130) c1 l1 (ji13) (of_decide_eq_true zh) (of_decide_eq_true zh) HC1.out
      rw [← hlt_] at hcut23 hA23 hC23
      have HLT := Aside0.mk hlt_
      clear hlt_
      have HV131 := Aside0.mk (fun W' hk_ => Kd.C_of_reads (h1 := fun _ => rfl) (hA23 _ (Kd.reads_of_C (HV.out W' hk_))))
      have HC131 := Aside0.mk hC23
      clear hA23 hC23 hi023 hsz23
      have hcz24_0 : w9.cell? ⟨gb128, 0, none⟩ = some (.int .i64 a2_0) := (blk_cell BK128.out 0).trans rfl
      have hcz24_1 : w9.cell? ⟨gb128, 1, none⟩ = some (.int .i64 a2_1) := (blk_cell BK128.out 1).trans rfl
      have hfz24_0 := blk_frozen BK128.out 0
      have hfz24_1 := blk_frozen BK128.out 1
      have hn1 : pre.length + t134.length ≤ N := by have := HN.out; simp at this; omega
      have hn2 : (pre ++ t134).length + t137.length ≤ N := by have := HN.out; simp at this ⊢; omega
      have HN1 := Aside0.mk hn1
      have HN2 := Aside0.mk hn2
      clear hn1 hn2
      go_wp2
      go_quiet (fail)
      go_wp2_with (first
       | (go_at_call 88; (with_reducible refine (solve_choices_with.calls a2_0 a2_1 (rd l1 (ji13)) 0 t132 t133 _ A18.out).mono ?_); clear A18; rintro e w25 ⟨rfl, hb⟩; have n0_ := Aside0.mk (blk_below (g := gb128) (o := .cells #[.int .i64 a2_0, .int .i64 a2_1] 68 (0, 0)) (zk BK128) hb); have n1_ := Aside0.mk (below_step zB hb); clear BK128; clear HB; have BK128 := n0_; have HB := n1_; clear n0_ n1_; clear hb)
       | (go_at_call 86; (with_reducible refine (IH.out k (by omega) _ _ _ t132 t133 t134 pre _ ?side1 ?side2 ?side3 ?side4 ?side5 A19.out).mono ?_); (case side1 => exact KpS.trans HK.out (KpS.below zB)); (case side2 => exact hJb.out _ _ _ HJ.out zB); (case side3 => exact HV131.out); (case side4 => exact HC131.out); (case side5 => exact HN1.out); clear A19; rintro e w26 (⟨rfl, hJ1, hK1⟩ | ⟨rfl, q1, hq1, hx1⟩); (have n0_ := Aside0.mk (KpS.box hK1 (g := gb128) (cs := #[.int .i64 a2_0, .int .i64 a2_1]) (zk BK128)); have n1_ := Aside0.mk (KpS.trans (KpS.below zB) hK1); have n2_ := Aside0.mk hJ1; have n3_ := Aside0.mk (Below.refl w26.heap.size w26); clear hJ1 hK1 BK128 HB; have BK128 := n0_; have HK1 := n1_; have HJ1 := n2_; have HB1 := n3_; clear n0_ n1_ n2_ n3_; have hcz27_0 : w26.cell? ⟨gb128, 0, none⟩ = some (.int .i64 a2_0) := (blk_cell BK128.out 0).trans rfl; have hcz27_1 : w26.cell? ⟨gb128, 1, none⟩ = some (.int .i64 a2_1) := (blk_cell BK128.out 1).trans rfl; have hfz27_0 := blk_frozen BK128.out 0; have hfz27_1 := blk_frozen BK128.out 1))
       | (go_at_call 88; (with_reducible refine (solve_choices_with.calls a2_0 a2_1 (rd l1 (ji13)) 1 t135 t136 _ A21.out).mono ?_); clear A21; rintro e w28 ⟨rfl, hb⟩; have n0_ := Aside0.mk (blk_below (g := gb128) (o := .cells #[.int .i64 a2_0, .int .i64 a2_1] 68 (0, 0)) (zk BK128) hb); have n1_ := Aside0.mk (below_step (by repeat (first | (with_reducible first | exact HB1.out | apply below_alloc | apply pw_below_drewN | apply below_drew1) | exact HB1.out)) hb); clear BK128; clear HB1; have BK128 := n0_; have HB1 := n1_; clear n0_ n1_; clear hb)
       | (go_at_call 86; (with_reducible refine (IH.out k (by omega) _ _ _ t135 t136 t137 (pre ++ t134) _ ?side1 ?side2 ?side3 ?side4 ?side5 A22.out).mono ?_); (case side1 => exact KpS.trans HK.out (KpS.trans HK1.out (KpS.below (by repeat (first | (with_reducible first | exact HB1.out | apply below_alloc | apply pw_below_drewN | apply below_drew1) | exact HB1.out))))); (case side2 => exact hJb.out _ _ _ HJ1.out (by repeat (first | (with_reducible first | exact HB1.out | apply below_alloc | apply pw_below_drewN | apply below_drew1) | exact HB1.out))); (case side3 => exact HV131.out); (case side4 => exact HC131.out); (case side5 => exact HN2.out); clear A22; rintro e w29 (⟨rfl, hJ2, hK2⟩ | ⟨rfl, q2, hq2, hx2⟩)))
      ·go_ret
       exact .inl ⟨rfl, by rw [← List.append_assoc]; exact hJ2, KpS.trans HK1.out (KpS.trans (KpS.below (by repeat (first | (with_reducible first | exact HB1.out | apply below_alloc | apply pw_below_drewN | apply below_drew1) | exact HB1.out))) hK2)⟩
      ·go_ret
       obtain ⟨z2, hz2⟩ := hq2
       exact .inr ⟨rfl, t134 ++ q2, ⟨z2, by rw [List.append_assoc, hz2]⟩, by rw [← List.append_assoc]; exact hx2⟩
      ·go_ret
       exact .inr ⟨rfl, q1, hq1.trans (List.prefix_append _ _), hx1⟩
     ·rw [if_neg c17] at H
      exact absurd H (by simp)
    ·rw [if_neg c15] at H
     exact absurd H (by simp)
   ·rw [if_neg c14] at H
    exact absurd H (by simp)
set_option maxHeartbeats 8000000 in
set_option maxRecDepth 100000 in
theorem solve_solutions_1.in_ (lp N n0 n1 n2 : Nat) (J Jx : List Int → World → Prop) (w0 : World) (A0 : Option Addr) (c0 : Nat) (l0 : List (S61)) (hc0 : l0.length ≤ c0) (A1 : Option Addr) (c1 : Nat) (l1 : List Int) (hc1 : l1.length ≤ c1) (a2_0 a2_1 : Int) (g0 g1 g2 : Nat)
  (hL_ : ∀ W', KpS n0 n1 n2 w0 W' → Kd.C k61 W' A0 l0.length l0) (hV_ : ∀ W', KpS n0 n1 n2 w0 W' → Kd.C (Kd.int .i64) W' A1 l1.length l1) (hJb_ : ∀ s W W', J s W → Below W.heap.size W W' → J s W')
  (hY_ : ∀ m pre x W, J pre W → pre.length < N → YieldAt Fence.wide m Try.prog lp #[.int .i64 x] W fun e W' => (e = .returned (.bool true) ∧ J (pre ++ [x]) W' ∧ KpS n0 n1 n2 W W') ∨ (e = .returned (.bool false) ∧ Jx (pre ++ [x]) W')) (k : Nat)
  (r : List Int) (w : World) (hK : KpS n0 n1 n2 w0 w) (hJ : J [] w) (hN : r.length ≤ N) (h : solve_search.f k l0 l1 a2_0 a2_1 = some r)
  (hb0_ : w.heap[g0]? = some (.cells #[.slice A0 l0.length c0] 22 (0, 0))) (hb1_ : w.heap[g1]? = some (.cells #[.slice A1 l1.length c1] 42 (0, 0))) (hb2_ : w.heap[g2]? = some (.cells #[.int .i64 a2_0, .int .i64 a2_1] 68 (0, 0))) :
  Calls Try.prog 85 #[.func (.yield lp) #[] #[], .pointer (some ⟨g0, 0, none⟩), .pointer (some ⟨g1, 0, none⟩), .pointer (some ⟨g2, 0, none⟩)] w fun e w' => (∃ v, e = .returned v) ∧ ((∃ xs, xs = r ∧ J xs w') ∨ (∃ pre, pre <+: r ∧ Jx pre w')) := by
 have hp := solve_search.in_ lp N n0 n1 n2 J Jx w0 A0 c0 l0 hc0 hL_ hJb_ hY_ k A1 c1 l1 a2_0 a2_1 r [] w hK hJ hV_ hc1 (by simpa using hN) h
 have HP := Aside0.mk hp
 clear hp hL_ hV_ hJb_ hY_
 have hu68 := Try.underlying68
 have hu42 := Try.underlying42
 have hu22 := Try.underlying22
 have hcz0 : w.cell? ⟨g0, 0, none⟩ = some (.slice A0 l0.length c0) := (blk_cell hb0_ 0).trans rfl
 have hcz1 : w.cell? ⟨g1, 0, none⟩ = some (.slice A1 l1.length c1) := (blk_cell hb1_ 0).trans rfl
 have hcz2 : w.cell? ⟨g2, 0, none⟩ = some (.int .i64 a2_0) := (blk_cell hb2_ 0).trans rfl
 have hcz3 : w.cell? ⟨g2, 1, none⟩ = some (.int .i64 a2_1) := (blk_cell hb2_ 1).trans rfl
 clear hb0_ hb1_ hb2_
 go_enter Try.func85, Try.ntmps85
 go_wp2_with (go_at_call 86; (with_reducible refine HP.out.mono ?_); clear HP; rintro e W1 (⟨rfl, hJ1, _⟩ | ⟨rfl, q, hq, hx⟩))
 ·go_end0
  exact ⟨⟨_, rfl⟩, .inl ⟨_, rfl, by simpa using hJ1⟩⟩
 ·go_end0
  exact ⟨⟨_, rfl⟩, .inr ⟨q, hq, by simpa using hx⟩⟩
set_option maxHeartbeats 1000000 in
theorem solve_solutions.in_ (A0 : Option Addr) (n0 c0 : Nat) (A1 : Option Addr) (n1 c1 : Nat) (a2_0 a2_1 : Int) (w : World) :
  Calls Try.prog 48 #[.slice A0 n0 c0, .slice A1 n1 c1, .agg #[.int .i64 a2_0, .int .i64 a2_1]] w fun e w' => ∃ g0 g1 g2 : Nat, e = .returned (.func (.func 85) #[] #[.pointer (some ⟨g0, 0, none⟩), .pointer (some ⟨g1, 0, none⟩), .pointer (some ⟨g2, 0, none⟩)]) ∧ w.heap.size ≤ g0 ∧ w.heap.size ≤ g1 ∧
   w'.heap[g0]? = some (.cells #[.slice A0 n0 c0] 22 (0, 0)) ∧ w'.heap[g1]? = some (.cells #[.slice A1 n1 c1] 42 (0, 0)) ∧ w'.heap[g2]? = some (.cells #[.int .i64 a2_0, .int .i64 a2_1] 68 (0, 0)) ∧ Below w.heap.size w w' := by
 go_enter Try.func48, Try.ntmps48
 have hu68 := Try.underlying68
 have hu42 := Try.underlying42
 have hu22 := Try.underlying22
 go_wp2
 go_ret
 refine ⟨_, _, _, rfl, ?_, ?_, ?_, ?_, ?_, ?_⟩
 ·exact Nat.le_refl _
 ·omega
 ·exact blk_alloc (blk_alloc (heap_alloc_new _ _) _) _
 ·exact blk_alloc (by have h_ := heap_alloc_new (w.alloc (.cells #[.slice A0 n0 c0] 22)) (.cells #[.slice A1 n1 c1] 42); rw [World.size_alloc] at h_; exact h_) _
 ·have h_ := heap_alloc_new ((w.alloc (.cells #[.slice A0 n0 c0] 22)).alloc (.cells #[.slice A1 n1 c1] 42)) (.cells #[.int .i64 a2_0, .int .i64 a2_1] 68); rw [World.size_alloc, World.size_alloc] at h_; exact h_
 ·exact below_alloc (below_alloc (below_alloc (Below.refl _ _) _) _) _
/-- What the function value that 'solutions' hands back gives: all solutions in order. -/
theorem solve_solutions_stops (n0 n1 n2 : Nat) (A0 : Option Addr) (c0 : Nat) (l0 : List (S61)) (hc0 : l0.length ≤ c0) (A1 : Option Addr) (c1 : Nat) (l1 : List Int) (hc1 : l1.length ≤ c1) (a2_0 a2_1 : Int) (g0 g1 g2 k : Nat) (r : List Int) (w : World) (h2 : w.heap.size ≤ n2)
  (hL_ : ∀ W', KpS n0 n1 n2 w W' → Kd.C k61 W' A0 l0.length l0) (hV_ : ∀ W', KpS n0 n1 n2 w W' → Kd.C (Kd.int .i64) W' A1 l1.length l1) (h : solve_search.f k l0 l1 a2_0 a2_1 = some r)
  (hb0_ : w.heap[g0]? = some (.cells #[.slice A0 l0.length c0] 22 (0, 0))) (hb1_ : w.heap[g1]? = some (.cells #[.slice A1 l1.length c1] 42 (0, 0))) (hb2_ : w.heap[g2]? = some (.cells #[.int .i64 a2_0, .int .i64 a2_1] 68 (0, 0))) :
  SeqStopsK Fence.wide 4 Try.prog 85 #[.pointer (some ⟨g0, 0, none⟩), .pointer (some ⟨g1, 0, none⟩), .pointer (some ⟨g2, 0, none⟩)] (fun x : Int => #[Value.int .i64 x]) (KpS n0 n1 n2) (fun ys => ys = r) (fun pre => pre <+: r) r.length w := fun l J Jx W hW hJ hJx hY hj0 => by
 have hJb : ∀ s W W', J s W → Below W.heap.size W W' → J s W' := fun s A B hs hb => by
  exact hJ s A B none hs ⟨hb.os, hb.tape, hb.output, hb.size, fun k hk _ => hb.block k hk⟩ (fun r e => by cases e)
 refine callsIn_wide.2 ?_
 exact solve_solutions_1.in_ l r.length n0 n1 n2 J Jx w A0 c0 l0 hc0 A1 c1 l1 hc1 a2_0 a2_1 g0 g1 g2 hL_ hV_ hJb (fun m pre x W1 hj hl => YieldAt.anyDepth_ rfl m (hY pre x W1 hj hl)) k r W (KpS.below hW) hj0 (Nat.le_refl _) h
  ((hW.block _ (blk_lt hb0_)).trans hb0_) ((hW.block _ (blk_lt hb1_)).trans hb1_) ((hW.block _ (blk_lt hb2_)).trans hb2_)
end
/-! ### solve_split: function 49 -/
/-! #### split -/
def solve_split.T10 : Bool × List (List Nat × List Nat) := (true, [([], []), ([], []), ([1], [1]), ([2], [2]), ([3], [3]), ([], []), ([5], [5]), ([6], [6]), ([], []), ([8], [8]), ([7, 9], [7, 9]), ([10], [10]), ([4, 11], [4, 11]), ([0, 0, 1, 2, 3, 4, 5, 6, 7, 8, 9, 10, 11, 12], [0]), ([13, 0, 1, 2, 3, 4, 5, 6, 7, 8, 9, 10, 11, 12], [13]), ([14, 12, 12, 0, 1, 2, 3, 4, 5, 6, 7, 8, 9, 10, 11, 12], [12, 14])])
def solve_split.B10 : List Nat := [0, 0, 2, 6, 14, 0, 32, 96, 0, 256, 992, 2016, 4094, 8191, 16383, 32767]
theorem solve_split.tab10 : rtab .any (opsOf Try.f49 10) = solve_split.T10 := by kernel_rfl
theorem solve_split.bits10 : waitsOk solve_split.T10.2 solve_split.B10 = true := by kernel_rfl
def solve_split.T11 : Bool × List (List Nat × List Nat) := (true, [([], []), ([], []), ([1], [1]), ([], []), ([], []), ([4], [4]), ([5], [5]), ([3, 6], [3, 6]), ([], []), ([0, 2, 7, 8, 7], [0, 2, 7, 8]), ([9], [9])])
def solve_split.B11 : List Nat := [0, 0, 2, 0, 0, 16, 48, 120, 0, 511, 1023]
theorem solve_split.tab11 : rtab .any (opsOf Try.f49 11) = solve_split.T11 := by kernel_rfl
theorem solve_split.bits11 : waitsOk solve_split.T11.2 solve_split.B11 = true := by kernel_rfl
def solve_split.T13 : Bool × List (List Nat × List Nat) := (true, [([], []), ([0], [0]), ([1], [1]), ([2], [2]), ([], []), ([], []), ([5], [5]), ([6], [6]), ([7], [7]), ([8], [8]), ([3, 4, 0, 1, 2, 3, 4, 5, 6, 7, 8, 9], [3, 4]), ([10, 0, 1, 2, 3, 4, 5, 6, 7, 8, 9], [10]), ([11, 9, 0, 1, 2, 3, 4, 5, 6, 7, 8, 9], [9, 11])])
def solve_split.B13 : List Nat := [0, 1, 3, 7, 0, 0, 32, 96, 224, 480, 1023, 2047, 4095]
theorem solve_split.tab13 : rtab .any (opsOf Try.f49 13) = solve_split.T13 := by kernel_rfl
theorem solve_split.bits13 : waitsOk solve_split.T13.2 solve_split.B13 = true := by kernel_rfl
def solve_split.T14 : Bool × List (List Nat × List Nat) := (true, [([], []), ([], []), ([1], [1]), ([], []), ([], []), ([4], [4]), ([5], [5]), ([3, 6], [3, 6]), ([], []), ([0, 2, 7, 8, 7], [0, 2, 7, 8]), ([9, 9, 0, 1, 2, 3, 4, 5, 6, 7, 8, 9], [9])])
def solve_split.B14 : List Nat := [0, 0, 2, 0, 0, 16, 48, 120, 0, 511, 1023]
theorem solve_split.tab14 : rtab .any (opsOf Try.f49 14) = solve_split.T14 := by kernel_rfl
theorem solve_split.bits14 : waitsOk solve_split.T14.2 solve_split.B14 = true := by kernel_rfl
/-- What split keeps: all that lay below n0, and all but the nodes' variable and rows of nodes. -/
def KpR (n0 g : Nat) (W W' : World) : Prop := W.heap.size ≤ W'.heap.size ∧ (∀ k, k < W.heap.size → (k < n0 ∨ (k ≠ g ∧ ∀ cs, W.heap[k]? ≠ some (.cells cs 35 (0, 0)))) → W'.heap[k]? = W.heap[k]?) ∧ W'.os = W.os ∧ W'.tape = W.tape ∧ W'.output = W.output
theorem KpR.refl {n0 g : Nat} (W : World) : KpR n0 g W W := ⟨Nat.le_refl _, fun _ _ _ => rfl, rfl, rfl, rfl⟩
theorem KpR.trans {n0 g : Nat} {A B C : World} (h : KpR n0 g A B) (k : KpR n0 g B C) : KpR n0 g A C :=
 ⟨Nat.le_trans h.1 k.1, fun j hj hp => by
  have e := h.2.1 j hj hp
  exact (k.2.1 j (Nat.lt_of_lt_of_le hj h.1) (hp.elim .inl (fun ⟨h1, h2⟩ => .inr ⟨h1, fun cs hc => h2 cs (e.symm.trans hc)⟩))).trans e, k.2.2.1.trans h.2.2.1, k.2.2.2.1.trans h.2.2.2.1, k.2.2.2.2.trans h.2.2.2.2⟩
theorem KpR.below {n0 g : Nat} {A B : World} (h : Below A.heap.size A B) : KpR n0 g A B := ⟨h.size, fun j hj _ => h.block j hj, h.os, h.tape, h.output⟩
theorem KpR.belowN {n0 g : Nat} {A B : World} (h : KpR n0 g A B) (hn : n0 ≤ A.heap.size) : Below n0 A B := ⟨h.2.2.1, h.2.2.2.1, h.2.2.2.2, h.1, fun k hk => h.2.1 k (by omega) (.inl hk)⟩
theorem KpR.blk {n0 g : Nat} {A B : World} (h : KpR n0 g A B) {j t : Nat} {cs : Array Value} (hb : A.heap[j]? = some (.cells cs t (0, 0))) (hj : j ≠ g) (ht : t ≠ 35) : B.heap[j]? = some (.cells cs t (0, 0)) :=
 (h.2.1 j (blk_lt hb) (.inr ⟨hj, fun cs' hc => by rw [hb] at hc; cases hc; exact ht rfl⟩)).trans hb
theorem KpR.other {n0 g : Nat} {A B : World} (h : KpR n0 g A B) {j : Nat} {o : Obj} (hb : A.heap[j]? = some o) (hj : j ≠ g) (ho : o.isCells = false) : B.heap[j]? = some o :=
 (h.2.1 j (Array.getElem?_eq_some_iff.1 hb).1 (.inr ⟨hj, fun cs' hc => by rw [hb] at hc; cases hc; simp [Obj.isCells] at ho⟩)).trans hb
theorem KpR.kept {n0 g : Nat} {A B : World} (h : KpR n0 g A B) : Kept A B (fun k => n0 ≤ k ∧ (k = g ∨ ∃ cs, A.heap[k]? = some (.cells cs 35 (0, 0)))) :=
 ⟨h.1, fun i hi hn => h.2.1 i hi (by
  by_cases hlt : i < n0
  ·exact .inl hlt
  ·exact .inr ⟨fun e => hn ⟨by omega, .inl e⟩, fun cs hc => hn ⟨by omega, .inr ⟨cs, hc⟩⟩⟩)⟩
theorem KpR.set {n0 g : Nat} (W : World) (hg : n0 ≤ g) (j : Nat) (u : Value) : KpR n0 g W (W.setCell ⟨g, j, none⟩ u) :=
 ⟨by simp [World.setCell], fun k hk hp => Below.heap_setCell W _ u k (fun e => by
  dsimp only at e
  subst e
  rcases hp with hp | ⟨hp, _⟩
  ·omega
  ·exact hp rfl), rfl, rfl, rfl⟩
theorem KpR.grown {n0 g : Nat} {W W' : World} {row : Option Nat} (hg : W.grownBy W' row) (hr : ∀ k, row = some k → n0 ≤ k ∧ ∃ cs, W.heap[k]? = some (.cells cs 35 (0, 0))) : KpR n0 g W W' :=
 ⟨hg.size, fun k hk hp => hg.block k hk (fun e => by
  obtain ⟨h1, cs, hb⟩ := hr k e.symm
  rcases hp with hp | ⟨_, hc⟩
  ·omega
  ·exact hc cs hb), hg.os, hg.tape, hg.output⟩
theorem cell_alloc_ {W : World} {a : Addr} {v : Value} {o : Obj} (h : W.cell? a = some v) : (W.alloc o).cell? a = some v := cell_kept h (World.grownBy_alloc W o none) (fun r e => by cases e)
def solve_split.f : Nat → List (S61) → List Int → Int → Int → List (S35) → Option (List (S35) × Bool)
 | 0, _, _, _, _, _ => none
 | k + 1, l0, l1, a2_0, a2_1, l3 => if (l3.length : Int) = 2000 then some (l3, false) else (solve_choices_failing.f k a2_0 a2_1 l0).bind fun t => (if t ≥ 0 then (if l3.length < 4398046511104 then some (l3 ++ [(⟨(-1), 0, 0, t⟩ : S35)], true) else none) else (if (l1.length : Int) = 0 then some (l3, false) else (if l3.length < 4398046511104 then (solve_choices_with.f a2_0 a2_1 (rd l1 0) 0).bind fun b => (solve_split.f k l0 (l1.drop 1) b.1 b.2 (l3 ++ [(⟨rd l1 0, wrap64 ((l3.length : Int) + 1), 0, 0⟩ : S35)])).bind fun q => (if q.2 = true then (if (l3.length : Int) < (q.1.length : Int) then (solve_choices_with.f a2_0 a2_1 (rd l1 0) 1).bind fun b' => solve_split.f k l0 (l1.drop 1) b'.1 b'.2 (q.1.set l3.length (⟨(rd_T35 q.1 (l3.length : Int)).f0, (rd_T35 q.1 (l3.length : Int)).f1, (q.1.length : Int), (rd_T35 q.1 (l3.length : Int)).f3⟩ : S35)) else none) else some (q.1, false)) else none)))
theorem solve_split.mono_l : ∀ k, (∀ y0 y1 y2 y3 y4, LeO (solve_split.f k y0 y1 y2 y3 y4) (solve_split.f (k + 1) y0 y1 y2 y3 y4))
 | 0 => fun _ _ _ _ _ r h => by simp [solve_split.f] at h
 | k + 1 => by
  have ih0 := solve_split.mono_l k
  ·intro y0 y1 y2 y3 y4
   unfold solve_split.f
   repeat' first
   | (with_reducible exact ih0 _ _ _ _ _)
   | (with_reducible exact solve_choices_failing.mono _ _ _ _)
   | (with_reducible exact LeO.refl _)
   | (with_reducible exact LeO.none _)
   | (with_reducible refine LeO.ite ?_ ?_)
   | (with_reducible refine LeO.bind ?_ (fun _ => ?_))
   | exact ih0 _ _ _ _ _
   | exact solve_choices_failing.mono _ _ _ _
   | exact LeO.refl _
   | exact LeO.none _
   | refine LeO.ite ?_ ?_
   | refine LeO.bind ?_ (fun _ => ?_)
theorem solve_split.mono : ∀ a0 a1 a2 a3 a4 k, LeO (solve_split.f k a0 a1 a2 a3 a4) (solve_split.f (k + 1) a0 a1 a2 a3 a4) := by
 intro a0 a1 a2 a3 a4 k
 have ih0 := solve_split.mono_l k
 exact ih0 a0 a1 a2 a3 a4
set_option maxHeartbeats 8000000 in
set_option maxRecDepth 100000 in
theorem solve_split.in_ (n0 g : Nat) (hge_ : n0 ≤ g) (w1 : World) (A0 : Option Addr) (c0 : Nat) (l0 : List (S61)) (hl0_ : l0.length ≤ c0) (hL_ : ∀ W', KpR n0 g w1 W' → Kd.C k61 W' A0 l0.length l0) (k : Nat) :
  ∀ (A1 : Option Addr) (c1 : Nat) (l1 : List Int) (a2_0 a2_1 : Int) (l3 : List (S35)) (u : Value) (r : List (S35)) (b : Bool) (w : World) (hK_ : KpR n0 g w1 w) (hn_ : n0 ≤ w.heap.size) (hV_ : ∀ W', KpR n0 g w1 W' → Kd.C (Kd.int .i64) W' A1 l1.length l1) (hc1_ : l1.length ≤ c1)
   (hb_ : w.heap[g]? = some (.cells #[u] 27 (0, 0))) (ho_ : Kd.R k35 35 w n0 (fun _ => True) u l3) (h : solve_split.f k l0 l1 a2_0 a2_1 l3 = some (r, b)),
  Calls Try.prog 49 #[.slice A0 l0.length c0, .slice A1 l1.length c1, .agg #[.int .i64 a2_0, .int .i64 a2_1], .pointer (some ⟨g, 0, none⟩)] w fun e w' => e = .returned (.bool b) ∧ ∃ u' : Value, w'.heap[g]? = some (.cells #[u'] 27 (0, 0)) ∧ Kd.R k35 35 w' n0 (fun _ => True) u' r ∧ KpR n0 g w w' := by
 have hL := Aside0.mk hL_
 have hge := Aside0.mk hge_
 have hl0 := Aside0.mk hl0_
 clear hL_ hge_ hl0_
 induction k using Nat.strongRecOn with
 | _ k ih =>
 intro A1 c1 l1 a2_0 a2_1 l3 u r b w hK_ hn_ hV_ hc1_ hb_ ho_ h
 cases k with
 | zero => exact absurd h (by simp [solve_split.f])
 | succ k =>
 simp only [solve_split.f] at h
 have hu68 := Try.underlying68
 have hu27 := Try.underlying27
 have hu25 := Try.underlying25
 have hu35 := Try.underlying35
 have hu3 := Try.underlying3
 obtain ⟨Au, cu, rfl⟩ := Kd.R_slice ho_
 have HK1 := Aside0.mk hK_
 have HN := Aside0.mk hn_
 have HV := Aside0.mk hV_
 have HC1 := Aside0.mk hc1_
 have BKr := Aside0.mk hb_
 have HO := Aside0.mk ho_
 have HK := Aside0.mk (KpR.refl (n0 := n0) (g := g) w)
 have IH := Aside0.mk ih
 have HGW := Aside0.mk (blk_lt hb_)
 clear hK_ hn_ hV_ hc1_ hb_ ho_ ih
 have H0 := Aside0.mk h
 clear h
 go_enter Try.func49, Try.ntmps49
 go_upto_if 17 with (first | ((with_reducible refine gate_dst (N := 6) rfl ?_); refine box_event ?hg (N := 6) ?hd (cs := #[.int .i64 a2_0, .int .i64 a2_1]) (t := 68) ?hr ?_; (case hd => rfl); (case hg => rfl); (case hr => first | (go_simp; done) | (go_simp; rfl)); intro gb hg w7 hbox hb; have n0_ := Aside0.mk (blk_below BKr.out hb); have n1_ := Aside0.mk hbox; have n2_ := Aside0.mk (Kd.R_below HO.out hb); have n3_ := Aside0.mk (KpR.below (n0 := n0) (g := g) hb); have n4_ := Aside0.mk (show w.heap.size ≤ gb by rw [hg]; exact Nat.le_refl _); clear BKr HO HK hb hbox hg; have BKr := n0_; have BKc := n1_; have HO := n2_; have HK := n3_; have GE := n4_; clear n0_ n1_ n2_ n3_ n4_; have hcr : w7.cell? ⟨g, 0, none⟩ = some (.slice Au l3.length cu) := (blk_cell BKr.out 0).trans rfl; have hfr := blk_frozen BKr.out 0; have hc0 : w7.cell? ⟨gb, 0, none⟩ = some (.int .i64 a2_0) := (blk_cell BKc.out 0).trans rfl; have hc1 : w7.cell? ⟨gb, 1, none⟩ = some (.int .i64 a2_1) := (blk_cell BKc.out 1).trans rfl; have hf0 := blk_frozen BKc.out 0; have hf1 := blk_frozen BKc.out 1))
 (try simp only [Act.put, List.setIfInBounds_toArray, List.set_cons_zero, List.set_cons_succ])
 have NE := Aside0.mk (show gb ≠ g from by have h1 := GE.out; have h2 := HGW.out; omega)
 have H := H0.out
 clear H0
 by_cases c2 : (l3.length : Int) = 2000
 ·rw [if_pos c2] at H
  have c2b0 : ((l3.length : Int) == 2000) = true := beq_iff_eq.mpr c2
  (first | rw [c2b0] | (simp only [i64_w, i32_w]; rw [c2b0]) | skip)
  simp only [Option.some.injEq, Prod.mk.injEq] at H
  obtain ⟨rfl, rfl⟩ := H
  go_wp2
  go_ret
  exact ⟨rfl, _, BKr.out, HO.out, HK.out⟩
 ·rw [if_neg c2] at H
  have c2b0 : ((l3.length : Int) == 2000) = false := beq_eq_false_iff_ne.mpr c2
  (first | rw [c2b0] | (simp only [i64_w, i32_w]; rw [c2b0]) | skip)
  replace H := Option.bind_eq_some_iff.mp H
  obtain ⟨t129, A50, H⟩ := H
  have A5 := Aside0.mk A50
  have HC6 := Aside0.mk H
  clear A50 H
  go_upto_if 22 with (first | (go_at_call 87; (with_reducible refine (solve_choices_failing.calls k a2_0 a2_1 _ _ l0 t129 _ ?side1 ?side2 A5.out).mono ?_); (case side1 => exact hL.out _ (KpR.trans HK1.out HK.out)); (case side2 => exact hl0.out); rintro e w9 ⟨rfl, hb⟩; have n0_ := Aside0.mk (blk_below BKr.out hb); have n1_ := Aside0.mk (blk_below BKc.out hb); have n2_ := Aside0.mk (Kd.R_below HO.out hb); have n3_ := Aside0.mk (KpR.trans HK.out (KpR.below (n0 := n0) (g := g) hb)); clear BKr BKc HO HK hb hcr hfr hc0 hc1 hf0 hf1; have BKr := n0_; have BKc := n1_; have HO := n2_; have HK := n3_; clear n0_ n1_ n2_ n3_; have hcr : w9.cell? ⟨g, 0, none⟩ = some (.slice Au l3.length cu) := (blk_cell BKr.out 0).trans rfl; have hfr := blk_frozen BKr.out 0; have hc0 : w9.cell? ⟨gb, 0, none⟩ = some (.int .i64 a2_0) := (blk_cell BKc.out 0).trans rfl; have hc1 : w9.cell? ⟨gb, 1, none⟩ = some (.int .i64 a2_1) := (blk_cell BKc.out 1).trans rfl; have hf0 := blk_frozen BKc.out 0; have hf1 := blk_frozen BKc.out 1))
  (try simp only [Act.put, List.setIfInBounds_toArray, List.set_cons_zero, List.set_cons_succ])
  have hn9 := Aside0.mk (Nat.le_trans HN.out HK.out.1)
  have H := HC6.out
  clear HC6
  by_cases c10 : t129 ≥ 0
  ·rw [if_pos c10] at H
   have c10b0 : decide (0 ≤ t129) = true := decide_eq_true c10
   clear c10
   (first | rw [c10b0] | (simp only [i64_w, i32_w]; rw [c10b0]) | skip)
   by_cases c16 : l3.length < 4398046511104
   ·rw [if_pos c16] at H
    have LMc16 := Aside0.mk c16
    clear c16
    simp only [Option.some.injEq, Prod.mk.injEq] at H
    obtain ⟨hr_, rfl⟩ := H
    have Ny := Aside0.mk hr_
    clear hr_
    go_wp2_with (first | ((with_reducible refine gate_builtin (b := .append) (xs := #[.tmp 27, .tmp 30]) rfl ?_); at_builtin; refine Kd.R_append k35 (w0 := w9) n0 rfl (.tmp 27) (.tmp 30) 25 35 (.agg #[(.int .i64 0), (.int .i64 0), (.int .i64 0), (.int .i64 0)]) 32 rfl Try.underlying25 info35 rfl (by decide) (by omega) (.slice Au l3.length cu) l3 (⟨(-1), 0, 0, t129⟩ : S35) [.int .i64 (-1), .int .i64 0, .int .i64 0, .int .i64 t129] (fun _ => True) (fun _ => False) rfl rfl ?aP (fun _ hk => hk.elim) ?aF ?aO ?aB ?aS ?aL ?_; (case aP => exact k35_mkM _ _ _ (⟨(-1), 0, 0, t129⟩ : S35)); (case aF => exact fun _ _ => trivial); (case aB => first | exact Below.refl n0 w9 | exact (Below.refl n0 w9).alloc hn9.out _); (case aO => exact (by (with_reducible repeat (first | apply Kd.R_alloc | apply Kd.R_drewN | apply Kd.R_drew)); exact HO.out)); (case aS => first | exact hn9.out | exact Nat.le_trans hn9.out (by rw [World.size_alloc]; omega)); (case aL => have := LMc16.out; omega); intro v459 w17 ho hb hg hat; rw [Ny.out] at ho; obtain ⟨Av, cv, rfl⟩ := Kd.R_slice ho; have hbr : w17.heap[g]? = some (.cells #[.slice Au l3.length cu] 27 (0, 0)) := blk_grown BKr.out hg (Kd.R_ne HO.out BKr.out (by decide)); have hcr : w17.cell? ⟨g, 0, none⟩ = some (.slice Au l3.length cu) := (blk_cell hbr 0).trans rfl; have hfr := blk_frozen hbr 0))
    go_ret
    exact ⟨rfl, _, blk_put (cs := #[.slice Au l3.length cu]) hbr 0 _ rfl, Kd.R_mono (Kd.R_far (p := ⟨g, 0, none⟩) (Kd.R_types ho hbr (by decide)) (fun _ hk => hk.2) _) (fun _ _ => trivial), (HK.out.trans (KpR.grown hg (fun k e => ⟨Kd.R_base HO.out k e, Kd.R_typed HO.out k e⟩))).trans (KpR.set _ hge.out _ _)⟩
   ·rw [if_neg c16] at H
    exact absurd H (by simp)
  ·rw [if_neg c10] at H
   have c10b0 : decide (0 ≤ t129) = false := decide_eq_false c10
   clear c10
   (first | rw [c10b0] | (simp only [i64_w, i32_w]; rw [c10b0]) | skip)
   by_cases c11 : (l1.length : Int) = 0
   ·rw [if_pos c11] at H
    have c11b0 : ((l1.length : Int) == 0) = true := beq_iff_eq.mpr c11
    have c11b1 : ((l1.length : Int) != 0) = false := bne_eq_false_iff_eq.mpr c11
    clear c11
    simp only [Option.some.injEq, Prod.mk.injEq] at H
    obtain ⟨rfl, rfl⟩ := H
    go_wp2
    go_ret
    exact ⟨rfl, _, BKr.out, HO.out, HK.out⟩
   ·rw [if_neg c11] at H
    have c11b0 : ((l1.length : Int) == 0) = false := beq_eq_false_iff_ne.mpr c11
    have c11b1 : ((l1.length : Int) != 0) = true := bne_iff_ne.mpr c11
    have c11b2 : ¬ (l1 = []) := fun h_ => c11 (by rw [h_]; rfl)
    have hpos : 0 < (l1.length : Int) := by omega
    by_cases c16 : l3.length < 4398046511104
    ·rw [if_pos c16] at H
     have LMc16 := Aside0.mk c16
     clear c16 c11
     replace H := Option.bind_eq_some_iff.mp H
     obtain ⟨⟨t132, t133⟩, A180, H⟩ := H
     have A18 := Aside0.mk A180
     clear A180
     replace H := Option.bind_eq_some_iff.mp H
     obtain ⟨⟨q_, qb⟩, A190, H⟩ := H
     obtain ⟨ji, hji⟩ : ∃ j_ : Int, wrap64 ((l3.length : Int) + 1) = j_ := ⟨_, rfl⟩
     obtain ⟨y_, hy_⟩ : ∃ y : List (S35), y = l3 ++ [(⟨rd l1 0, ji, 0, 0⟩ : S35)] := ⟨_, rfl⟩
     obtain ⟨lt_, hlt_⟩ : ∃ t_ : List Int, t_ = l1.drop 1 := ⟨_, rfl⟩
     rw [hji, ← hy_, ← hlt_] at A190
     simp only [← hlt_] at H
     have hjiw : (IntKind.i64.wrap ((l3.length : Int) + 1)) = ji := (i64_w _).trans hji
     have A19 := Aside0.mk A190
     clear A190
     have Ny := Aside0.mk hy_
     clear hy_
     have HC12 := Aside0.mk H
     clear H
     have p130 : 0 ≤ (0 : Int) := by omega
     obtain ⟨ad130, e130, hx130_0⟩ := Kd.at_int (HV.out w9.drew (HK1.out.trans (HK.out.trans (KpR.below (below_drew1 (Below.refl _ _)))))) 0 p130 hpos
     cases e130
     (try rw [show ((0 : Int)).toNat = 0 from rfl] at hx130_0)
     (try rw [Addr.add_zero'] at hx130_0)
     obtain ⟨i023, hi023, _, hsz23, _⟩ := info_parts info3
     obtain ⟨A23, hcut23, hA23, hC23⟩ := print_drop_of (P := Try.prog) (Value.int .i64) 0 42 3 .i64 Try.underlying42 hi023 hsz23 (some ad130) c1 l1 1 (by omega) (by omega) HC1.out
     rw [show (1 : Int).toNat = 1 from rfl, ← hlt_] at hcut23 hA23 hC23
     have HV131 := Aside0.mk (fun W' hk_ => Kd.C_of_reads (h1 := fun _ => rfl) (hA23 _ (Kd.reads_of_C (HV.out W' hk_))))
     have HC131 := Aside0.mk hC23
     have HLT := Aside0.mk hlt_
     clear hA23 hC23 hi023 hsz23 hlt_
     have qi130 : (0 < l1.length) = True := eq_true (by omega)
     have qj130 : ((0 : Int) < (l1.length : Int)) = True := eq_true hpos
     go_wp2
     have n0_ := Aside0.mk (blk_drew BKr.out)
     have n1_ := Aside0.mk (blk_drew BKc.out)
     have n2_ := Aside0.mk (Kd.R_drew HO.out)
     have n3_ := Aside0.mk (HK.out.trans (KpR.below (below_drew1 (Below.refl _ _))))
     clear BKr BKc HO HK
     have BKr := n0_
     have BKc := n1_
     have HO := n2_
     have HK := n3_
     clear n0_ n1_ n2_ n3_
     clear hcr hfr hc0 hc1 hf0 hf1
     refine start_ (n := 16) (S := fun w' => w'.cell? ⟨g, 0, none⟩ = some (.slice Au l3.length cu) ∧ w'.cell? ad130 = some (.int .i64 (rd l1 0))) (ds := [15]) #[false, false, false, false, false, false, false, false, false, false, false, false, false, false, false, false] zK rfl rfl ⟨(blk_cell BKr.out 0).trans rfl, hx130_0⟩ (fun hHeld => ?_); refine with_tabW solve_split.tab10 solve_split.bits10 (fun HT_ HW_ => ?_)
     generalize w9.drew = w10 at BKr BKc HO HK hx130_0 hHeld ⊢
     refine pure_ (i := 0) (N := some 37) (v := ?_) (a' := ?_) #[true, false, false, false, false, false, false, false, false, false, false, false, false, false, false, false] rfl rfl (any_of HT_.out zK) (fun _ _ _ h => h) (Or.inl ⟨by rfl, ?_⟩) ?_ ?_
     rotate_left
     ·intro w'
      go_simp
      with_reducible rfl
     rotate_left
     ·simp only [Act.put, List.setIfInBounds_toArray, List.set_cons_zero, List.set_cons_succ, i64_w, i32_w]
      rfl
     refine pure_ (i := 1) (N := some 38) (v := ?_) (a' := ?_) #[true, true, false, false, false, false, false, false, false, false, false, false, false, false, false, false] rfl rfl (any_of HT_.out zK) (fun _ _ _ h => h) (Or.inl ⟨by rfl, ?_⟩) ?_ ?_
     rotate_left
     ·intro w'
      go_simp
      with_reducible rfl
     rotate_left
     ·simp only [Act.put, List.setIfInBounds_toArray, List.set_cons_zero, List.set_cons_succ, i64_w, i32_w]
      rfl
     refine pure_ (i := 2) (N := some 39) (v := ?_) (a' := ?_) #[true, true, true, false, false, false, false, false, false, false, false, false, false, false, false, false] rfl rfl (any_of HT_.out zK) (fun _ _ _ h => h) (Or.inl ⟨by rfl, ?_⟩) ?_ ?_
     rotate_left
     ·intro w'
      go_simp
      with_reducible rfl
     rotate_left
     ·simp only [Act.put, List.setIfInBounds_toArray, List.set_cons_zero, List.set_cons_succ, i64_w, i32_w]
      rfl
     refine pure_ (i := 3) (N := some 40) (v := ?_) (a' := ?_) #[true, true, true, true, false, false, false, false, false, false, false, false, false, false, false, false] rfl rfl (any_of HT_.out zK) (fun _ _ _ h => h) (Or.inl ⟨by rfl, ?_⟩) ?_ ?_
     rotate_left
     ·intro w'
      go_simp
      with_reducible rfl
     rotate_left
     ·simp only [Act.put, List.setIfInBounds_toArray, List.set_cons_zero, List.set_cons_succ, i64_w, i32_w]
      rfl
     refine pure_ (i := 5) (N := some 42) (v := ?_) (a' := ?_) #[true, true, true, true, false, true, false, false, false, false, false, false, false, false, false, false] rfl rfl (any_of HT_.out zK) (fun _ _ _ h => h) (Or.inl ⟨by rfl, ?_⟩) ?_ ?_
     rotate_left
     ·intro w'
      go_simp
      with_reducible rfl
     rotate_left
     ·simp only [Act.put, List.setIfInBounds_toArray, List.set_cons_zero, List.set_cons_succ, i64_w, i32_w]
      rfl
     refine pure_ (i := 6) (N := some 43) (v := ?_) (a' := ?_) #[true, true, true, true, false, true, true, false, false, false, false, false, false, false, false, false] rfl rfl (any_of HT_.out zK) (fun _ _ _ h => h) (Or.inl ⟨by rfl, ?_⟩) ?_ ?_
     rotate_left
     ·intro w'
      go_simp
      with_reducible rfl
     rotate_left
     ·simp only [Act.put, List.setIfInBounds_toArray, List.set_cons_zero, List.set_cons_succ, i64_w, i32_w]
      rfl
     refine pure_ (i := 8) (N := some 45) (v := ?_) (a' := ?_) #[true, true, true, true, false, true, true, false, true, false, false, false, false, false, false, false] rfl rfl (any_of HT_.out zK) (fun _ _ _ h => h) (Or.inl ⟨by rfl, ?_⟩) ?_ ?_
     rotate_left
     ·intro w'
      go_simp
      with_reducible rfl
     rotate_left
     ·simp only [Act.put, List.setIfInBounds_toArray, List.set_cons_zero, List.set_cons_succ, i64_w, i32_w]
      rfl
     refine pure_ (i := 9) (N := some 46) (v := ?_) (a' := ?_) #[true, true, true, true, false, true, true, false, true, true, false, false, false, false, false, false] rfl rfl (any_of HT_.out zK) (fun _ _ _ h => h) (Or.inl ⟨by rfl, ?_⟩) ?_ ?_
     rotate_left
     ·intro w'
      go_simp
      with_reducible rfl
     rotate_left
     ·simp only [Act.put, List.setIfInBounds_toArray, List.set_cons_zero, List.set_cons_succ, i64_w, i32_w]
      rfl
     refine take_ (i := 4) (N := some 41) (v := ?_) (a' := ?_) #[true, true, true, true, true, true, true, false, true, true, false, false, false, false, false, false] rfl rfl (take_ofW HT_.out HW_.out zK) (fun _ _ _ h => h) (Or.inl ⟨by rfl, ?_⟩) hHeld ?_ ?_
     rotate_left
     ·rintro w' ⟨s0, s1⟩
      go_simp
      with_reducible rfl
     rotate_left
     ·simp only [Act.put, List.setIfInBounds_toArray, List.set_cons_zero, List.set_cons_succ, i64_w, i32_w]
      rfl
     refine take_ (i := 7) (N := some 44) (v := ?_) (a' := ?_) #[true, true, true, true, true, true, true, true, true, true, false, false, false, false, false, false] rfl rfl (take_ofW HT_.out HW_.out zK) (fun _ _ _ h => h) (Or.inl ⟨by rfl, ?_⟩) hHeld ?_ ?_
     rotate_left
     ·rintro w' ⟨s0, s1⟩
      go_simp
      with_reducible rfl
     rotate_left
     ·simp only [Act.put, List.setIfInBounds_toArray, List.set_cons_zero, List.set_cons_succ, i64_w, i32_w]
      rfl
     refine pure_ (i := 10) (N := some 47) (v := ?_) (a' := ?_) #[true, true, true, true, true, true, true, true, true, true, true, false, false, false, false, false] rfl rfl (any_of HT_.out zK) (fun _ _ _ h => h) (Or.inl ⟨by rfl, ?_⟩) ?_ ?_
     rotate_left
     ·intro w'
      go_simp
      with_reducible rfl
     rotate_left
     ·simp only [Act.put, List.setIfInBounds_toArray, List.set_cons_zero, List.set_cons_succ, i64_w, i32_w]
      rfl
     refine one_ (i := 11) (N := some 48) #[true, true, true, true, true, true, true, true, true, true, true, true, false, false, false, false] rfl rfl (one_of HT_.out zK) (by decide) (fun K hK => ?_)
     refine value_ (w1 := ?_) (v := ?_) (by rfl) rfl ?_ ?_
     rotate_left 2
     ·go_simp
      constructor
      ·rfl
      ·rfl
     refine hK.out _ _ ⟨(blk_cell (blk_alloc BKr.out _) 0).trans rfl, (cell_alloc_ hx130_0)⟩ (fun hHeld => ?_)
     clear hK K
     refine norm_ (a' := ?_) ?_ ?_
     rotate_left
     ·show Act.put _ (some 48) _ = _
      simp only [Act.put, List.setIfInBounds_toArray, List.set_cons_zero, List.set_cons_succ, i64_w, i32_w]
      rfl
     refine one_ (i := 12) (N := some 49) #[true, true, true, true, true, true, true, true, true, true, true, true, true, false, false, false] rfl rfl (one_of HT_.out zK) (by decide) (fun K hK => ?_)
     refine Kd.R_append_step k35 (w0 := w10) n0 (by rfl) (.tmp 41) (.tmp 48) 25 35 (.agg #[(.int .i64 0), (.int .i64 0), (.int .i64 0), (.int .i64 0)]) 32 rfl Try.underlying25 info35 rfl (by decide) (by omega) (.slice Au l3.length cu) l3 (⟨rd l1 0, ji, 0, 0⟩ : S35) [.int .i64 (rd l1 0), .int .i64 ji, .int .i64 0, .int .i64 0] (fun _ => True) (fun _ => False) rfl rfl ?aP (fun _ hk => hk.elim) ?aF ?aO ?aB ?aS ?aL ?_
     (case aP => exact k35_mkM _ _ _ (⟨rd l1 0, ji, 0, 0⟩ : S35))
     (case aF => exact fun _ _ => trivial)
     (case aB => first | exact Below.refl n0 w10 | exact (Below.refl n0 w10).alloc (Nat.le_trans HN.out HK.out.1) _)
     (case aO => exact (by (with_reducible repeat (first | apply Kd.R_alloc | apply Kd.R_drewN | apply Kd.R_drew)); exact HO.out))
     (case aS => first | exact Nat.le_trans HN.out HK.out.1 | exact Nat.le_trans (Nat.le_trans HN.out HK.out.1) (by rw [World.size_alloc]; omega))
     (case aL => have := LMc16.out; omega)
     intro v459 w11 ho hb hg hat
     rw [← Ny.out] at ho
     obtain ⟨Av, cv, rfl⟩ := Kd.R_slice ho
     have n0_ := Aside0.mk (blk_grown BKr.out hg (Kd.R_ne HO.out BKr.out (by decide)))
     have n1_ := Aside0.mk (blk_grown BKc.out hg (Kd.R_ne HO.out BKc.out (by decide)))
     have n2_ := Aside0.mk ho
     have n3_ := Aside0.mk (HK.out.trans (KpR.grown hg (fun k e => ⟨Kd.R_base HO.out k e, Kd.R_typed HO.out k e⟩)))
     clear BKr BKc HO HK ho hb hg hat hx130_0
     have BKr := n0_
     have BKc := n1_
     have HO := n2_
     have HK := n3_
     clear n0_ n1_ n2_ n3_
     obtain ⟨adx, ex, hx130_0⟩ := Kd.at_int (HV.out w11 (HK1.out.trans HK.out)) 0 p130 hpos
     cases ex
     (try rw [show ((0 : Int)).toNat = 0 from rfl] at hx130_0)
     (try rw [Addr.add_zero'] at hx130_0)
     refine hK.out _ _ ⟨(blk_cell BKr.out 0).trans rfl, hx130_0⟩ (fun hHeld => ?_)
     clear hK K
     refine norm_ (a' := ?_) ?_ ?_
     rotate_left
     ·show Act.put _ (some 49) _ = _
      simp only [Act.put, List.setIfInBounds_toArray, List.set_cons_zero, List.set_cons_succ, i64_w, i32_w]
      rfl
     refine pure_ (i := 13) (N := some 50) (v := ?_) (a' := ?_) #[true, true, true, true, true, true, true, true, true, true, true, true, true, true, false, false] rfl rfl (any_of HT_.out zK) (fun _ _ _ h => h) (Or.inl ⟨by rfl, ?_⟩) ?_ ?_
     rotate_left
     ·intro w'
      go_simp
      with_reducible rfl
     rotate_left
     ·simp only [Act.put, List.setIfInBounds_toArray, List.set_cons_zero, List.set_cons_succ, i64_w, i32_w]
      rfl
     refine pure_ (i := 14) (N := some 51) (v := ?_) (a' := ?_) #[true, true, true, true, true, true, true, true, true, true, true, true, true, true, true, false] rfl rfl (any_of HT_.out zK) (fun _ _ _ h => h) (Or.inl ⟨by rfl, ?_⟩) ?_ ?_
     rotate_left
     ·intro w'
      go_simp
      with_reducible rfl
     rotate_left
     ·simp only [Act.put, List.setIfInBounds_toArray, List.set_cons_zero, List.set_cons_succ, i64_w, i32_w]
      rfl
     refine last_ (i := 15) (N := none) #[true, true, true, true, true, true, true, true, true, true, true, true, true, true, true, true] rfl rfl (one_of HT_.out zK) (by decide) (fun K hK => ?_)
     have hs38 : w11.cell? ⟨g, 0, none⟩ = some (.slice Au l3.length cu) := (blk_cell BKr.out 0).trans rfl
     have hfs38 := blk_frozen BKr.out 0
     refine skip_ (w1 := ?_) (by rfl) rfl ?_ ?_
     rotate_left
     ·go_simp
      rfl
     refine hK.out _ _ ?_
     clear hK K
     clear hs38 hfs38 hHeld
     refine done_ (done_of HT_.out zK) ?_
     have n0_ := Aside0.mk (blk_put (cs := #[.slice Au l3.length cu]) BKr.out 0 (.slice Av y_.length cv) rfl)
     have n1_ := Aside0.mk (blk_far BKc.out NE.out (.slice Av y_.length cv) (p := ⟨g, 0, none⟩))
     have n2_ := Aside0.mk (Kd.R_mono (ok' := fun _ => True) (Kd.R_far (p := ⟨g, 0, none⟩) (Kd.R_types HO.out BKr.out (by decide)) (fun _ hk => hk.2) (.slice Av y_.length cv)) (fun _ _ => trivial))
     have n3_ := Aside0.mk (HK.out.trans (KpR.set _ hge.out 0 (.slice Av y_.length cv)))
     clear BKr BKc HO HK hx130_0
     generalize w11.setCell ⟨g, 0, none⟩ (.slice Av y_.length cv) = w12 at n0_ n1_ n2_ n3_ ⊢
     have BKr := n0_
     have BKc := n1_
     have HO := n2_
     have HK := n3_
     clear n0_ n1_ n2_ n3_
     go_wp2
     have n0_ := Aside0.mk (blk_drew BKr.out)
     have n1_ := Aside0.mk (blk_drew BKc.out)
     have n2_ := Aside0.mk (Kd.R_drew HO.out)
     have n3_ := Aside0.mk (HK.out.trans (KpR.below (below_drew1 (Below.refl _ _))))
     clear BKr BKc HO HK
     have BKr := n0_
     have BKc := n1_
     have HO := n2_
     have HK := n3_
     clear n0_ n1_ n2_ n3_
     obtain ⟨adx, ex, hx130_0⟩ := Kd.at_int (HV.out _ (HK1.out.trans HK.out)) 0 p130 hpos
     cases ex
     (try rw [show ((0 : Int)).toNat = 0 from rfl] at hx130_0)
     (try rw [Addr.add_zero'] at hx130_0)
     refine start_ (n := 11) (S := fun w' => w'.cell? ⟨gb, 0, none⟩ = some (.int .i64 a2_0) ∧ w'.cell? ⟨gb, 1, none⟩ = some (.int .i64 a2_1) ∧ w'.cell? ad130 = some (.int .i64 (rd l1 0))) (ds := []) #[false, false, false, false, false, false, false, false, false, false, false] zK rfl rfl ⟨(blk_cell BKc.out 0).trans rfl, (blk_cell BKc.out 1).trans rfl, hx130_0⟩ (fun hHeld => ?_); refine with_tabW solve_split.tab11 solve_split.bits11 (fun HT_ HW_ => ?_)
     generalize w12.drew = w13 at BKr BKc HO HK hx130_0 hHeld ⊢
     refine pure_ (i := 0) (N := some 52) (v := ?_) (a' := ?_) #[true, false, false, false, false, false, false, false, false, false, false] rfl rfl (any_of HT_.out zK) (fun _ _ _ h => h) (Or.inl ⟨by rfl, ?_⟩) ?_ ?_
     rotate_left
     ·intro w'
      go_simp
      with_reducible rfl
     rotate_left
     ·simp only [Act.put, List.setIfInBounds_toArray, List.set_cons_zero, List.set_cons_succ, i64_w, i32_w]
      rfl
     refine pure_ (i := 1) (N := some 53) (v := ?_) (a' := ?_) #[true, true, false, false, false, false, false, false, false, false, false] rfl rfl (any_of HT_.out zK) (fun _ _ _ h => h) (Or.inl ⟨by rfl, ?_⟩) ?_ ?_
     rotate_left
     ·intro w'
      go_simp
      with_reducible rfl
     rotate_left
     ·simp only [Act.put, List.setIfInBounds_toArray, List.set_cons_zero, List.set_cons_succ, i64_w, i32_w]
      rfl
     refine pure_ (i := 2) (N := some 54) (v := ?_) (a' := ?_) #[true, true, true, false, false, false, false, false, false, false, false] rfl rfl (any_of HT_.out zK) (fun _ _ _ h => h) (Or.inl ⟨by rfl, ?_⟩) ?_ ?_
     rotate_left
     ·intro w'
      go_simp
      with_reducible rfl
     rotate_left
     ·simp only [Act.put, List.setIfInBounds_toArray, List.set_cons_zero, List.set_cons_succ, i64_w, i32_w]
      rfl
     refine pure_ (i := 4) (N := some 56) (v := ?_) (a' := ?_) #[true, true, true, false, true, false, false, false, false, false, false] rfl rfl (any_of HT_.out zK) (fun _ _ _ h => h) (Or.inl ⟨by rfl, ?_⟩) ?_ ?_
     rotate_left
     ·intro w'
      go_simp
      with_reducible rfl
     rotate_left
     ·simp only [Act.put, List.setIfInBounds_toArray, List.set_cons_zero, List.set_cons_succ, i64_w, i32_w]
      rfl
     refine pure_ (i := 5) (N := some 57) (v := ?_) (a' := ?_) #[true, true, true, false, true, true, false, false, false, false, false] rfl rfl (any_of HT_.out zK) (fun _ _ _ h => h) (Or.inl ⟨by rfl, ?_⟩) ?_ ?_
     rotate_left
     ·intro w'
      go_simp
      with_reducible rfl
     rotate_left
     ·simp only [Act.put, List.setIfInBounds_toArray, List.set_cons_zero, List.set_cons_succ, i64_w, i32_w]
      rfl
     refine pure_ (i := 8) (N := some 60) (v := ?_) (a' := ?_) #[true, true, true, false, true, true, false, false, true, false, false] rfl rfl (any_of HT_.out zK) (fun _ _ _ h => h) (Or.inl ⟨by rfl, ?_⟩) ?_ ?_
     rotate_left
     ·intro w'
      go_simp
      with_reducible rfl
     rotate_left
     ·simp only [Act.put, List.setIfInBounds_toArray, List.set_cons_zero, List.set_cons_succ, i64_w, i32_w]
      rfl
     refine take_ (i := 3) (N := some 55) (v := ?_) (a' := ?_) #[true, true, true, true, true, true, false, false, true, false, false] rfl rfl (take_ofW HT_.out HW_.out zK) (fun _ _ _ h => h) (Or.inl ⟨by rfl, ?_⟩) hHeld ?_ ?_
     rotate_left
     ·rintro w' ⟨s0, s1, s2⟩
      go_simp
      with_reducible rfl
     rotate_left
     ·simp only [Act.put, List.setIfInBounds_toArray, List.set_cons_zero, List.set_cons_succ, i64_w, i32_w]
      rfl
     refine take_ (i := 6) (N := some 58) (v := ?_) (a' := ?_) #[true, true, true, true, true, true, true, false, true, false, false] rfl rfl (take_ofW HT_.out HW_.out zK) (fun _ _ _ h => h) (Or.inl ⟨by rfl, ?_⟩) hHeld ?_ ?_
     rotate_left
     ·rintro w' ⟨s0, s1, s2⟩
      go_simp
      with_reducible rfl
     rotate_left
     ·simp only [Act.put, List.setIfInBounds_toArray, List.set_cons_zero, List.set_cons_succ, i64_w, i32_w]
      rfl
     refine one_ (i := 7) (N := some 59) #[true, true, true, true, true, true, true, true, true, false, false] rfl rfl (one_of HT_.out zK) (by decide) (fun K hK => ?_)
     refine goes_ Try.func88 zK rfl #[.agg #[.int .i64 a2_0, .int .i64 a2_1], .int .i64 (rd l1 0), .int .i64 0] (by rfl) rfl rfl zM ?_
     with_reducible refine (solve_choices_with.calls a2_0 a2_1 (rd l1 0) 0 t132 t133 _ A18.out).mono ?_
     rintro e w14 ⟨rfl, hb⟩
     refine ⟨_, rfl, ?_⟩
     have n0_ := Aside0.mk (blk_below BKr.out hb)
     have n1_ := Aside0.mk (blk_below BKc.out hb)
     have n2_ := Aside0.mk (Kd.R_below HO.out hb)
     have n3_ := Aside0.mk (HK.out.trans (KpR.below (n0 := n0) (g := g) hb))
     clear BKr BKc HO HK hb hx130_0
     have BKr := n0_
     have BKc := n1_
     have HO := n2_
     have HK := n3_
     clear n0_ n1_ n2_ n3_
     obtain ⟨adx, ex, hx130_0⟩ := Kd.at_int (HV.out _ (HK1.out.trans HK.out)) 0 p130 hpos
     cases ex
     (try rw [show ((0 : Int)).toNat = 0 from rfl] at hx130_0)
     (try rw [Addr.add_zero'] at hx130_0)
     refine hK.out _ _ ⟨(blk_cell BKc.out 0).trans rfl, (blk_cell BKc.out 1).trans rfl, hx130_0⟩ (fun hHeld => ?_)
     clear hK K
     refine norm_ (a' := ?_) ?_ ?_
     rotate_left
     ·show Act.put _ (some 59) _ = _
      simp only [Act.put, List.setIfInBounds_toArray, List.set_cons_zero, List.set_cons_succ, i64_w, i32_w]
      rfl
     refine one_ (i := 9) (N := some 61) #[true, true, true, true, true, true, true, true, true, true, false] rfl rfl (one_of HT_.out zK) (by decide) (fun K hK => ?_)
     refine goes_ Try.func49 zK rfl #[.slice A0 l0.length c0, .slice A23 lt_.length (c1 - 1), .agg #[.int .i64 t132, .int .i64 t133], .pointer (some ⟨g, 0, none⟩)] (by rfl) rfl rfl zM ?_
     with_reducible refine (IH.out k (by omega) A23 (c1 - 1) lt_ t132 t133 y_ (.slice Av y_.length cv) q_ qb _ ?side1 ?side2 ?side3 ?side4 ?side5 ?side6 A19.out).mono ?_
     (case side1 => exact HK1.out.trans HK.out)
     (case side2 => exact Nat.le_trans HN.out HK.out.1)
     (case side3 => exact HV131.out)
     (case side4 => exact HC131.out)
     (case side5 => exact BKr.out)
     (case side6 => exact HO.out)
     rintro e w15 ⟨rfl, u_, hbr, hor, hkk⟩
     refine ⟨_, rfl, ?_⟩
     obtain ⟨Aq, cq, rfl⟩ := Kd.R_slice hor
     have n0_ := Aside0.mk hbr
     have n1_ := Aside0.mk (KpR.blk hkk BKc.out NE.out (by decide))
     have n2_ := Aside0.mk hor
     have n3_ := Aside0.mk (HK.out.trans hkk)
     clear BKr BKc HO HK hbr hor hkk hx130_0
     have BKr := n0_
     have BKc := n1_
     have HO := n2_
     have HK := n3_
     clear n0_ n1_ n2_ n3_
     obtain ⟨adx, ex, hx130_0⟩ := Kd.at_int (HV.out _ (HK1.out.trans HK.out)) 0 p130 hpos
     cases ex
     (try rw [show ((0 : Int)).toNat = 0 from rfl] at hx130_0)
     (try rw [Addr.add_zero'] at hx130_0)
     refine hK.out _ _ ⟨(blk_cell BKc.out 0).trans rfl, (blk_cell BKc.out 1).trans rfl, hx130_0⟩ (fun hHeld => ?_)
     clear hK K
     refine norm_ (a' := ?_) ?_ ?_
     rotate_left
     ·show Act.put _ (some 61) _ = _
      simp only [Act.put, List.setIfInBounds_toArray, List.set_cons_zero, List.set_cons_succ, i64_w, i32_w]
      rfl
     refine pure_ (i := 10) (N := some 62) (v := ?_) (a' := ?_) #[true, true, true, true, true, true, true, true, true, true, true] rfl rfl (any_of HT_.out zK) (fun _ _ _ h => h) (Or.inl ⟨by rfl, ?_⟩) ?_ ?_
     rotate_left
     ·intro w'
      go_simp
      with_reducible rfl
     rotate_left
     ·simp only [Act.put, List.setIfInBounds_toArray, List.set_cons_zero, List.set_cons_succ, i64_w, i32_w]
      rfl
     refine done_ (done_of HT_.out zK) ?_
     have H := HC12.out
     clear HC12
     cases qb with
     | false =>
      simp only [Bool.false_eq_true, if_false, Option.some.injEq, Prod.mk.injEq] at H
      obtain ⟨rfl, rfl⟩ := H
      go_wp2
      go_ret
      exact ⟨rfl, _, BKr.out, HO.out, HK.out⟩
     | true =>
      simp only [if_true] at H
      by_cases c30 : (l3.length : Int) < (q_.length : Int)
      rotate_left
      ·rw [if_neg c30] at H; exact absurd H (by simp)
      rw [if_pos c30] at H
      replace H := Option.bind_eq_some_iff.mp H
      obtain ⟨⟨t135, t136⟩, A210, H⟩ := H
      have A21 := Aside0.mk A210
      clear A210
      obtain ⟨z_, hz_⟩ : ∃ y : List (S35), y = q_.set l3.length (⟨(rd_T35 q_ (l3.length : Int)).f0, (rd_T35 q_ (l3.length : Int)).f1, (q_.length : Int), (rd_T35 q_ (l3.length : Int)).f3⟩ : S35) := ⟨_, rfl⟩
      simp only [← hz_] at H
      have A22 := Aside0.mk H
      have Nz := Aside0.mk hz_
      clear H hz_
      have p25 : 0 ≤ (l3.length : Int) := by omega
      have c30b0 : decide ((l3.length : Int) < (q_.length : Int)) = true := decide_eq_true c30
      go_wp2
      have n0_ := Aside0.mk (blk_drew BKr.out)
      have n1_ := Aside0.mk (blk_drew BKc.out)
      have n2_ := Aside0.mk (Kd.R_drew HO.out)
      have n3_ := Aside0.mk (HK.out.trans (KpR.below (below_drew1 (Below.refl _ _))))
      clear BKr BKc HO HK
      have BKr := n0_
      have BKc := n1_
      have HO := n2_
      have HK := n3_
      clear n0_ n1_ n2_ n3_
      obtain ⟨go25, co25, eo25, gb25, gl25, cl25, HG25⟩ := Kd.R_form HO.out (by omega)
      (first | cases eo25 | (injection eo25 with ea_ en_ ec_; (first | subst ea_ | (injection ea_ with ea_; subst ea_)); subst ec_; clear en_))
      clear gb25 gl25 HG25
      obtain ⟨ce36, hcl36, hM36, hcc36, hfr36⟩ := Kd.R_elem HO.out z35 (l3.length : Int) p25 c30
      obtain rfl := k35_openM hM36
      have HP36 := Kd.R_seg HO.out (l3.length : Int) p25 c30 (seg := [.int .i64 (q_.length : Int)]) (j := 2) hcl36 hcc36 (show 3 ≤ 4 from by decide) (x' := (⟨(rd_T35 q_ (l3.length : Int)).f0, (rd_T35 q_ (l3.length : Int)).f1, (q_.length : Int), (rd_T35 q_ (l3.length : Int)).f3⟩ : S35)) (k35_mkM _ _ _ (⟨(rd_T35 q_ (l3.length : Int)).f0, (rd_T35 q_ (l3.length : Int)).f1, (q_.length : Int), (rd_T35 q_ (l3.length : Int)).f3⟩ : S35)) (fun _ hk => hk)
      have hx36_2 := hcc36 2 _ rfl
      (try simp only [show (k35).sz = 4 from rfl, Nat.mul_one, Nat.add_zero, Int.toNat_natCast] at hx36_2)
      have hf36_2 := hfr36 2
      (try simp only [show (k35).sz = 4 from rfl, Nat.mul_one, Nat.add_zero, Int.toNat_natCast] at hf36_2)
      clear hcl36 hcc36 hfr36 hM36
      simp only [show (k35).sz = 4 from rfl, Int.toNat_natCast] at HP36
      have HPP := Aside0.mk HP36
      clear HP36
      have p25b := eq_true p25
      have q25b := eq_true c30
      have q25n : (l3.length < q_.length) = True := eq_true (by omega)
      refine start_ (n := 13) (S := fun w' => w'.cell? ⟨g, 0, none⟩ = some (.slice (some ⟨go25, 0, none⟩) q_.length cq)) (ds := [12]) #[false, false, false, false, false, false, false, false, false, false, false, false, false] zK rfl rfl ((blk_cell BKr.out 0).trans rfl) (fun hHeld => ?_); refine with_tabW solve_split.tab13 solve_split.bits13 (fun HT_ HW_ => ?_)
      generalize w15.drew = w16 at BKr BKc HO HK HPP hx36_2 hf36_2 hHeld ⊢
      refine pure_ (i := 0) (N := some 63) (v := ?_) (a' := ?_) #[true, false, false, false, false, false, false, false, false, false, false, false, false] rfl rfl (any_of HT_.out zK) (fun _ _ _ h => h) (Or.inl ⟨by rfl, ?_⟩) ?_ ?_
      rotate_left
      ·intro w'
       go_simp
       with_reducible rfl
      rotate_left
      ·simp only [Act.put, List.setIfInBounds_toArray, List.set_cons_zero, List.set_cons_succ, i64_w, i32_w]
       rfl
      refine pure_ (i := 1) (N := some 64) (v := ?_) (a' := ?_) #[true, true, false, false, false, false, false, false, false, false, false, false, false] rfl rfl (any_of HT_.out zK) (fun _ _ _ h => h) (Or.inl ⟨by rfl, ?_⟩) ?_ ?_
      rotate_left
      ·intro w'
       go_simp
       with_reducible rfl
      rotate_left
      ·simp only [Act.put, List.setIfInBounds_toArray, List.set_cons_zero, List.set_cons_succ, i64_w, i32_w]
       rfl
      refine pure_ (i := 2) (N := some 65) (v := ?_) (a' := ?_) #[true, true, true, false, false, false, false, false, false, false, false, false, false] rfl rfl (any_of HT_.out zK) (fun _ _ _ h => h) (Or.inl ⟨by rfl, ?_⟩) ?_ ?_
      rotate_left
      ·intro w'
       go_simp
       with_reducible rfl
      rotate_left
      ·simp only [Act.put, List.setIfInBounds_toArray, List.set_cons_zero, List.set_cons_succ, i64_w, i32_w]
       rfl
      refine pure_ (i := 4) (N := some 67) (v := ?_) (a' := ?_) #[true, true, true, false, true, false, false, false, false, false, false, false, false] rfl rfl (any_of HT_.out zK) (fun _ _ _ h => h) (Or.inl ⟨by rfl, ?_⟩) ?_ ?_
      rotate_left
      ·intro w'
       go_simp
       with_reducible rfl
      rotate_left
      ·simp only [Act.put, List.setIfInBounds_toArray, List.set_cons_zero, List.set_cons_succ, i64_w, i32_w]
       rfl
      refine pure_ (i := 5) (N := some 68) (v := ?_) (a' := ?_) #[true, true, true, false, true, true, false, false, false, false, false, false, false] rfl rfl (any_of HT_.out zK) (fun _ _ _ h => h) (Or.inl ⟨by rfl, ?_⟩) ?_ ?_
      rotate_left
      ·intro w'
       go_simp
       with_reducible rfl
      rotate_left
      ·simp only [Act.put, List.setIfInBounds_toArray, List.set_cons_zero, List.set_cons_succ, i64_w, i32_w]
       rfl
      refine pure_ (i := 6) (N := some 69) (v := ?_) (a' := ?_) #[true, true, true, false, true, true, true, false, false, false, false, false, false] rfl rfl (any_of HT_.out zK) (fun _ _ _ h => h) (Or.inl ⟨by rfl, ?_⟩) ?_ ?_
      rotate_left
      ·intro w'
       go_simp
       with_reducible rfl
      rotate_left
      ·simp only [Act.put, List.setIfInBounds_toArray, List.set_cons_zero, List.set_cons_succ, i64_w, i32_w]
       rfl
      refine pure_ (i := 7) (N := some 70) (v := ?_) (a' := ?_) #[true, true, true, false, true, true, true, true, false, false, false, false, false] rfl rfl (any_of HT_.out zK) (fun _ _ _ h => h) (Or.inl ⟨by rfl, ?_⟩) ?_ ?_
      rotate_left
      ·intro w'
       go_simp
       with_reducible rfl
      rotate_left
      ·simp only [Act.put, List.setIfInBounds_toArray, List.set_cons_zero, List.set_cons_succ, i64_w, i32_w]
       rfl
      refine take_ (i := 3) (N := some 66) (v := ?_) (a' := ?_) #[true, true, true, true, true, true, true, true, false, false, false, false, false] rfl rfl (take_ofW HT_.out HW_.out zK) (fun _ _ _ h => h) (Or.inl ⟨by rfl, ?_⟩) hHeld ?_ ?_
      rotate_left
      ·rintro w' s0
       go_simp
       with_reducible rfl
      rotate_left
      ·simp only [Act.put, List.setIfInBounds_toArray, List.set_cons_zero, List.set_cons_succ, i64_w, i32_w]
       rfl
      refine take_ (i := 8) (N := some 71) (v := ?_) (a' := ?_) #[true, true, true, true, true, true, true, true, true, false, false, false, false] rfl rfl (take_ofW HT_.out HW_.out zK) (fun _ _ _ h => h) (Or.inl ⟨by rfl, ?_⟩) hHeld ?_ ?_
      rotate_left
      ·rintro w' s0
       go_simp
       with_reducible rfl
      rotate_left
      ·simp only [Act.put, List.setIfInBounds_toArray, List.set_cons_zero, List.set_cons_succ, i64_w, i32_w]
       rfl
      refine pure_ (i := 9) (N := some 72) (v := ?_) (a' := ?_) #[true, true, true, true, true, true, true, true, true, true, false, false, false] rfl rfl (any_of HT_.out zK) (fun _ _ _ h => h) (Or.inl ⟨by rfl, ?_⟩) ?_ ?_
      rotate_left
      ·intro w'
       go_simp
       with_reducible rfl
      rotate_left
      ·simp only [Act.put, List.setIfInBounds_toArray, List.set_cons_zero, List.set_cons_succ, i64_w, i32_w]
       rfl
      refine pure_ (i := 10) (N := some 73) (v := ?_) (a' := ?_) #[true, true, true, true, true, true, true, true, true, true, true, false, false] rfl rfl (any_of HT_.out zK) (fun _ _ _ h => h) (Or.inl ⟨by rfl, ?_⟩) ?_ ?_
      rotate_left
      ·intro w'
       go_simp
       with_reducible rfl
      rotate_left
      ·simp only [Act.put, List.setIfInBounds_toArray, List.set_cons_zero, List.set_cons_succ, i64_w, i32_w]
       rfl
      refine pure_ (i := 11) (N := some 74) (v := ?_) (a' := ?_) #[true, true, true, true, true, true, true, true, true, true, true, true, false] rfl rfl (any_of HT_.out zK) (fun _ _ _ h => h) (Or.inl ⟨by rfl, ?_⟩) ?_ ?_
      rotate_left
      ·intro w'
       go_simp
       with_reducible rfl
      rotate_left
      ·simp only [Act.put, List.setIfInBounds_toArray, List.set_cons_zero, List.set_cons_succ, i64_w, i32_w]
       rfl
      refine last_ (i := 12) (N := none) #[true, true, true, true, true, true, true, true, true, true, true, true, true] rfl rfl (one_of HT_.out zK) (by decide) (fun K hK => ?_)
      refine skip_ (w1 := ?_) (by rfl) rfl ?_ ?_
      rotate_left
      ·go_simp
       rfl
      refine hK.out _ _ ?_
      clear hK K
      clear hHeld
      refine done_ (done_of HT_.out zK) ?_
      have hgw : w16.grownBy (w16.setCell ⟨go25, l3.length * 4 + 2, none⟩ (.int .i64 (q_.length : Int))) (some go25) := HPP.out.2
      have hzl : z_.length = q_.length := by rw [Nz.out, List.length_set]
      have n0_ := Aside0.mk (blk_grown BKr.out hgw (Kd.R_ne HO.out BKr.out (by decide)))
      have n1_ := Aside0.mk (blk_grown BKc.out hgw (Kd.R_ne HO.out BKc.out (by decide)))
      have n2_ : Aside0 (Kd.R k35 35 (w16.setCell ⟨go25, l3.length * 4 + 2, none⟩ (.int .i64 (q_.length : Int))) n0 (fun _ => True) (.slice (some ⟨go25, 0, none⟩) q_.length cq) z_) := ⟨by rw [Nz.out]; exact HPP.out.1⟩
      have n3_ := Aside0.mk (HK.out.trans (KpR.grown hgw (fun k e => by cases e; exact ⟨Kd.R_base HO.out go25 rfl, Kd.R_typed HO.out go25 rfl⟩)))
      clear BKr BKc HO HK HPP hgw hx36_2 hf36_2
      generalize w16.setCell ⟨go25, l3.length * 4 + 2, none⟩ (.int .i64 (q_.length : Int)) = w17 at n0_ n1_ n2_ n3_ ⊢
      rw [← hzl] at n0_ n2_
      have BKr := n0_
      have BKc := n1_
      have HO := n2_
      have HK := n3_
      clear n0_ n1_ n2_ n3_
      go_wp2
      have n0_ := Aside0.mk (blk_drew BKr.out)
      have n1_ := Aside0.mk (blk_drew BKc.out)
      have n2_ := Aside0.mk (Kd.R_drew HO.out)
      have n3_ := Aside0.mk (HK.out.trans (KpR.below (below_drew1 (Below.refl _ _))))
      clear BKr BKc HO HK
      have BKr := n0_
      have BKc := n1_
      have HO := n2_
      have HK := n3_
      clear n0_ n1_ n2_ n3_
      obtain ⟨adx, ex, hx130_0⟩ := Kd.at_int (HV.out _ (HK1.out.trans HK.out)) 0 p130 hpos
      cases ex
      (try rw [show ((0 : Int)).toNat = 0 from rfl] at hx130_0)
      (try rw [Addr.add_zero'] at hx130_0)
      refine start_ (n := 11) (S := fun w' => w'.cell? ⟨gb, 0, none⟩ = some (.int .i64 a2_0) ∧ w'.cell? ⟨gb, 1, none⟩ = some (.int .i64 a2_1) ∧ w'.cell? ad130 = some (.int .i64 (rd l1 0))) (ds := []) #[false, false, false, false, false, false, false, false, false, false, false] zK rfl rfl ⟨(blk_cell BKc.out 0).trans rfl, (blk_cell BKc.out 1).trans rfl, hx130_0⟩ (fun hHeld => ?_); refine with_tabW solve_split.tab14 solve_split.bits14 (fun HT_ HW_ => ?_)
      generalize w17.drew = w18 at BKr BKc HO HK hx130_0 hHeld ⊢
      refine pure_ (i := 0) (N := some 75) (v := ?_) (a' := ?_) #[true, false, false, false, false, false, false, false, false, false, false] rfl rfl (any_of HT_.out zK) (fun _ _ _ h => h) (Or.inl ⟨by rfl, ?_⟩) ?_ ?_
      rotate_left
      ·intro w'
       go_simp
       with_reducible rfl
      rotate_left
      ·simp only [Act.put, List.setIfInBounds_toArray, List.set_cons_zero, List.set_cons_succ, i64_w, i32_w]
       rfl
      refine pure_ (i := 1) (N := some 76) (v := ?_) (a' := ?_) #[true, true, false, false, false, false, false, false, false, false, false] rfl rfl (any_of HT_.out zK) (fun _ _ _ h => h) (Or.inl ⟨by rfl, ?_⟩) ?_ ?_
      rotate_left
      ·intro w'
       go_simp
       with_reducible rfl
      rotate_left
      ·simp only [Act.put, List.setIfInBounds_toArray, List.set_cons_zero, List.set_cons_succ, i64_w, i32_w]
       rfl
      refine pure_ (i := 2) (N := some 77) (v := ?_) (a' := ?_) #[true, true, true, false, false, false, false, false, false, false, false] rfl rfl (any_of HT_.out zK) (fun _ _ _ h => h) (Or.inl ⟨by rfl, ?_⟩) ?_ ?_
      rotate_left
      ·intro w'
       go_simp
       with_reducible rfl
      rotate_left
      ·simp only [Act.put, List.setIfInBounds_toArray, List.set_cons_zero, List.set_cons_succ, i64_w, i32_w]
       rfl
      refine pure_ (i := 4) (N := some 79) (v := ?_) (a' := ?_) #[true, true, true, false, true, false, false, false, false, false, false] rfl rfl (any_of HT_.out zK) (fun _ _ _ h => h) (Or.inl ⟨by rfl, ?_⟩) ?_ ?_
      rotate_left
      ·intro w'
       go_simp
       with_reducible rfl
      rotate_left
      ·simp only [Act.put, List.setIfInBounds_toArray, List.set_cons_zero, List.set_cons_succ, i64_w, i32_w]
       rfl
      refine pure_ (i := 5) (N := some 80) (v := ?_) (a' := ?_) #[true, true, true, false, true, true, false, false, false, false, false] rfl rfl (any_of HT_.out zK) (fun _ _ _ h => h) (Or.inl ⟨by rfl, ?_⟩) ?_ ?_
      rotate_left
      ·intro w'
       go_simp
       with_reducible rfl
      rotate_left
      ·simp only [Act.put, List.setIfInBounds_toArray, List.set_cons_zero, List.set_cons_succ, i64_w, i32_w]
       rfl
      refine pure_ (i := 8) (N := some 83) (v := ?_) (a' := ?_) #[true, true, true, false, true, true, false, false, true, false, false] rfl rfl (any_of HT_.out zK) (fun _ _ _ h => h) (Or.inl ⟨by rfl, ?_⟩) ?_ ?_
      rotate_left
      ·intro w'
       go_simp
       with_reducible rfl
      rotate_left
      ·simp only [Act.put, List.setIfInBounds_toArray, List.set_cons_zero, List.set_cons_succ, i64_w, i32_w]
       rfl
      refine take_ (i := 3) (N := some 78) (v := ?_) (a' := ?_) #[true, true, true, true, true, true, false, false, true, false, false] rfl rfl (take_ofW HT_.out HW_.out zK) (fun _ _ _ h => h) (Or.inl ⟨by rfl, ?_⟩) hHeld ?_ ?_
      rotate_left
      ·rintro w' ⟨s0, s1, s2⟩
       go_simp
       with_reducible rfl
      rotate_left
      ·simp only [Act.put, List.setIfInBounds_toArray, List.set_cons_zero, List.set_cons_succ, i64_w, i32_w]
       rfl
      refine take_ (i := 6) (N := some 81) (v := ?_) (a' := ?_) #[true, true, true, true, true, true, true, false, true, false, false] rfl rfl (take_ofW HT_.out HW_.out zK) (fun _ _ _ h => h) (Or.inl ⟨by rfl, ?_⟩) hHeld ?_ ?_
      rotate_left
      ·rintro w' ⟨s0, s1, s2⟩
       go_simp
       with_reducible rfl
      rotate_left
      ·simp only [Act.put, List.setIfInBounds_toArray, List.set_cons_zero, List.set_cons_succ, i64_w, i32_w]
       rfl
      refine one_ (i := 7) (N := some 82) #[true, true, true, true, true, true, true, true, true, false, false] rfl rfl (one_of HT_.out zK) (by decide) (fun K hK => ?_)
      refine goes_ Try.func88 zK rfl #[.agg #[.int .i64 a2_0, .int .i64 a2_1], .int .i64 (rd l1 0), .int .i64 1] (by rfl) rfl rfl zM ?_
      with_reducible refine (solve_choices_with.calls a2_0 a2_1 (rd l1 0) 1 t135 t136 _ A21.out).mono ?_
      rintro e w19 ⟨rfl, hb⟩
      refine ⟨_, rfl, ?_⟩
      have n0_ := Aside0.mk (blk_below BKr.out hb)
      have n1_ := Aside0.mk (blk_below BKc.out hb)
      have n2_ := Aside0.mk (Kd.R_below HO.out hb)
      have n3_ := Aside0.mk (HK.out.trans (KpR.below (n0 := n0) (g := g) hb))
      clear BKr BKc HO HK hb hx130_0
      have BKr := n0_
      have BKc := n1_
      have HO := n2_
      have HK := n3_
      clear n0_ n1_ n2_ n3_
      obtain ⟨adx, ex, hx130_0⟩ := Kd.at_int (HV.out _ (HK1.out.trans HK.out)) 0 p130 hpos
      cases ex
      (try rw [show ((0 : Int)).toNat = 0 from rfl] at hx130_0)
      (try rw [Addr.add_zero'] at hx130_0)
      refine hK.out _ _ ⟨(blk_cell BKc.out 0).trans rfl, (blk_cell BKc.out 1).trans rfl, hx130_0⟩ (fun hHeld => ?_)
      clear hK K
      refine norm_ (a' := ?_) ?_ ?_
      rotate_left
      ·show Act.put _ (some 82) _ = _
       simp only [Act.put, List.setIfInBounds_toArray, List.set_cons_zero, List.set_cons_succ, i64_w, i32_w]
       rfl
      refine one_ (i := 9) (N := some 84) #[true, true, true, true, true, true, true, true, true, true, false] rfl rfl (one_of HT_.out zK) (by decide) (fun K hK => ?_)
      refine goes_ Try.func49 zK rfl #[.slice A0 l0.length c0, .slice A23 lt_.length (c1 - 1), .agg #[.int .i64 t135, .int .i64 t136], .pointer (some ⟨g, 0, none⟩)] (by rfl) rfl rfl zM ?_
      with_reducible refine (IH.out k (by omega) A23 (c1 - 1) lt_ t135 t136 z_ (.slice (some ⟨go25, 0, none⟩) z_.length cq) r b _ ?side1 ?side2 ?side3 ?side4 ?side5 ?side6 A22.out).mono ?_
      (case side1 => exact HK1.out.trans HK.out)
      (case side2 => exact Nat.le_trans HN.out HK.out.1)
      (case side3 => exact HV131.out)
      (case side4 => exact HC131.out)
      (case side5 => exact BKr.out)
      (case side6 => exact HO.out)
      rintro e w20 ⟨rfl, u_, hbr, hor, hkk⟩
      refine ⟨_, rfl, ?_⟩
      obtain ⟨Aq, cq, rfl⟩ := Kd.R_slice hor
      have n0_ := Aside0.mk hbr
      have n1_ := Aside0.mk (KpR.blk hkk BKc.out NE.out (by decide))
      have n2_ := Aside0.mk hor
      have n3_ := Aside0.mk (HK.out.trans hkk)
      clear BKr BKc HO HK hbr hor hkk hx130_0
      have BKr := n0_
      have BKc := n1_
      have HO := n2_
      have HK := n3_
      clear n0_ n1_ n2_ n3_
      obtain ⟨adx, ex, hx130_0⟩ := Kd.at_int (HV.out _ (HK1.out.trans HK.out)) 0 p130 hpos
      cases ex
      (try rw [show ((0 : Int)).toNat = 0 from rfl] at hx130_0)
      (try rw [Addr.add_zero'] at hx130_0)
      refine hK.out _ _ ⟨(blk_cell BKc.out 0).trans rfl, (blk_cell BKc.out 1).trans rfl, hx130_0⟩ (fun hHeld => ?_)
      clear hK K
      refine norm_ (a' := ?_) ?_ ?_
      rotate_left
      ·show Act.put _ (some 84) _ = _
       simp only [Act.put, List.setIfInBounds_toArray, List.set_cons_zero, List.set_cons_succ, i64_w, i32_w]
       rfl
      refine pure_ (i := 10) (N := some 8) (v := ?_) (a' := ?_) #[true, true, true, true, true, true, true, true, true, true, true] rfl rfl (any_of HT_.out zK) (fun _ _ _ h => h) (Or.inl ⟨by rfl, ?_⟩) ?_ ?_
      rotate_left
      ·intro w'
       go_simp
       with_reducible rfl
      rotate_left
      ·simp only [Act.put, List.setIfInBounds_toArray, List.set_cons_zero, List.set_cons_succ, i64_w, i32_w]
       rfl
      refine done_ (done_of HT_.out zK) ?_
      go_wp2
      go_ret
      exact ⟨rfl, _, BKr.out, HO.out, HK.out⟩
    ·rw [if_neg c16] at H
     exact absurd H (by simp)
/-! ### solve_Refute: function 14 -/
/-- What Refute says, no solution being there. -/
def solve_Refute.of (q : List (S35) × Bool) : List (S35) × Int := if q.2 = true then (q.1, 0) else ([], 3)
def solve_Refute.f (k : Nat) (l0 : List (S61)) : Option ((List (S35)) × Int) := (solve_valid.f k l0).bind fun t268 => (if t268 = 0 then ((solve_occurring.f k l0).bind fun t269 => ((solve_search.f k l0 t269 0 0).bind fun s => (if (s.length : Int) = 0 then ((solve_split.f k l0 t269 0 0 []).bind fun q => some (solve_Refute.of q)) else (some (([] : List (S35)), 11))))) else (some (([] : List (S35)), t268)))
theorem solve_Refute.mono : ∀ a0 k, LeO (solve_Refute.f k a0) (solve_Refute.f (k + 1) a0) := by
 intro a0 k
 unfold solve_Refute.f
 repeat' first
   | (with_reducible exact solve_occurring.mono _ _)
   | (with_reducible exact solve_valid.mono _ _)
   | (with_reducible exact LeO.refl _)
   | (with_reducible exact LeO.none _)
   | (with_reducible refine LeO.ite ?_ ?_)
   | (with_reducible refine LeO.bind ?_ (fun _ => ?_))
   | exact solve_occurring.mono _ _
   | exact solve_valid.mono _ _
   | exact solve_search.mono _ _ _ _ _
   | exact solve_split.mono _ _ _ _ _ _
   | exact LeO.none _
   | refine LeO.ite ?_ ?_
   | refine LeO.bind ?_ (fun _ => ?_)
section
attribute [local go_sem] Oper.semAt_some
set_option maxHeartbeats 8000000 in
set_option maxRecDepth 100000 in
theorem solve_Refute.calls (k : Nat) (A0 : Option Addr) (c0 : Nat) (l0 : List (S61)) (r1 : List (S35)) (r2 : Int) (w : World) (hr0 : Kd.C k61 w A0 l0.length l0) (hc0 : l0.length ≤ c0) (h : solve_Refute.f k l0 = some (r1, r2)) :
  Calls Try.prog 14 #[.slice A0 l0.length c0] w fun e w' => ∃ v0_ : Value, e = .returned (.tuple #[.agg #[v0_], .int .i64 r2]) ∧ Kd.R k35 35 w' w.heap.size (fun _ => True) v0_ r1 ∧ Below w.heap.size w w' := by
 have hu27 := Try.underlying27
 have hu28 := Try.underlying28
 have hu68 := Try.underlying68
 have HR0 := Aside0.mk hr0
 have HC0 := Aside0.mk hc0
 clear hr0 hc0
 have HB := Aside0.mk (Below.refl w.heap.size w)
 have H : ((solve_valid.f k l0).bind fun t268 => (if t268 = 0 then ((solve_occurring.f k l0).bind fun t269 => ((solve_search.f k l0 t269 0 0).bind fun s => (if (s.length : Int) = 0 then ((solve_split.f k l0 t269 0 0 []).bind fun q => some (solve_Refute.of q)) else (some (([] : List (S35)), 11))))) else (some (([] : List (S35)), t268)))) = some (r1, r2) := h
 clear h
 replace H := Option.bind_eq_some_iff.mp H
 obtain ⟨t268, A20, H⟩ := H
 replace H : (if t268 = 0 then ((solve_occurring.f k l0).bind fun t269 => ((solve_search.f k l0 t269 0 0).bind fun s => (if (s.length : Int) = 0 then ((solve_split.f k l0 t269 0 0 []).bind fun q => some (solve_Refute.of q)) else (some (([] : List (S35)), 11))))) else (some (([] : List (S35)), t268))) = some (r1, r2) := H
 have A2 := Aside0.mk A20
 clear A20
 have HC3 := Aside0.mk H
 clear H
 refine (callsIn_wide (n := 5)).1 ?_
 refine callsIn_of_wp_marks Try.func14 rfl trivial ?_ rfl
 simp only [Try.ntmps14, List.size_toArray, List.length_cons, List.length_nil, Nat.reduceAdd, Nat.reduceSub, Array.replicate_succ, Array.replicate_zero, List.push_toArray, List.append_toArray, List.nil_append, List.cons_append]
 refine wpIn_wide.2 ?_
 go_upto_if 10 with (first | ((with_reducible refine gate_dst (N := 2) rfl ?_); refine box_event ?hg (N := 2) ?hd (cs := #[.slice none 0 0]) (t := 27) ?hr ?_; (case hd => rfl); (case hg => rfl); (case hr => first | (go_simp; done) | (go_simp; rfl)); intro gb266 hg w4 hbox hb; have n0_ := Aside0.mk (below_step zB hb); have n1_ := Aside0.mk (hbox); have n2_ := Aside0.mk ((by rw [hg]; exact (below_size zB) : w.heap.size ≤ gb266)); have n3_ := Aside0.mk ((by rw [hg]; exact (below_size zB) : w.heap.size ≤ gb266)); clear HB; have HB := n0_; have BK266 := n1_; have GW266 := n2_; have GE266 := n3_; clear n0_ n1_ n2_ n3_; clear hb hbox hg) | ((with_reducible refine gate_dst (N := 3) rfl ?_); refine box_event ?hg (N := 3) ?hd (cs := #[.int .i64 0]) (t := 28) ?hr ?_; (case hd => rfl); (case hg => rfl); (case hr => first | (go_simp; done) | (go_simp; rfl)); intro gb267 hg w5 hbox hb; have n0_ := Aside0.mk (blk_below (g := gb266) (o := .cells #[.slice none 0 0] 27 (0, 0)) (zk BK266) hb); have n1_ := Aside0.mk (below_step zB hb); have n2_ := Aside0.mk (hbox); have n3_ := Aside0.mk ((by rw [hg]; exact (below_size zB) : w.heap.size ≤ gb267)); have n4_ := Aside0.mk ((by rw [hg]; exact (below_size zB) : w.heap.size ≤ gb267)); have n5_ := Aside0.mk ((by rw [hg]; exact Nat.ne_of_lt (blk_lt (g := gb266) (o := .cells #[.slice none 0 0] 27 (0, 0)) (zk BK266)) : gb266 ≠ gb267)); have n6_ := Aside0.mk ((by rw [hg]; exact Nat.ne_of_gt (blk_lt (g := gb266) (o := .cells #[.slice none 0 0] 27 (0, 0)) (zk BK266)) : gb267 ≠ gb266)); clear BK266; clear HB; have BK266 := n0_; have HB := n1_; have BK267 := n2_; have GW267 := n3_; have GE267 := n4_; have NB266_267 := n5_; have NB267_266 := n6_; clear n0_ n1_ n2_ n3_ n4_ n5_ n6_; clear hb hbox hg) | ((with_reducible refine gate_callee (f := 46) rfl ?_); refine goesL_ (some 8) rfl rfl Try.func46 zK rfl #[.slice A0 l0.length c0] rfl zM ?_; (with_reducible refine (solve_valid.calls k _ _ l0 t268 _ ?side1 ?side2 A2.out).mono ?_); (case side1 => repeat (first | exact (Kd.C_below HR0.out HB.out) | (with_reducible refine Kd.C_alloc ?_ _) | (with_reducible refine Kd.C_drewN ?_ _) | (with_reducible refine Kd.C_drew ?_))); (case side2 => exact HC0.out); rintro e w6 ⟨rfl, hb⟩; refine ⟨_, rfl, ?_⟩; have n0_ := Aside0.mk (blk_below (g := gb266) (o := .cells #[.slice none 0 0] 27 (0, 0)) (zk BK266) hb); have n1_ := Aside0.mk (blk_below (g := gb267) (o := .cells #[.int .i64 0] 28 (0, 0)) (zk BK267) hb); have n2_ := Aside0.mk (below_step zB hb); clear BK266; clear BK267; clear HB; have BK266 := n0_; have BK267 := n1_; have HB := n2_; clear n0_ n1_ n2_; (try clear hb); (try clear hb2); (try clear hk); (try clear hi)))
 (try simp only [Act.put, List.setIfInBounds_toArray, List.set_cons_zero, List.set_cons_succ])
 have H := HC3.out
 clear HC3
 by_cases c7 : t268 = 0
 ·rw [if_pos c7] at H
  have c7b0 : (t268 == 0) = true := beq_iff_eq.mpr c7
  have c7b1 : (t268 != 0) = false := bne_eq_false_iff_eq.mpr c7
  clear c7
  (first | rw [c7b0] | (simp only [i64_w, i32_w]; rw [c7b0]) | skip)
  (try rw [c7b1])
  replace H := Option.bind_eq_some_iff.mp H
  obtain ⟨t269, A80, H⟩ := H
  replace H : ((solve_search.f k l0 t269 0 0).bind fun s => (if (s.length : Int) = 0 then ((solve_split.f k l0 t269 0 0 []).bind fun q => some (solve_Refute.of q)) else (some (([] : List (S35)), 11)))) = some (r1, r2) := H
  have A8 := Aside0.mk A80
  clear A80
  replace H := Option.bind_eq_some_iff.mp H
  obtain ⟨s_, AS0, H⟩ := H
  have AS := Aside0.mk AS0
  clear AS0
  have HFS := Aside0.mk H
  clear H
  have HLT266 := Aside0.mk (blk_lt BK266.out)
  have HLT267 := Aside0.mk (blk_lt BK267.out)
  go_wp2_with (first
   | ((with_reducible refine gate_callee (f := 47) rfl ?_); refine goesL_ (some 14) rfl rfl Try.func47 zK rfl #[.slice A0 l0.length c0] rfl zM ?_; (with_reducible refine (solve_occurring.calls k _ _ l0 t269 _ ?side1 ?side2 A8.out).mono ?_); (case side1 => repeat (first | exact (Kd.C_below HR0.out HB.out) | (with_reducible refine Kd.C_alloc ?_ _) | (with_reducible refine Kd.C_drewN ?_ _) | (with_reducible refine Kd.C_drew ?_))); (case side2 => exact HC0.out); rintro e w9 ⟨v270, rfl, ho0, hb⟩; refine ⟨_, rfl, ?_⟩; have hn6 := Aside0.mk hb.size; have n1_ := Aside0.mk (blk_below (g := gb266) (o := .cells #[.slice none 0 0] 27 (0, 0)) (zk BK266) hb); have n2_ := Aside0.mk (blk_below (g := gb267) (o := .cells #[.int .i64 0] 28 (0, 0)) (zk BK267) hb); have n3_ := Aside0.mk (below_step zB hb); have n4_ := Aside0.mk ho0; have n5_ := Aside0.mk (below_size HB.out); clear BK266 BK267 HB hb ho0; have HO271 := n4_; have BK266 := n1_; have BK267 := n2_; have HB := n3_; have HS6 := n5_; clear n1_ n2_ n3_ n4_ n5_; obtain ⟨A270, c270, e270⟩ := Kd.R_slice HO271.out; subst e270))
  refine (solve_solutions.in_ A0 l0.length c0 A270 t269.length c270 0 0 _).mono ?_
  rintro e w10 ⟨g0, g1, g2, rfl, hg0, hg1, hs0, hs1, hs2, hb⟩
  have n0_ := Aside0.mk (Kd.R_below HO271.out hb)
  have n1_ := Aside0.mk (blk_below (g := gb266) (o := .cells #[.slice none 0 0] 27 (0, 0)) (zk BK266) hb)
  have n2_ := Aside0.mk (blk_below (g := gb267) (o := .cells #[.int .i64 0] 28 (0, 0)) (zk BK267) hb)
  have n3_ := Aside0.mk (below_step zB hb)
  have hn9 := Aside0.mk hb.size
  have hc270 := Aside0.mk (Kd.R_reads' HO271.out).2.1
  clear BK266 BK267 HB HO271 hb hg0 hg1
  have HO271 := n0_
  have BK266 := n1_
  have BK267 := n2_
  have HB := n3_
  clear n0_ n1_ n2_ n3_
  go_wp2
  have h67 : w6.heap.size ≤ w10.heap.size := Nat.le_trans hn6.out hn9.out
  have hL : ∀ W', KpS w.heap.size w6.heap.size w10.heap.size w10 W' → Kd.C k61 W' A0 l0.length l0 := fun W' hk => Kd.C_kept_came k61_heap HR0.out HB.out (fun k hk => hk.1) W' hk.kept
  have hV : ∀ W', KpS w.heap.size w6.heap.size w10.heap.size w10 W' → Kd.C (Kd.int .i64) W' A270 t269.length t269 := fun W' hk => Kd.C_kept_own (Kd.R_bound HO271.out) (fun k hk hs => by have h_ := HS6.out; obtain ⟨_, h1, h2, _⟩ := hk; omega) W' hk.kept
  refine (wpIn_wide (n := 5)).1 ?_
  refine wpIn_rangeFunc_ownF (n := 5) rfl (by omega) (gf := 85) (lb := #[.pointer (some ⟨g0, 0, none⟩), .pointer (some ⟨g1, 0, none⟩), .pointer (some ⟨g2, 0, none⟩)]) rfl trivial (enters_of Try.func85 zK rfl)
   (solve_solutions_stops w.heap.size w6.heap.size w10.heap.size A0 c0 l0 HC0.out A270 c270 t269 hc270.out 0 0 g0 g1 g2 k s_ w10 (Nat.le_refl _) hL hV AS.out hs0 hs1 hs2)
   KpS.trans (fun W l o o' hl h ho _ => KpS.put (Nat.le_trans HS6.out h67) W l o o' hl h ho) (Below.refl _ _) (fun _ => rfl)
   (fun (pre : List Int) (W : World) => pre = [] ∧ W.heap[gb266]? = some (.cells #[.slice none 0 0] 27 (0, 0)) ∧ W.heap[gb267]? = some (.cells #[.int .i64 0] 28 (0, 0)) ∧ Kd.R (Kd.int .i64) 3 W w6.heap.size (fun _ => True) (.slice A270 t269.length c270) t269 ∧ Below w.heap.size w W)
   (fun c pre W => c = Code.ret ∧ (∃ x : Int, pre = [x]) ∧ W.heap[gb266]? = some (.cells #[.slice none 0 0] 27 (0, 0)) ∧ W.heap[gb267]? = some (.cells #[.int .i64 11] 28 (0, 0)) ∧ Below w.heap.size w W)
   (fun s A B row hs hg hr => by
    obtain ⟨h0, h1, h2, h4, h3⟩ := hs
    exact ⟨h0, blk_grown h1 hg (ne_row_ hr h1), blk_grown h2 hg (ne_row_ hr h2), Kd.R_mono (Kd.R_grown (Kd.R_bound h4) hg (fun k hk => by obtain ⟨_, _, _, q, _, cs, hb⟩ := hk; exact ne_row_ hr hb)) (fun _ _ => trivial), h3.grown hg h3.size (fun k e => Nat.le_trans HB.out.size (hr k e).1)⟩)
   (fun c s A B row hs hg hr => by
    obtain ⟨e1, e2, h1, h2, h3⟩ := hs
    exact ⟨e1, e2, blk_grown h1 hg (ne_row_ hr h1), blk_grown h2 hg (ne_row_ hr h2), h3.grown hg h3.size (fun k e => Nat.le_trans HB.out.size (hr k e).1)⟩)
   ⟨rfl, BK266.out, BK267.out, HO271.out, HB.out⟩
   (fun x => { tmps := #[.slice A0 l0.length c0, undef, .pointer (some ⟨gb266, 0, none⟩), .pointer (some ⟨gb267, 0, none⟩), .int .i64 t268, .slice A270 t269.length c270, undef, .slice A0 l0.length c0, .int .i64 t268, .int .i64 t268, .bool false, undef, undef, .slice A0 l0.length c0, .slice A270 t269.length c270, .slice A0 l0.length c0, .slice A270 t269.length c270, .agg #[.int .i64 0, .int .i64 0], .func (.func 85) #[] #[.pointer (some ⟨g0, 0, none⟩), .pointer (some ⟨g1, 0, none⟩), .pointer (some ⟨g2, 0, none⟩)], .int .i64 x, undef, undef, undef, undef, undef, undef, undef, undef], defers := [] }) ?assign ?body ?done ?stop
  case assign =>
   intro l x W K hK
   gi_wp2
   simpa using hK
  case body =>
   rintro l pre x W ⟨rfl, hb1, hb2, hRv, hbl⟩ _
   have hcz0 : W.cell? ⟨gb266, 0, none⟩ = some (.slice none 0 0) := (blk_cell hb1 0).trans rfl
   have hfz0 := blk_frozen hb1 0
   have hcz1 : W.cell? ⟨gb267, 0, none⟩ = some (.int .i64 0) := (blk_cell hb2 0).trans rfl
   have hfz1 := blk_frozen hb2 0
   have hnb := NB266_267.out
   have hnc := NB267_266.out
   gi_wp2
   have h2_ := two_set hb1 hb2 NB266_267.out (.slice none 0 0) (.int .i64 11)
   exact ⟨two_keep _ _ _ _ _, rfl, ⟨x, rfl⟩, h2_.1, h2_.2, below_set (below_set hbl GE266.out) GE267.out⟩
  case done =>
   rintro D ys W hD hys ⟨rfl, hb1, hb2, hRv, hbl⟩ hK
   subst hys
   have H := HFS.out
   rw [if_pos (show (([] : List Int).length : Int) = 0 from rfl)] at H
   replace H := Option.bind_eq_some_iff.mp H
   obtain ⟨⟨q_, qb⟩, AQ0, H⟩ := H
   have AQ := Aside0.mk AQ0
   have HFQ := Aside0.mk (Option.some.inj H)
   have BK266 := Aside0.mk hb1
   have BK267 := Aside0.mk hb2
   have HKD := Aside0.mk hK
   have HRV := Aside0.mk hRv
   have HBL := Aside0.mk hbl
   clear hK AQ0 H hb1 hb2 hRv hbl
   dsimp only
   go_wp2_with (first
    | ((with_reducible refine gate_dst (N := 6) rfl ?_); refine box_event ?hg (N := 6) ?hd (cs := #[.slice none 0 0]) (t := 27) ?hr ?_; (case hd => rfl); (case hg => rfl); (case hr => first | (go_simp; done) | (go_simp; rfl)); intro gr hg w11 hbox hb; have n0_ := Aside0.mk (blk_below BK266.out hb); have n1_ := Aside0.mk (blk_below BK267.out hb); have n2_ := Aside0.mk (Kd.R_below HRV.out hb); have n3_ := Aside0.mk (below_step HBL.out hb); have n4_ := Aside0.mk ((hb.block D (Array.getElem?_eq_some_iff.1 HKD.out).1).trans HKD.out); have n5_ := Aside0.mk hbox; have n6_ := Aside0.mk (show w.heap.size ≤ gr by rw [hg]; exact HBL.out.size); have n7_ := Aside0.mk (show D ≠ gr by rw [hg]; exact Nat.ne_of_lt (Array.getElem?_eq_some_iff.1 HKD.out).1); have n8_ := Aside0.mk (show gb266 ≠ gr by rw [hg]; exact Nat.ne_of_lt (blk_lt BK266.out)); have n9_ := Aside0.mk (show gb267 ≠ gr by rw [hg]; exact Nat.ne_of_lt (blk_lt BK267.out)); clear BK266 BK267 HRV HBL HKD hbox hb hg; have BK266 := n0_; have BK267 := n1_; have HRV := n2_; have HBL := n3_; have HKD := n4_; have BKR := n5_; have GER := n6_; have ND := n7_; have N266 := n8_; have N267 := n9_; clear n0_ n1_ n2_ n3_ n4_ n5_ n6_ n7_ n8_ n9_))
   have hLs : ∀ W', KpR w.heap.size gr w11 W' → Kd.C k61 W' A0 l0.length l0 := fun W' hk => Kd.C_kept_came k61_heap HR0.out HBL.out (fun k hk => hk.1) W' hk.kept
   have hVs : ∀ W', KpR w.heap.size gr w11 W' → Kd.C (Kd.int .i64) W' A270 t269.length t269 := fun W' hk => Kd.C_kept_own (Kd.R_bound HRV.out) (fun k hk hs => by
    obtain ⟨_, _, _, q, hq, cs, hbk⟩ := hk
    have hq' : q ∈ ([3] : List Nat) := hq
    have e3 : q = 3 := by simpa using hq'
    subst e3
    obtain ⟨_, rfl | ⟨cs', hc⟩⟩ := hs
    ·rw [BKR.out] at hbk; cases hbk
    ·rw [hc] at hbk; cases hbk) W' hk.kept
   have hcallS := Aside0.mk (solve_split.in_ w.heap.size gr GER.out w11 A0 c0 l0 HC0.out hLs k A270 c270 t269 0 0 [] (.slice none 0 0) q_ qb w11 (KpR.refl _) HBL.out.size hVs hc270.out BKR.out (Kd.R_nil _ _ _ _ _) AQ.out)
   refine hcallS.out.mono ?_
   clear hcallS hLs hVs
   rintro e w12 ⟨rfl, u_, hbr, hor, hkk⟩
   have n0_ := Aside0.mk (KpR.blk hkk BK266.out N266.out (by decide))
   have n1_ := Aside0.mk (KpR.blk hkk BK267.out N267.out (by decide))
   have n4_ := Aside0.mk (KpR.other hkk HKD.out ND.out rfl)
   have n3_ := Aside0.mk (HBL.out.trans (KpR.belowN hkk HBL.out.size))
   clear BK266 BK267 HBL HKD HRV BKR hkk
   have BK266 := n0_
   have BK267 := n1_
   have HBL := n3_
   have HKD := n4_
   have BKR := Aside0.mk hbr
   have HOR := Aside0.mk hor
   clear n0_ n1_ n3_ n4_ hbr hor
   have hcz0 : w12.cell? ⟨gb266, 0, none⟩ = some (.slice none 0 0) := (blk_cell BK266.out 0).trans rfl
   have hfz0 := blk_frozen BK266.out 0
   have hcz1 : w12.cell? ⟨gb267, 0, none⟩ = some (.int .i64 0) := (blk_cell BK267.out 0).trans rfl
   have hfz1 := blk_frozen BK267.out 0
   have hcz2 : w12.cell? ⟨gr, 0, none⟩ = some u_ := (blk_cell BKR.out 0).trans rfl
   have hfz2 := blk_frozen BKR.out 0
   have hnb := NB266_267.out
   have hnc := NB267_266.out
   have e_ := HFQ.out
   obtain ⟨Ar, cr, rfl⟩ := Kd.R_slice HOR.out
   cases qb with
   | false =>
    simp only [solve_Refute.of, Bool.false_eq_true, if_false, Prod.mk.injEq] at e_
    obtain ⟨rfl, rfl⟩ := e_
    go_wp2
    have h2_ := two_set BK266.out BK267.out NB266_267.out (.slice none 0 0) (.int .i64 3)
    have hKD := (two_keep w12 gb266 gb267 (.slice none 0 0) (.int .i64 3)).same D _ HKD.out rfl
    have hbl2 : Below w.heap.size w ((w12.setCell ⟨gb266, 0, none⟩ (.slice none 0 0)).setCell ⟨gb267, 0, none⟩ (.int .i64 3)) := below_set (below_set HBL.out GE266.out) GE267.out
    refine ⟨by simp, .inl ⟨_, _, rfl, run_takeDeferred hKD, ?_⟩⟩
    exact ⟨_, results_two rfl _ _ gb266 gb267 _ _ rfl rfl (run_loadVar_row _ _ 27 27 _ (0, 0) _ (blk_deferred h2_.1 hKD _) Try.underlying27 rfl zK) (run_loadVar_one _ _ 28 28 _ (0, 0) _ (blk_deferred h2_.2 hKD _) Try.underlying28 rfl), _, rfl, Kd.R_nil _ _ _ _ _, hbl2.grown (grownBy_putObj' _ D _) hbl2.size (fun k e => by cases e; exact Nat.le_trans HB.out.size hD)⟩
   | true =>
    simp only [solve_Refute.of, if_true, Prod.mk.injEq] at e_
    obtain ⟨rfl, rfl⟩ := e_
    go_wp2
    have h2_ := two_set BK266.out BK267.out NB266_267.out (.slice Ar q_.length cr) (.int .i64 0)
    have hKD := (two_keep w12 gb266 gb267 (.slice Ar q_.length cr) (.int .i64 0)).same D _ HKD.out rfl
    have hbl2 : Below w.heap.size w ((w12.setCell ⟨gb266, 0, none⟩ (.slice Ar q_.length cr)).setCell ⟨gb267, 0, none⟩ (.int .i64 0)) := below_set (below_set HBL.out GE266.out) GE267.out
    have hR2 : Kd.R k35 35 ((w12.setCell ⟨gb266, 0, none⟩ (.slice Ar q_.length cr)).setCell ⟨gb267, 0, none⟩ (.int .i64 0)) w.heap.size (fun _ => True) (.slice Ar q_.length cr) q_ :=
     Kd.R_mono (Kd.R_far (p := ⟨gb267, 0, none⟩) (Kd.R_far (p := ⟨gb266, 0, none⟩) (Kd.R_types (Kd.R_types HOR.out BK266.out (by decide)) BK267.out (by decide)) (fun _ hk => hk.1.2) _) (fun _ hk => hk.2) _) (fun _ _ => trivial)
    refine ⟨by simp, .inl ⟨_, _, rfl, run_takeDeferred hKD, ?_⟩⟩
    refine ⟨_, results_two rfl _ _ gb266 gb267 _ _ rfl rfl (run_loadVar_row _ _ 27 27 _ (0, 0) _ (blk_deferred h2_.1 hKD _) Try.underlying27 rfl zK) (run_loadVar_one _ _ 28 28 _ (0, 0) _ (blk_deferred h2_.2 hKD _) Try.underlying28 rfl), _, rfl, ?_, hbl2.grown (grownBy_putObj' _ D _) hbl2.size (fun k e => by cases e; exact Nat.le_trans HB.out.size hD)⟩
    exact Kd.R_mono (Kd.R_grown (Kd.R_bound hR2) (grownBy_putObj' _ D (.deferred none)) (fun k hk e => by obtain ⟨_, _, _, q, _, cs, hb⟩ := hk; cases e; rw [hKD] at hb; cases hb)) (fun _ _ => trivial)
  case stop =>
   rintro D c pre W hD hSp ⟨rfl, ⟨x, rfl⟩, hb1, hb2, hbl⟩ hK
   refine wpIn_wide.2 ?_
   go_wp2
   obtain ⟨z_, rfl⟩ := hSp
   have e_ := HFS.out
   rw [if_neg (by simp; omega)] at e_
   simp only [Option.some.injEq, Prod.mk.injEq] at e_
   obtain ⟨rfl, rfl⟩ := e_
   refine ⟨by simp, .inl ⟨_, _, rfl, run_takeDeferred hK, ?_⟩⟩
   exact ⟨_, results_two rfl _ _ gb266 gb267 _ _ rfl rfl (run_loadVar_row _ _ 27 27 _ (0, 0) _ (blk_deferred hb1 hK _) Try.underlying27 rfl zK) (run_loadVar_one _ _ 28 28 _ (0, 0) _ (blk_deferred hb2 hK _) Try.underlying28 rfl), _, rfl, Kd.R_nil _ _ _ _ _, hbl.grown (grownBy_putObj' _ D _) hbl.size (fun k e => by cases e; exact Nat.le_trans HB.out.size hD)⟩
 ·rw [if_neg c7] at H
  have c7b0 : (t268 == 0) = false := beq_eq_false_iff_ne.mpr c7
  have c7b1 : (t268 != 0) = true := bne_iff_ne.mpr c7
  (first | rw [c7b0] | (simp only [i64_w, i32_w]; rw [c7b0]) | skip)
  (try rw [c7b1])
  simp only [Option.some.injEq, Prod.mk.injEq] at H
  obtain ⟨rfl, rfl⟩ := H
  have hnb13 := NB266_267.out
  have hnc13 := NB267_266.out
  have hcz14_0 : w6.cell? ⟨gb266, 0, none⟩ = some (.slice none 0 0) := (blk_cell BK266.out 0).trans rfl
  have hfz14_0 := blk_frozen BK266.out 0
  have hcz15_0 : w6.cell? ⟨gb267, 0, none⟩ = some (.int .i64 0) := (blk_cell BK267.out 0).trans rfl
  have hfz15_0 := blk_frozen BK267.out 0
  go_wp2
  have h2_ := two_set BK266.out BK267.out NB266_267.out (.slice none 0 0) (.int .i64 t268)
  exact ⟨_, results_two rfl _ _ gb266 gb267 _ _ rfl rfl (run_loadVar_row _ _ 27 27 _ (0, 0) _ h2_.1 Try.underlying27 rfl zK) (run_loadVar_one _ _ 28 28 _ (0, 0) _ h2_.2 Try.underlying28 rfl), _, rfl, Kd.R_nil _ _ _ _ _, below_set (below_set HB.out GE266.out) GE267.out⟩
end
/-! ### slices_Index_bool_bool: function 122 -/
def slices_Index_bool_bool.l0 : Nat → List Bool → Bool → Int → Int → Option (Int)
 | 0, _, _, _, _ => none
 | k + 1, x0, x1, x7, x8 => if x8 < x7 then (if 0 ≤ x8 then (if x8 < (x0.length : Int) then (if (x1 == (rdOf false x0 x8)) = true then (some x8) else (slices_Index_bool_bool.l0 k x0 x1 x7 (wrap64 (x8 + 1)))) else (none)) else (none)) else (some (-1))
def slices_Index_bool_bool.f (k : Nat) (l0 : List Bool) (a1 : Bool) : Option (Int) := slices_Index_bool_bool.l0 k l0 a1 (l0.length : Int) 0
theorem slices_Index_bool_bool.mono_l : ∀ k, (∀ y0 y1 y2 y3, LeO (slices_Index_bool_bool.l0 k y0 y1 y2 y3) (slices_Index_bool_bool.l0 (k + 1) y0 y1 y2 y3))
 | 0 => fun _ _ _ _ r h => by simp [slices_Index_bool_bool.l0] at h
 | k + 1 => by
  have ih0 := slices_Index_bool_bool.mono_l k
  ·intro y0 y1 y2 y3
   unfold slices_Index_bool_bool.l0
   repeat' first
   | (with_reducible exact ih0 _ _ _ _)
   | (with_reducible exact LeO.refl _)
   | (with_reducible exact LeO.none _)
   | (with_reducible refine LeO.ite ?_ ?_)
   | (with_reducible refine LeO.bind ?_ (fun _ => ?_))
   | exact ih0 _ _ _ _
   | exact LeO.none _
   | refine LeO.ite ?_ ?_
   | refine LeO.bind ?_ (fun _ => ?_)
theorem slices_Index_bool_bool.mono : ∀ a0 a1 k, LeO (slices_Index_bool_bool.f k a0 a1) (slices_Index_bool_bool.f (k + 1) a0 a1) := by
 intro a0 a1 k
 have ih0 := slices_Index_bool_bool.mono_l k
 unfold slices_Index_bool_bool.f
 repeat' first
   | (with_reducible exact ih0 _ _ _ _)
   | (with_reducible exact LeO.refl _)
   | (with_reducible exact LeO.none _)
   | (with_reducible refine LeO.ite ?_ ?_)
   | (with_reducible refine LeO.bind ?_ (fun _ => ?_))
   | exact ih0 _ _ _ _
   | exact LeO.none _
   | refine LeO.ite ?_ ?_
   | refine LeO.bind ?_ (fun _ => ?_)
set_option maxHeartbeats 8000000 in
set_option maxRecDepth 100000 in
theorem slices_Index_bool_bool.calls (k : Nat) (A0 : Option Addr) (c0 : Nat) (l0 : List Bool) (a1 : Bool) (r : Int) (w : World) (hr0 : Kd.C Kd.bool w A0 l0.length l0) (hc0 : l0.length ≤ c0) (h : slices_Index_bool_bool.f k l0 a1 = some r) :
  Calls Try.prog 122 #[.slice A0 l0.length c0, .bool a1] w fun e w' => e = .returned (.int .i64 r) ∧ Drawn0 w w' := by
 have hu4 := Try.underlying4
 have HR0 := Aside0.mk hr0
 have HC0 := Aside0.mk hc0
 clear hr0 hc0
 have H : (slices_Index_bool_bool.l0 k l0 a1 (l0.length : Int) 0) = some r := h
 clear h
 have H' := Aside0.mk H
 clear H
 go_enter Try.func122, Try.ntmps122
 go_wp2
 go_loopg [8] k (fun kq v8 w' => ∃ (x8_1 : Int), v8 = .int .i64 x8_1 ∧ Aside0 (slices_Index_bool_bool.l0 kq l0 a1 (l0.length : Int) x8_1 = some r) ∧ Aside0 (kq ≤ k) ∧ Drawn0 w w')
 case atStart => exact ⟨(0), zT, H', ⟨Nat.le_refl _⟩, by repeat (first | exact Drawn0.refl _ | apply Drawn0.step)⟩
 case round =>
  clear H'
  obtain ⟨x8_1, rfl, HA, HK1, ⟨m1, rfl⟩⟩ := hrel
  cases gk with
  | zero => exact absurd HA.out (by simp [slices_Index_bool_bool.l0])
  | succ k1 =>
   have H := HA.out
   clear HA
   simp only [slices_Index_bool_bool.l0] at H
   by_cases c3 : x8_1 < (l0.length : Int)
   ·rw [if_pos c3] at H
    have c3b0 : decide (x8_1 < (l0.length : Int)) = true := decide_eq_true c3
    clear c3
    by_cases c4 : 0 ≤ x8_1
    ·rw [if_pos c4] at H
     have c4b0 : decide (0 ≤ x8_1) = true := decide_eq_true c4
     clear c4
     by_cases c5 : x8_1 < (l0.length : Int)
     ·rw [if_pos c5] at H
      have c5b0 : decide (x8_1 < (l0.length : Int)) = true := decide_eq_true c5
      clear c5
      by_cases c6 : (a1 == (rdOf false l0 x8_1)) = true
      ·rw [if_pos c6] at H
       have c6b0 : (a1 == (rdOf false l0 x8_1)) = true := c6
       (try (have c6b1 : decide (a1 = (rdOf false l0 x8_1)) = true := by simpa using c6))
       (try (have c6b2 : (a1 == (rdOf false l0 x8_1)) = true := by simpa using c6))
       clear c6
       obtain rfl := Option.some.inj H
       have p266 : 0 ≤ (x8_1 : Int) := of_decide_eq_true zh
       have q266 : x8_1 < (l0.length : Int) := of_decide_eq_true zh
       obtain ⟨ad266, e266, hx266_0⟩ := Kd.at_bool HR0.out x8_1 p266 q266
       cases e266
       replace p266 := eq_true p266
       replace q266 := eq_true q266
       go_wp2
       go_ret
       exact ⟨by first | rfl | (simp; done) | (simp [*]; done), by repeat (first | exact Drawn0.refl _ | apply Drawn0.step)⟩
      ·rw [if_neg c6] at H
       have c6b0 : (a1 == (rdOf false l0 x8_1)) = false := by simpa using c6
       (try (have c6b1 : decide (a1 = (rdOf false l0 x8_1)) = false := by simpa using c6))
       (try (have c6b2 : (a1 == (rdOf false l0 x8_1)) = false := by simpa using c6))
       (try (have c6b3 : ¬ (a1 = (rdOf false l0 x8_1)) := by simpa using c6))
       clear c6
       have H' := Aside0.mk H
       clear H
       have p266 : 0 ≤ (x8_1 : Int) := of_decide_eq_true zh
       have q266 : x8_1 < (l0.length : Int) := of_decide_eq_true zh
       obtain ⟨ad266, e266, hx266_0⟩ := Kd.at_bool HR0.out x8_1 p266 q266
       cases e266
       replace p266 := eq_true p266
       replace q266 := eq_true q266
       go_wp2
       go_roundg k1
       case measure => have := HK1.out; omega
       case rel => exact ⟨(wrap64 (x8_1 + 1)), zT, H', ⟨by have := HK1.out; omega⟩, by repeat (first | exact Drawn0.refl _ | apply Drawn0.step)⟩
     ·rw [if_neg c5] at H
      exact absurd H (by simp)
    ·rw [if_neg c4] at H
     exact absurd H (by simp)
   ·rw [if_neg c3] at H
    have c3b0 : decide (x8_1 < (l0.length : Int)) = false := decide_eq_false c3
    clear c3
    obtain rfl := Option.some.inj H
    go_wp2
    go_ret
    exact ⟨by first | rfl | (simp; done) | (simp [*]; done), by repeat (first | exact Drawn0.refl _ | apply Drawn0.step)⟩
/-! ### slices_Contains_bool_bool: function 91 -/
def slices_Contains_bool_bool.f (k : Nat) (l0 : List Bool) (a1 : Bool) : Option (Bool) := (slices_Index_bool_bool.f k l0 a1).bind fun t267 => (some (decide (t267 ≥ 0)))
theorem slices_Contains_bool_bool.mono : ∀ a0 a1 k, LeO (slices_Contains_bool_bool.f k a0 a1) (slices_Contains_bool_bool.f (k + 1) a0 a1) := by
 intro a0 a1 k
 unfold slices_Contains_bool_bool.f
 repeat' first
   | (with_reducible exact slices_Index_bool_bool.mono _ _ _)
   | (with_reducible exact LeO.refl _)
   | (with_reducible exact LeO.none _)
   | (with_reducible refine LeO.ite ?_ ?_)
   | (with_reducible refine LeO.bind ?_ (fun _ => ?_))
   | exact slices_Index_bool_bool.mono _ _ _
   | exact LeO.none _
   | refine LeO.ite ?_ ?_
   | refine LeO.bind ?_ (fun _ => ?_)
set_option maxHeartbeats 8000000 in
set_option maxRecDepth 100000 in
theorem slices_Contains_bool_bool.calls (k : Nat) (A0 : Option Addr) (c0 : Nat) (l0 : List Bool) (a1 : Bool) (r : Bool) (w : World) (hr0 : Kd.C Kd.bool w A0 l0.length l0) (hc0 : l0.length ≤ c0) (h : slices_Contains_bool_bool.f k l0 a1 = some r) :
  Calls Try.prog 91 #[.slice A0 l0.length c0, .bool a1] w fun e w' => e = .returned (.bool r) ∧ Drawn0 w w' := by
 have HR0 := Aside0.mk hr0
 have HC0 := Aside0.mk hc0
 clear hr0 hc0
 have H : ((slices_Index_bool_bool.f k l0 a1).bind fun t267 => (some (decide (t267 ≥ 0)))) = some r := h
 clear h
 replace H := Option.bind_eq_some_iff.mp H
 obtain ⟨t267, A30, H⟩ := H
 replace H : (some (decide (t267 ≥ 0))) = some r := H
 have A3 := Aside0.mk A30
 clear A30
 obtain rfl := Option.some.inj H
 go_enter Try.func91, Try.ntmps91
 go_wp2_with (first | ((with_reducible refine gate_callee (f := 122) rfl ?_); refine goesL_ (some 7) rfl rfl Try.func122 zK rfl #[.slice A0 l0.length c0, .bool a1] rfl zM ?_; (with_reducible refine (slices_Index_bool_bool.calls k _ _ l0 a1 t267 _ ?side1 ?side2 A3.out).mono ?_); (case side1 => repeat (first | exact HR0.out | (with_reducible refine Kd.C_alloc ?_ _) | (with_reducible refine Kd.C_drewN ?_ _) | (with_reducible refine Kd.C_drew ?_))); (case side2 => exact HC0.out); rintro e w' ⟨rfl, ⟨nd, rfl⟩⟩; refine ⟨_, rfl, ?_⟩))
 go_ret
 exact ⟨by first | rfl | (simp; done) | (simp [*]; done), by repeat (first | exact Drawn0.refl _ | apply Drawn0.step)⟩
end Go.Proofs.Ytbagnalcabdlhaa.S
