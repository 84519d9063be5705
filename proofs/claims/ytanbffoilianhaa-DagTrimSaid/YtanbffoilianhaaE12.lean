-- Written by wip/tools/myprint.py, a program of this session's.
import Derived.Test.YtanbffoilianhaaE0
import Derived.Test.YtanbffoilianhaaE7
import Derived.Test.YtanbffoilianhaaE11
namespace Go.Proofs.Ytanbffoilianhaa.E
open Go.RowKit Go.Proofs.YtanbffoilianhaaW.PrintWords Go.Proofs.YtanbffoilianhaaW.PrintLast Go.Proofs.YtanbffoilianhaaW.PrintMore
attribute [local go_sem] max2_int min2_int max_two min_two max_three min_three max_four min_four   -- for this text's walks alone
set_option linter.unusedVariables false
set_option linter.unusedSimpArgs false
/-! ### ancepsref09_Count: function 20 -/
def ancepsref09_Count.f (k : Nat) (a0_0 : Int) (l0_1 : List (S69)) : Option (Int × Int) := (ancepsref09_Valid.f k a0_0 l0_1).bind fun t307 => (if t307 = 0 then ((ancepsref09_ways.f k a0_0 l0_1).bind fun t308 => (if 0 < (t308.length : Int) then (if (rd t308 0) > 4611686018427387904 then (some (0, 3)) else (some (rd t308 0, 0))) else (none))) else (some (0, t307)))
theorem ancepsref09_Count.mono : ∀ a0 a1 k, LeO (ancepsref09_Count.f k a0 a1) (ancepsref09_Count.f (k + 1) a0 a1) := by
 intro a0 a1 k
 unfold ancepsref09_Count.f
 repeat' first
   | (with_reducible exact ancepsref09_Valid.mono _ _ _)
   | (with_reducible exact ancepsref09_ways.mono _ _ _)
   | (with_reducible exact LeO.refl _)
   | (with_reducible exact LeO.none _)
   | (with_reducible refine LeO.ite ?_ ?_)
   | (with_reducible refine LeO.bind ?_ (fun _ => ?_))
   | exact ancepsref09_Valid.mono _ _ _
   | exact ancepsref09_ways.mono _ _ _
   | exact LeO.none _
   | refine LeO.ite ?_ ?_
   | refine LeO.bind ?_ (fun _ => ?_)
set_option maxHeartbeats 8000000 in
set_option maxRecDepth 100000 in
theorem ancepsref09_Count.calls (k : Nat) (a0_0 : Int) (A0_1 : Option Addr) (c0_1 : Nat) (l0_1 : List (S69)) (r1 : Int) (r2 : Int) (w : World) (hr0_1 : Kd.C k69 w A0_1 l0_1.length l0_1) (hc0_1 : l0_1.length ≤ c0_1) (h : ancepsref09_Count.f k a0_0 l0_1 = some (r1, r2)) :
  Calls Try.prog 20 #[.agg #[.int .i64 a0_0, .slice A0_1 l0_1.length c0_1]] w fun e w' => e = .returned (.tuple #[.int .i64 r1, .int .i64 r2]) ∧ Below w.heap.size w w' := by
 have hu24 := Try.underlying24
 have hu2 := Try.underlying2
 have HR0_1 := Aside0.mk hr0_1
 have HC0_1 := Aside0.mk hc0_1
 clear hr0_1 hc0_1
 have HB := Aside0.mk (Below.refl w.heap.size w)
 have H : ((ancepsref09_Valid.f k a0_0 l0_1).bind fun t307 => (if t307 = 0 then ((ancepsref09_ways.f k a0_0 l0_1).bind fun t308 => (if 0 < (t308.length : Int) then (if (rd t308 0) > 4611686018427387904 then (some (0, 3)) else (some (rd t308 0, 0))) else (none))) else (some (0, t307)))) = some (r1, r2) := h
 clear h
 replace H := Option.bind_eq_some_iff.mp H
 obtain ⟨t307, A20, H⟩ := H
 replace H : (if t307 = 0 then ((ancepsref09_ways.f k a0_0 l0_1).bind fun t308 => (if 0 < (t308.length : Int) then (if (rd t308 0) > 4611686018427387904 then (some (0, 3)) else (some (rd t308 0, 0))) else (none))) else (some (0, t307))) = some (r1, r2) := H
 have A2 := Aside0.mk A20
 clear A20
 have HC3 := Aside0.mk H
 clear H
 go_enter Try.func20, Try.ntmps20
 go_upto_if 9 with (first | ((with_reducible refine gate_dst (N := 1) rfl ?_); refine box_event ?hg (N := 1) ?hd (cs := #[.int .i64 a0_0, .slice A0_1 l0_1.length c0_1]) (t := 24) ?hr ?_; (case hd => rfl); (case hg => rfl); (case hr => first | (go_simp; done) | (go_simp; rfl)); intro gb306 hg w4 hbox hb; have n0_ := Aside0.mk (below_step zB hb); have n1_ := Aside0.mk (hbox); have n2_ := Aside0.mk ((by rw [hg]; exact (below_size zB) : w.heap.size ≤ gb306)); have n3_ := Aside0.mk ((by rw [hg]; exact (below_size zB) : w.heap.size ≤ gb306)); clear HB; have HB := n0_; have BK306 := n1_; have GW306 := n2_; have GE306 := n3_; clear n0_ n1_ n2_ n3_; clear hb hbox hg; have hcz5_0 : w4.cell? ⟨gb306, 0, none⟩ = some (.int .i64 a0_0) := (blk_cell BK306.out 0).trans rfl; have hcz5_1 : w4.cell? ⟨gb306, 1, none⟩ = some (.slice A0_1 l0_1.length c0_1) := (blk_cell BK306.out 1).trans rfl; have hfz5_0 := blk_frozen BK306.out 0; have hfz5_1 := blk_frozen BK306.out 1) | ((with_reducible refine gate_callee (f := 28) rfl ?_); refine goesL_ (some 7) rfl rfl Try.func28 zK rfl #[.agg #[.int .i64 a0_0, .slice A0_1 l0_1.length c0_1]] rfl zM ?_; (with_reducible refine (ancepsref09_Valid.calls k a0_0 _ _ l0_1 t307 _ ?side1 ?side2 A2.out).mono ?_); (case side1 => repeat (first | exact (Kd.C_below HR0_1.out HB.out) | (with_reducible refine Kd.C_alloc ?_ _) | (with_reducible refine Kd.C_drewN ?_ _) | (with_reducible refine Kd.C_drew ?_))); (case side2 => exact HC0_1.out); rintro e w6 ⟨rfl, hb⟩; refine ⟨_, rfl, ?_⟩; have n0_ := Aside0.mk (blk_below (g := gb306) (o := .cells #[.int .i64 a0_0, .slice A0_1 l0_1.length c0_1] 24 (0, 0)) (zk BK306) hb); have n1_ := Aside0.mk (below_step zB hb); clear BK306; clear HB; have BK306 := n0_; have HB := n1_; clear n0_ n1_; (try clear hb); (try clear hb2); (try clear hk); (try clear hi)))
 (try simp only [Act.put, List.setIfInBounds_toArray, List.set_cons_zero, List.set_cons_succ])
 have H := HC3.out
 clear HC3
 by_cases c7 : t307 = 0
 ·rw [if_pos c7] at H
  have c7b0 : (t307 == 0) = true := beq_iff_eq.mpr c7
  have c7b1 : (t307 != 0) = false := bne_eq_false_iff_eq.mpr c7
  clear c7
  (first | rw [c7b0] | (simp only [i64_w, i32_w]; rw [c7b0]) | skip)
  (try rw [c7b1])
  replace H := Option.bind_eq_some_iff.mp H
  obtain ⟨t308, A80, H⟩ := H
  replace H : (if 0 < (t308.length : Int) then (if (rd t308 0) > 4611686018427387904 then (some (0, 3)) else (some (rd t308 0, 0))) else (none)) = some (r1, r2) := H
  have A8 := Aside0.mk A80
  clear A80
  by_cases c9 : 0 < (t308.length : Int)
  ·rw [if_pos c9] at H
   have c9b0 : decide (0 < (t308.length : Int)) = true := decide_eq_true c9
   have c9b1 : decide (0 < t308.length) = true := decide_eq_true (by omega)
   clear c9
   have HC10 := Aside0.mk H
   clear H
   have hcz11_0 : w6.cell? ⟨gb306, 0, none⟩ = some (.int .i64 a0_0) := (blk_cell BK306.out 0).trans rfl
   have hcz11_1 : w6.cell? ⟨gb306, 1, none⟩ = some (.slice A0_1 l0_1.length c0_1) := (blk_cell BK306.out 1).trans rfl
   have hfz11_0 := blk_frozen BK306.out 0
   have hfz11_1 := blk_frozen BK306.out 1
   go_upto_if 16 with (first | ((with_reducible refine gate_callee (f := 57) rfl ?_); refine goesL_ (some 12) rfl rfl Try.func57 zK rfl #[.agg #[.int .i64 a0_0, .slice A0_1 l0_1.length c0_1]] rfl zM ?_; (with_reducible refine (ancepsref09_ways.calls k a0_0 _ _ l0_1 t308 _ ?side1 ?side2 A8.out).mono ?_); (case side1 => repeat (first | exact (Kd.C_below HR0_1.out HB.out) | (with_reducible refine Kd.C_alloc ?_ _) | (with_reducible refine Kd.C_drewN ?_ _) | (with_reducible refine Kd.C_drew ?_))); (case side2 => exact HC0_1.out); rintro e w12 ⟨v309, rfl, ho0, hb⟩; refine ⟨_, rfl, ?_⟩; have n0_ := Aside0.mk (Kd.R_lower ho0 (below_size zB)); have n1_ := Aside0.mk (blk_below (g := gb306) (o := .cells #[.int .i64 a0_0, .slice A0_1 l0_1.length c0_1] 24 (0, 0)) (zk BK306) hb); have n2_ := Aside0.mk (below_step zB hb); clear BK306; clear HB; have HO310 := n0_; have BK306 := n1_; have HB := n2_; clear n0_ n1_ n2_; (try clear hb); (try clear hb2); (try clear hk); (try clear hi); (try clear ho0); obtain ⟨Ao13, co13, eo13⟩ := Kd.R_slice HO310.out; subst eo13; have p311 : 0 ≤ (0 : Int) := (by omega); have q311 : 0 < (t308.length : Int) := of_decide_eq_true zh; obtain ⟨ad311, e311, hx311_0⟩ := Kd.at_int (Kd.R_reads' HO310.out).2.2 0 p311 q311; cases e311; have qi311 : (0 < t308.length) = True := eq_true (by omega); (try rw [show ((0 : Int)).toNat = 0 from rfl] at hx311_0); (try rw [Addr.add_zero'] at hx311_0); replace p311 := eq_true p311; replace q311 := eq_true q311))
   (try simp only [Act.put, List.setIfInBounds_toArray, List.set_cons_zero, List.set_cons_succ])
   have H := HC10.out
   clear HC10
   by_cases c14 : (rd t308 0) > 4611686018427387904
   ·rw [if_pos c14] at H
    have c14b0 : decide (4611686018427387904 < (rd t308 0)) = true := decide_eq_true c14
    clear c14
    (first | rw [c14b0] | (simp only [i64_w, i32_w]; rw [c14b0]) | skip)
    simp only [Option.some.injEq, Prod.mk.injEq] at H
    obtain ⟨rfl, rfl⟩ := H
    go_wp2
    go_ret2
    exact ⟨by first | rfl | (simp [errW_none, errW_some] <;> rfl) | (simp [*, errW_none, errW_some] <;> rfl), by repeat (first | (with_reducible first | exact HB.out | apply below_alloc | apply pw_below_drewN | apply below_drew1 | refine below_set ?_ GE306.out) | exact HB.out)⟩
   ·rw [if_neg c14] at H
    have c14b0 : decide (4611686018427387904 < (rd t308 0)) = false := decide_eq_false c14
    clear c14
    (first | rw [c14b0] | (simp only [i64_w, i32_w]; rw [c14b0]) | skip)
    simp only [Option.some.injEq, Prod.mk.injEq] at H
    obtain ⟨rfl, rfl⟩ := H
    go_wp2
    go_ret2
    exact ⟨by first | rfl | (simp [errW_none, errW_some] <;> rfl) | (simp [*, errW_none, errW_some] <;> rfl), by repeat (first | (with_reducible first | exact HB.out | apply below_alloc | apply pw_below_drewN | apply below_drew1 | refine below_set ?_ GE306.out) | exact HB.out)⟩
  ·rw [if_neg c9] at H
   exact absurd H (by simp)
 ·rw [if_neg c7] at H
  have c7b0 : (t307 == 0) = false := beq_eq_false_iff_ne.mpr c7
  have c7b1 : (t307 != 0) = true := bne_iff_ne.mpr c7
  (first | rw [c7b0] | (simp only [i64_w, i32_w]; rw [c7b0]) | skip)
  (try rw [c7b1])
  simp only [Option.some.injEq, Prod.mk.injEq] at H
  obtain ⟨rfl, rfl⟩ := H
  go_wp2
  go_ret2
  exact ⟨by first | rfl | (simp [errW_none, errW_some] <;> rfl) | (simp [*, errW_none, errW_some] <;> rfl), by repeat (first | (with_reducible first | exact HB.out | apply below_alloc | apply pw_below_drewN | apply below_drew1 | refine below_set ?_ GE306.out) | exact HB.out)⟩
end Go.Proofs.Ytanbffoilianhaa.E
