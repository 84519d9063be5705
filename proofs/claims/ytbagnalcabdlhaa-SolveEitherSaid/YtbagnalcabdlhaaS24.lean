-- Written by wip/tools/myprint.py, a program of this session's.
import Derived.Test.YtbagnalcabdlhaaS0
import Derived.Test.YtbagnalcabdlhaaS4
import Derived.Test.YtbagnalcabdlhaaS6
import Derived.Test.YtbagnalcabdlhaaS7
import Derived.Test.YtbagnalcabdlhaaS9
import Derived.Test.YtbagnalcabdlhaaS23
namespace Go.Proofs.Ytbagnalcabdlhaa.S
open Go.RowKit Go.Proofs.YtbagnalcabdlhaaW.PrintWords Go.Proofs.YtbagnalcabdlhaaW.PrintLast Go.Proofs.YtbagnalcabdlhaaW.PrintMore
attribute [local go_sem] max2_int min2_int max_two min_two max_three min_three max_four min_four   -- for this text's walks alone
set_option linter.unusedVariables false
set_option linter.unusedSimpArgs false
/-! ### ancepslaw40_SolveEither: function 6 -/
def ancepslaw40_SolveEither.f (k : Nat) (l0 : List (S85)) : Option (Bool) := (ancepslaw40_awake.f k).bind fun t634 => (if t634 = true then ((ancepsref40_Made.f k l0).bind fun t635 => ((solve_First.f k t635).bind fun bt638 => ((solve_Refute.f k t635).bind fun bt640 => (if bt638.2 = 0 then (if bt640.2 = 11 then ((solve_Holds.f k t635 bt638.1).bind fun t645 => (some t645)) else (some false)) else (if bt638.2 = 10 then (some (bt640.2 == 0)) else (some false)))))) else (some false))
theorem ancepslaw40_SolveEither.mono : ∀ a0 k, LeO (ancepslaw40_SolveEither.f k a0) (ancepslaw40_SolveEither.f (k + 1) a0) := by
 intro a0 k
 unfold ancepslaw40_SolveEither.f
 repeat' first
   | (with_reducible exact ancepslaw40_awake.mono _)
   | (with_reducible exact ancepsref40_Made.mono _ _)
   | (with_reducible exact solve_First.mono _ _)
   | (with_reducible exact solve_Holds.mono _ _ _)
   | (with_reducible exact solve_Refute.mono _ _)
   | (with_reducible exact LeO.refl _)
   | (with_reducible exact LeO.none _)
   | (with_reducible refine LeO.ite ?_ ?_)
   | (with_reducible refine LeO.bind ?_ (fun _ => ?_))
   | exact ancepslaw40_awake.mono _
   | exact ancepsref40_Made.mono _ _
   | exact solve_First.mono _ _
   | exact solve_Holds.mono _ _ _
   | exact solve_Refute.mono _ _
   | exact LeO.none _
   | refine LeO.ite ?_ ?_
   | refine LeO.bind ?_ (fun _ => ?_)
set_option maxHeartbeats 8000000 in
set_option maxRecDepth 100000 in
theorem ancepslaw40_SolveEither.calls (k : Nat) (A0 : Option Addr) (c0 : Nat) (l0 : List (S85)) (r : Bool) (w : World) (hr0 : Kd.C k85 w A0 l0.length l0) (hc0 : l0.length ≤ c0) (h : ancepslaw40_SolveEither.f k l0 = some r) :
  Calls Try.prog 6 #[.slice A0 l0.length c0] w fun e w' => e = .returned (.bool r) ∧ Below w.heap.size w w' := by
 have hu27 := Try.underlying27
 have HR0 := Aside0.mk hr0
 have HC0 := Aside0.mk hc0
 clear hr0 hc0
 have HB := Aside0.mk (Below.refl w.heap.size w)
 have H : ((ancepslaw40_awake.f k).bind fun t634 => (if t634 = true then ((ancepsref40_Made.f k l0).bind fun t635 => ((solve_First.f k t635).bind fun bt638 => ((solve_Refute.f k t635).bind fun bt640 => (if bt638.2 = 0 then (if bt640.2 = 11 then ((solve_Holds.f k t635 bt638.1).bind fun t645 => (some t645)) else (some false)) else (if bt638.2 = 10 then (some (bt640.2 == 0)) else (some false)))))) else (some false))) = some r := h
 clear h
 replace H := Option.bind_eq_some_iff.mp H
 obtain ⟨t634, A20, H⟩ := H
 replace H : (if t634 = true then ((ancepsref40_Made.f k l0).bind fun t635 => ((solve_First.f k t635).bind fun bt638 => ((solve_Refute.f k t635).bind fun bt640 => (if bt638.2 = 0 then (if bt640.2 = 11 then ((solve_Holds.f k t635 bt638.1).bind fun t645 => (some t645)) else (some false)) else (if bt638.2 = 10 then (some (bt640.2 == 0)) else (some false)))))) else (some false)) = some r := H
 have A2 := Aside0.mk A20
 clear A20
 have HC3 := Aside0.mk H
 clear H
 go_enter Try.func6, Try.ntmps6
 go_upto_if 9 with (first | ((with_reducible refine gate_callee (f := 12) rfl ?_); refine goesL_ (some 8) rfl rfl Try.func12 zK rfl #[] rfl zM ?_; (with_reducible refine (ancepslaw40_awake.calls k  t634 _ A2.out).mono ?_); rintro e w4 ⟨rfl, hb⟩; refine ⟨_, rfl, ?_⟩; have n0_ := Aside0.mk (below_step zB hb); clear HB; have HB := n0_; clear n0_; (try clear hb); (try clear hb2); (try clear hk); (try clear hi)))
 (try simp only [Act.put, List.setIfInBounds_toArray, List.set_cons_zero, List.set_cons_succ])
 have H := HC3.out
 clear HC3
 by_cases c5 : t634 = true
 ·subst c5
  have H1 : ((ancepsref40_Made.f k l0).bind fun t635 => ((solve_First.f k t635).bind fun bt638 => ((solve_Refute.f k t635).bind fun bt640 => (if bt638.2 = 0 then (if bt640.2 = 11 then ((solve_Holds.f k t635 bt638.1).bind fun t645 => (some t645)) else (some false)) else (if bt638.2 = 10 then (some (bt640.2 == 0)) else (some false)))))) = some r := by rw [if_pos rfl] at H; exact H
  clear H
  have H := H1
  clear H1
  replace H := Option.bind_eq_some_iff.mp H
  obtain ⟨t635, A60, H⟩ := H
  replace H : ((solve_First.f k t635).bind fun bt638 => ((solve_Refute.f k t635).bind fun bt640 => (if bt638.2 = 0 then (if bt640.2 = 11 then ((solve_Holds.f k t635 bt638.1).bind fun t645 => (some t645)) else (some false)) else (if bt638.2 = 10 then (some (bt640.2 == 0)) else (some false))))) = some r := H
  have A6 := Aside0.mk A60
  clear A60
  replace H := Option.bind_eq_some_iff.mp H
  obtain ⟨⟨t638, t639⟩, A70, H⟩ := H
  replace H : ((solve_Refute.f k t635).bind fun bt640 => (if t639 = 0 then (if bt640.2 = 11 then ((solve_Holds.f k t635 t638).bind fun t645 => (some t645)) else (some false)) else (if t639 = 10 then (some (bt640.2 == 0)) else (some false)))) = some r := H
  have A7 := Aside0.mk A70
  clear A70
  replace H := Option.bind_eq_some_iff.mp H
  obtain ⟨⟨t640, t643⟩, A80, H⟩ := H
  replace H : (if t639 = 0 then (if t643 = 11 then ((solve_Holds.f k t635 t638).bind fun t645 => (some t645)) else (some false)) else (if t639 = 10 then (some (t643 == 0)) else (some false))) = some r := H
  have A8 := Aside0.mk A80
  clear A80
  have HC9 := Aside0.mk H
  clear H
  go_upto_if 23 with (first | ((with_reducible refine gate_callee (f := 23) rfl ?_); refine goesL_ (some 11) rfl rfl Try.func23 zK rfl #[.slice A0 l0.length c0] rfl zM ?_; (with_reducible refine (ancepsref40_Made.calls k _ _ l0 t635 _ ?side1 ?side2 A6.out).mono ?_); (case side1 => repeat (first | exact (Kd.C_below HR0.out HB.out) | (with_reducible refine Kd.C_alloc ?_ _) | (with_reducible refine Kd.C_drewN ?_ _) | (with_reducible refine Kd.C_drew ?_))); (case side2 => exact HC0.out); rintro e w10 ⟨v636, rfl, ho0, hb⟩; refine ⟨_, rfl, ?_⟩; have n0_ := Aside0.mk (Kd.S_lower ho0 (below_size zB)); have n1_ := Aside0.mk (below_step zB hb); clear HB; have HO637 := n0_; have HB := n1_; clear n0_ n1_; (try clear hb); (try clear hb2); (try clear hk); (try clear hi); (try clear ho0); obtain ⟨Ao11, co11, eo11⟩ := Kd.S_slice HO637.out; subst eo11) | ((with_reducible refine gate_callee (f := 19) rfl ?_); refine goesL_ (some 14) rfl rfl Try.func19 zK rfl #[.slice Ao11 t635.length co11] rfl zM ?_; (with_reducible refine (solve_First.calls k _ _ t635 t638 t639 _ ?side1 ?side2 A7.out).mono ?_); (case side1 => repeat (first | exact (Kd.S_reads' HO637.out).2.2 | (with_reducible refine Kd.C_alloc ?_ _) | (with_reducible refine Kd.C_drewN ?_ _) | (with_reducible refine Kd.C_drew ?_))); (case side2 => exact (Kd.S_reads' HO637.out).2.1); rintro e w12 ⟨rfl, hb⟩; refine ⟨_, rfl, ?_⟩; have n0_ := Aside0.mk (Kd.S_below (zS HO637) hb); have n1_ := Aside0.mk (below_step zB hb); clear HO637; clear HB; have HO637 := n0_; have HB := n1_; clear n0_ n1_; (try clear hb); (try clear hb2); (try clear hk); (try clear hi)) | ((with_reducible refine gate_callee (f := 14) rfl ?_); refine goesL_ (some 19) rfl rfl Try.func14 zK rfl #[.slice Ao11 t635.length co11] rfl zM ?_; (with_reducible refine (solve_Refute.calls k _ _ t635 t640 t643 _ ?side1 ?side2 A8.out).mono ?_); (case side1 => repeat (first | exact (Kd.S_reads' HO637.out).2.2 | (with_reducible refine Kd.C_alloc ?_ _) | (with_reducible refine Kd.C_drewN ?_ _) | (with_reducible refine Kd.C_drew ?_))); (case side2 => exact (Kd.S_reads' HO637.out).2.1); rintro e w13 ⟨v641, rfl, ho0, hb⟩; refine ⟨_, rfl, ?_⟩; have n0_ := Aside0.mk (Kd.S_below (zS HO637) hb); have n1_ := Aside0.mk (Kd.R_lower ho0 (below_size zB)); have n2_ := Aside0.mk (below_step zB hb); clear HO637; clear HB; have HO637 := n0_; have HO642 := n1_; have HB := n2_; clear n0_ n1_ n2_; (try clear hb); (try clear hb2); (try clear hk); (try clear hi); (try clear ho0)) | ((with_reducible refine gate_dst (N := 6) rfl ?_); refine box_event ?hg (N := 6) ?hd (cs := #[.slice none 0 0]) (t := 27) ?hr ?_; (case hd => rfl); (case hg => rfl); (case hr => first | (go_simp; done) | (go_simp; rfl)); intro gb644 hg w14 hbox hb; have n0_ := Aside0.mk (Kd.S_below (zS HO637) hb); have n1_ := Aside0.mk (Kd.R_below (zR HO642) hb); have n2_ := Aside0.mk (below_step zB hb); have n3_ := Aside0.mk (hbox); have n4_ := Aside0.mk ((by rw [hg]; exact (below_size zB) : w.heap.size ≤ gb644)); have n5_ := Aside0.mk ((by rw [hg]; exact (below_size zB) : w.heap.size ≤ gb644)); clear HO637; clear HO642; clear HB; have HO637 := n0_; have HO642 := n1_; have HB := n2_; have BK644 := n3_; have GW644 := n4_; have GE644 := n5_; clear n0_ n1_ n2_ n3_ n4_ n5_; clear hb hbox hg; obtain ⟨Ao15, co15, eo15⟩ := Kd.R_slice HO642.out; subst eo15; have hcz16_0 : w14.cell? ⟨gb644, 0, none⟩ = some (.slice none 0 0) := (blk_cell BK644.out 0).trans rfl; have hfz16_0 := blk_frozen BK644.out 0))
  (try simp only [Act.put, List.setIfInBounds_toArray, List.set_cons_zero, List.set_cons_succ])
  have H := HC9.out
  clear HC9
  by_cases c17 : t639 = 0
  ·rw [if_pos c17] at H
   have c17b0 : (t639 == 0) = true := beq_iff_eq.mpr c17
   have c17b1 : (t639 != 0) = false := bne_eq_false_iff_eq.mpr c17
   clear c17
   (first | rw [c17b0] | (simp only [i64_w, i32_w]; rw [c17b0]) | skip)
   (try rw [c17b1])
   by_cases c18 : t643 = 11
   ·rw [if_pos c18] at H
    have c18b0 : (t643 == 11) = true := beq_iff_eq.mpr c18
    have c18b1 : (t643 != 11) = false := bne_eq_false_iff_eq.mpr c18
    clear c18
    replace H := Option.bind_eq_some_iff.mp H
    obtain ⟨t645, A190, H⟩ := H
    replace H : (some t645) = some r := H
    have A19 := Aside0.mk A190
    clear A190
    obtain rfl := Option.some.inj H
    go_wp2_with (first | (go_at_call 21; (with_reducible refine (solve_Holds.calls k _ _ t635 t638 t645 _ ?side1 ?side2 A19.out).mono ?_); (case side1 => refine (Kd.S_reads' (e := 61) (base := w.heap.size) (ok := fun k_ => True) (n := t635.length) (c := co11) ?_).2.2; exact (by (with_reducible repeat (first | apply Kd.S_alloc | apply Kd.S_drewN | apply Kd.S_drew)); exact (Kd.S_mono (Kd.S_far (p := ⟨gb644, 0, none⟩) (Kd.S_types HO637.out BK644.out (by decide)) (fun _ hk => hk.2) (.slice Ao15 t640.length co15)) (fun _ h_ => h_.1)))); (case side2 => exact (Kd.S_reads' HO637.out).2.1); rintro e w20 ⟨rfl, hb⟩; have n0_ := Aside0.mk (Kd.S_below (by (with_reducible repeat (first | apply Kd.S_alloc | apply Kd.S_drewN | apply Kd.S_drew)); exact (Kd.S_mono (Kd.S_far (p := ⟨gb644, 0, none⟩) (Kd.S_types HO637.out BK644.out (by decide)) (fun _ hk => hk.2) (.slice Ao15 t640.length co15)) (fun _ h_ => h_.1))) hb); have n1_ := Aside0.mk (Kd.R_below (by (with_reducible repeat (first | apply Kd.R_alloc | apply Kd.R_drewN | apply Kd.R_drew)); exact (Kd.R_mono (Kd.R_far (p := ⟨gb644, 0, none⟩) (Kd.R_types HO642.out BK644.out (by decide)) (fun _ hk => hk.2) (.slice Ao15 t640.length co15)) (fun _ h_ => h_.1))) hb); have n2_ := Aside0.mk (blk_below (g := gb644) (o := .cells #[.slice Ao15 t640.length co15] 27 (0, 0)) (by (with_reducible repeat (first | refine blk_drewN ?_ _ | refine blk_drew ?_ | refine blk_alloc ?_ _)); refine blk_put (cs := #[.slice none 0 0]) ?_ 0 _ rfl; (with_reducible repeat (first | refine blk_drewN ?_ _ | refine blk_drew ?_ | refine blk_alloc ?_ _)); exact BK644.out) hb); have n3_ := Aside0.mk (below_step zB hb); clear HO637; clear HO642; clear BK644; clear HB; have HO637 := n0_; have HO642 := n1_; have BK644 := n2_; have HB := n3_; clear n0_ n1_ n2_ n3_; (try clear hb); (try clear hb2); (try clear hk); (try clear hi)))
    go_ret
    exact ⟨by first | rfl | (simp [errW_none, errW_some] <;> rfl) | (simp [*, errW_none, errW_some] <;> rfl), by repeat (first | (with_reducible first | exact HB.out | apply below_alloc | apply pw_below_drewN | apply below_drew1 | refine below_set ?_ GE644.out) | exact HB.out)⟩
   ·rw [if_neg c18] at H
    have c18b0 : (t643 == 11) = false := beq_eq_false_iff_ne.mpr c18
    have c18b1 : (t643 != 11) = true := bne_iff_ne.mpr c18
    obtain rfl := Option.some.inj H
    go_wp2
    go_ret
    exact ⟨by first | rfl | (simp [errW_none, errW_some] <;> rfl) | (simp [*, errW_none, errW_some] <;> rfl), by repeat (first | (with_reducible first | exact HB.out | apply below_alloc | apply pw_below_drewN | apply below_drew1 | refine below_set ?_ GE644.out) | exact HB.out)⟩
  ·rw [if_neg c17] at H
   have c17b0 : (t639 == 0) = false := beq_eq_false_iff_ne.mpr c17
   have c17b1 : (t639 != 0) = true := bne_iff_ne.mpr c17
   (first | rw [c17b0] | (simp only [i64_w, i32_w]; rw [c17b0]) | skip)
   (try rw [c17b1])
   by_cases c21 : t639 = 10
   ·rw [if_pos c21] at H
    have c21b0 : (t639 == 10) = true := beq_iff_eq.mpr c21
    have c21b1 : (t639 != 10) = false := bne_eq_false_iff_eq.mpr c21
    clear c21
    obtain rfl := Option.some.inj H
    go_wp2
    go_ret
    exact ⟨by first | rfl | (simp [errW_none, errW_some] <;> rfl) | (simp [*, errW_none, errW_some] <;> rfl), by repeat (first | (with_reducible first | exact HB.out | apply below_alloc | apply pw_below_drewN | apply below_drew1 | refine below_set ?_ GE644.out) | exact HB.out)⟩
   ·rw [if_neg c21] at H
    have c21b0 : (t639 == 10) = false := beq_eq_false_iff_ne.mpr c21
    have c21b1 : (t639 != 10) = true := bne_iff_ne.mpr c21
    obtain rfl := Option.some.inj H
    go_wp2
    go_ret
    exact ⟨by first | rfl | (simp [errW_none, errW_some] <;> rfl) | (simp [*, errW_none, errW_some] <;> rfl), by repeat (first | (with_reducible first | exact HB.out | apply below_alloc | apply pw_below_drewN | apply below_drew1 | refine below_set ?_ GE644.out) | exact HB.out)⟩
 ·replace c5 := Bool.eq_false_iff.mpr c5
  subst c5
  have H1 : (some false) = some r := by rw [if_neg (show ¬ (false = true) by decide)] at H; exact H
  clear H
  have H := H1
  clear H1
  obtain rfl := Option.some.inj H
  go_wp2
  go_ret
  exact ⟨by first | rfl | (simp [errW_none, errW_some] <;> rfl) | (simp [*, errW_none, errW_some] <;> rfl), by repeat (first | (with_reducible first | exact HB.out | apply below_alloc | apply pw_below_drewN | apply below_drew1) | exact HB.out)⟩
end Go.Proofs.Ytbagnalcabdlhaa.S
