-- Written by wip/tools/myprint.py, a program of this session's.
import Derived.Test.YtanbffoilianhaaF0
import Derived.Test.YtanbffoilianhaaF1
import Derived.Test.YtanbffoilianhaaF2
namespace Go.Proofs.Ytanbffoilianhaa.F
open Go.RowKit Go.Proofs.YtanbffoilianhaaW.PrintWords Go.Proofs.YtanbffoilianhaaW.PrintLast Go.Proofs.YtanbffoilianhaaW.PrintMore
attribute [local go_sem] max2_int min2_int max_two min_two max_three min_three max_four min_four   -- for this text's walks alone
set_option linter.unusedVariables false
set_option linter.unusedSimpArgs false
/-! ### dag_Paths: function 21 -/
def dag_Paths.f (k : Nat) (a0_0 : Int) (l0_1 : List (S69)) : Option ((List (List Int)) × Int) := (dag_Valid.f k a0_0 l0_1).bind fun t163 => (if t163 = 0 then ((dag_ways.f k a0_0 l0_1).bind fun t164 => (if 0 < (t164.length : Int) then (if (rd t164 0) > 2000 then (some (([] : List (List Int)), 3)) else ((dag_byFrom.f k a0_0 l0_1).bind fun t169 => (if (rd t164 0) > 0 then ((dag_Paths_1_mc.f k 0 a0_0 l0_1 ([] : List (List Int)) ([] : List Int) t169 t164).bind fun bt177 => (some (bt177.1, 0))) else (some (([] : List (List Int)), 0))))) else (none))) else (some (([] : List (List Int)), t163)))
theorem dag_Paths.mono : ∀ a0 a1 k, LeO (dag_Paths.f k a0 a1) (dag_Paths.f (k + 1) a0 a1) := by
 intro a0 a1 k
 unfold dag_Paths.f
 repeat' first
   | (with_reducible exact dag_Paths_1_mc.mono _ _ _ _ _ _ _ _)
   | (with_reducible exact dag_Valid.mono _ _ _)
   | (with_reducible exact dag_byFrom.mono _ _ _)
   | (with_reducible exact dag_ways.mono _ _ _)
   | (with_reducible exact LeO.refl _)
   | (with_reducible exact LeO.none _)
   | (with_reducible refine LeO.ite ?_ ?_)
   | (with_reducible refine LeO.bind ?_ (fun _ => ?_))
   | exact dag_Paths_1_mc.mono _ _ _ _ _ _ _ _
   | exact dag_Valid.mono _ _ _
   | exact dag_byFrom.mono _ _ _
   | exact dag_ways.mono _ _ _
   | exact LeO.none _
   | refine LeO.ite ?_ ?_
   | refine LeO.bind ?_ (fun _ => ?_)
set_option maxHeartbeats 8000000 in
set_option maxRecDepth 100000 in
theorem dag_Paths.calls (k : Nat) (a0_0 : Int) (A0_1 : Option Addr) (c0_1 : Nat) (l0_1 : List (S69)) (r1 : List (List Int)) (r2 : Int) (w : World) (hr0_1 : Kd.C k69 w A0_1 l0_1.length l0_1) (hc0_1 : l0_1.length ≤ c0_1) (h : dag_Paths.f k a0_0 l0_1 = some (r1, r2)) :
  Calls Try.prog 21 #[.agg #[.int .i64 a0_0, .slice A0_1 l0_1.length c0_1]] w fun e w' => ∃ v0_ : Value, e = .returned (.tuple #[v0_, .int .i64 r2]) ∧ Kd.S (Kd.slice 3 (Kd.int .i64)) 25 w' w.heap.size (fun _ => True) v0_ r1 ∧ Below w.heap.size w w' := by
 have hu24 := Try.underlying24
 have hu71 := Try.underlying71
 have hu2 := Try.underlying2
 have hu34 := Try.underlying34
 have hu25 := Try.underlying25
 have hu74 := Try.underlying74
 have HR0_1 := Aside0.mk hr0_1
 have HC0_1 := Aside0.mk hc0_1
 clear hr0_1 hc0_1
 have HB := Aside0.mk (Below.refl w.heap.size w)
 have H : ((dag_Valid.f k a0_0 l0_1).bind fun t163 => (if t163 = 0 then ((dag_ways.f k a0_0 l0_1).bind fun t164 => (if 0 < (t164.length : Int) then (if (rd t164 0) > 2000 then (some (([] : List (List Int)), 3)) else ((dag_byFrom.f k a0_0 l0_1).bind fun t169 => (if (rd t164 0) > 0 then ((dag_Paths_1_mc.f k 0 a0_0 l0_1 ([] : List (List Int)) ([] : List Int) t169 t164).bind fun bt177 => (some (bt177.1, 0))) else (some (([] : List (List Int)), 0))))) else (none))) else (some (([] : List (List Int)), t163)))) = some (r1, r2) := h
 clear h
 replace H := Option.bind_eq_some_iff.mp H
 obtain ⟨t163, A20, H⟩ := H
 replace H : (if t163 = 0 then ((dag_ways.f k a0_0 l0_1).bind fun t164 => (if 0 < (t164.length : Int) then (if (rd t164 0) > 2000 then (some (([] : List (List Int)), 3)) else ((dag_byFrom.f k a0_0 l0_1).bind fun t169 => (if (rd t164 0) > 0 then ((dag_Paths_1_mc.f k 0 a0_0 l0_1 ([] : List (List Int)) ([] : List Int) t169 t164).bind fun bt177 => (some (bt177.1, 0))) else (some (([] : List (List Int)), 0))))) else (none))) else (some (([] : List (List Int)), t163))) = some (r1, r2) := H
 have A2 := Aside0.mk A20
 clear A20
 have HC3 := Aside0.mk H
 clear H
 go_enter Try.func21, Try.ntmps21
 go_upto_if 13 with (first | ((with_reducible refine gate_dst (N := 1) rfl ?_); refine box_event ?hg (N := 1) ?hd (cs := #[.int .i64 a0_0, .slice A0_1 l0_1.length c0_1]) (t := 24) ?hr ?_; (case hd => rfl); (case hg => rfl); (case hr => first | (go_simp; done) | (go_simp; rfl)); intro gb162 hg w4 hbox hb; have n0_ := Aside0.mk (below_step zB hb); have n1_ := Aside0.mk (hbox); have n2_ := Aside0.mk ((by rw [hg]; exact (below_size zB) : w.heap.size ≤ gb162)); have n3_ := Aside0.mk ((by rw [hg]; exact (below_size zB) : w.heap.size ≤ gb162)); clear HB; have HB := n0_; have BK162 := n1_; have GW162 := n2_; have GE162 := n3_; clear n0_ n1_ n2_ n3_; clear hb hbox hg; have hcz5_0 : w4.cell? ⟨gb162, 0, none⟩ = some (.int .i64 a0_0) := (blk_cell BK162.out 0).trans rfl; have hcz5_1 : w4.cell? ⟨gb162, 1, none⟩ = some (.slice A0_1 l0_1.length c0_1) := (blk_cell BK162.out 1).trans rfl; have hfz5_0 := blk_frozen BK162.out 0; have hfz5_1 := blk_frozen BK162.out 1) | ((with_reducible refine gate_callee (f := 27) rfl ?_); refine goesL_ (some 11) rfl rfl Try.func27 zK rfl #[.agg #[.int .i64 a0_0, .slice A0_1 l0_1.length c0_1]] rfl zM ?_; (with_reducible refine (dag_Valid.calls k a0_0 _ _ l0_1 t163 _ ?side1 ?side2 A2.out).mono ?_); (case side1 => repeat (first | exact (Kd.C_below HR0_1.out HB.out) | (with_reducible refine Kd.C_alloc ?_ _) | (with_reducible refine Kd.C_drewN ?_ _) | (with_reducible refine Kd.C_drew ?_))); (case side2 => exact HC0_1.out); rintro e w6 ⟨rfl, hb⟩; refine ⟨_, rfl, ?_⟩; have n0_ := Aside0.mk (blk_below (g := gb162) (o := .cells #[.int .i64 a0_0, .slice A0_1 l0_1.length c0_1] 24 (0, 0)) (zk BK162) hb); have n1_ := Aside0.mk (below_step zB hb); clear BK162; clear HB; have BK162 := n0_; have HB := n1_; clear n0_ n1_; (try clear hb); (try clear hb2); (try clear hk); (try clear hi)))
 (try simp only [Act.put, List.setIfInBounds_toArray, List.set_cons_zero, List.set_cons_succ])
 have H := HC3.out
 clear HC3
 by_cases c7 : t163 = 0
 ·rw [if_pos c7] at H
  have c7b0 : (t163 == 0) = true := beq_iff_eq.mpr c7
  have c7b1 : (t163 != 0) = false := bne_eq_false_iff_eq.mpr c7
  clear c7
  (first | rw [c7b0] | (simp only [i64_w, i32_w]; rw [c7b0]) | skip)
  (try rw [c7b1])
  replace H := Option.bind_eq_some_iff.mp H
  obtain ⟨t164, A80, H⟩ := H
  replace H : (if 0 < (t164.length : Int) then (if (rd t164 0) > 2000 then (some (([] : List (List Int)), 3)) else ((dag_byFrom.f k a0_0 l0_1).bind fun t169 => (if (rd t164 0) > 0 then ((dag_Paths_1_mc.f k 0 a0_0 l0_1 ([] : List (List Int)) ([] : List Int) t169 t164).bind fun bt177 => (some (bt177.1, 0))) else (some (([] : List (List Int)), 0))))) else (none)) = some (r1, r2) := H
  have A8 := Aside0.mk A80
  clear A80
  by_cases c9 : 0 < (t164.length : Int)
  ·rw [if_pos c9] at H
   have c9b0 : decide (0 < (t164.length : Int)) = true := decide_eq_true c9
   have c9b1 : decide (0 < t164.length) = true := decide_eq_true (by omega)
   clear c9
   have HC10 := Aside0.mk H
   clear H
   have hcz11_0 : w6.cell? ⟨gb162, 0, none⟩ = some (.int .i64 a0_0) := (blk_cell BK162.out 0).trans rfl
   have hcz11_1 : w6.cell? ⟨gb162, 1, none⟩ = some (.slice A0_1 l0_1.length c0_1) := (blk_cell BK162.out 1).trans rfl
   have hfz11_0 := blk_frozen BK162.out 0
   have hfz11_1 := blk_frozen BK162.out 1
   go_upto_if 20 with (first | ((with_reducible refine gate_callee (f := 56) rfl ?_); refine goesL_ (some 16) rfl rfl Try.func56 zK rfl #[.agg #[.int .i64 a0_0, .slice A0_1 l0_1.length c0_1]] rfl zM ?_; (with_reducible refine (dag_ways.calls k a0_0 _ _ l0_1 t164 _ ?side1 ?side2 A8.out).mono ?_); (case side1 => repeat (first | exact (Kd.C_below HR0_1.out HB.out) | (with_reducible refine Kd.C_alloc ?_ _) | (with_reducible refine Kd.C_drewN ?_ _) | (with_reducible refine Kd.C_drew ?_))); (case side2 => exact HC0_1.out); rintro e w12 ⟨v165, rfl, ho0, hb⟩; refine ⟨_, rfl, ?_⟩; have n0_ := Aside0.mk (Kd.R_lower ho0 (below_size zB)); have n1_ := Aside0.mk (blk_below (g := gb162) (o := .cells #[.int .i64 a0_0, .slice A0_1 l0_1.length c0_1] 24 (0, 0)) (zk BK162) hb); have n2_ := Aside0.mk (below_step zB hb); clear BK162; clear HB; have HO166 := n0_; have BK162 := n1_; have HB := n2_; clear n0_ n1_ n2_; (try clear hb); (try clear hb2); (try clear hk); (try clear hi); (try clear ho0)) | ((with_reducible refine gate_dst (N := 5) rfl ?_); refine box_event ?hg (N := 5) ?hd (cs := #[.slice none 0 0]) (t := 71) ?hr ?_; (case hd => rfl); (case hg => rfl); (case hr => first | (go_simp; done) | (go_simp; rfl)); intro gb167 hg w13 hbox hb; have n0_ := Aside0.mk (Kd.R_below (Kd.R_elderLt (zR HO166) gb167 (Nat.le_of_eq hg.symm)) hb); have n1_ := Aside0.mk (blk_below (g := gb162) (o := .cells #[.int .i64 a0_0, .slice A0_1 l0_1.length c0_1] 24 (0, 0)) (zk BK162) hb); have n2_ := Aside0.mk (below_step zB hb); have n3_ := Aside0.mk (hbox); have n4_ := Aside0.mk ((by rw [hg]; exact (below_size zB) : w.heap.size ≤ gb167)); have n5_ := Aside0.mk ((by rw [hg]; exact (below_size zB) : w.heap.size ≤ gb167)); have n6_ := Aside0.mk ((by rw [hg]; exact blk_lt (g := gb162) (o := .cells #[.int .i64 a0_0, .slice A0_1 l0_1.length c0_1] 24 (0, 0)) (zk BK162) : gb162 < gb167)); have n7_ := Aside0.mk ((by rw [hg]; exact Nat.ne_of_lt (blk_lt (g := gb162) (o := .cells #[.int .i64 a0_0, .slice A0_1 l0_1.length c0_1] 24 (0, 0)) (zk BK162)) : gb162 ≠ gb167)); have n8_ := Aside0.mk ((by rw [hg]; exact Nat.ne_of_gt (blk_lt (g := gb162) (o := .cells #[.int .i64 a0_0, .slice A0_1 l0_1.length c0_1] 24 (0, 0)) (zk BK162)) : gb167 ≠ gb162)); clear HO166; clear BK162; clear HB; have HO166 := n0_; have BK162 := n1_; have HB := n2_; have BK167 := n3_; have GW167 := n4_; have GE167 := n5_; have LB162_167 := n6_; have NB162_167 := n7_; have NB167_162 := n8_; clear n0_ n1_ n2_ n3_ n4_ n5_ n6_ n7_ n8_; clear hb hbox hg; obtain ⟨Ao14, co14, eo14⟩ := Kd.R_slice HO166.out; subst eo14; have hnb15 := NB167_162.out; have hnc15 := NB162_167.out; have hcz16_0 : w13.cell? ⟨gb167, 0, none⟩ = some (.slice none 0 0) := (blk_cell BK167.out 0).trans rfl; have hfz16_0 := blk_frozen BK167.out 0; have p168 : 0 ≤ (0 : Int) := (by omega); have q168 : 0 < (t164.length : Int) := of_decide_eq_true zh; obtain ⟨ad168, e168, hx168_0⟩ := Kd.at_int (Kd.R_reads' HO166.out).2.2 0 p168 q168; cases e168; have qi168 : (0 < t164.length) = True := eq_true (by omega); (try rw [show ((0 : Int)).toNat = 0 from rfl] at hx168_0); (try rw [Addr.add_zero'] at hx168_0); have hn168_0 : ad168.block ≠ gb167 := Kd.own_blk (Kd.R_ne HO166.out BK167.out (by decide)); replace hx168_0 := (cell_far (p := ⟨gb167, 0, none⟩) (by first | (rw [add_block]; exact hn168_0) | (show (Addr.add _ _).block ≠ _; rw [add_block]; exact hn168_0) | exact hn168_0) (.slice (some ad168) t164.length co14)).trans hx168_0; clear hn168_0; replace p168 := eq_true p168; replace q168 := eq_true q168))
   (try simp only [Act.put, List.setIfInBounds_toArray, List.set_cons_zero, List.set_cons_succ])
   have H := HC10.out
   clear HC10
   by_cases c17 : (rd t164 0) > 2000
   ·rw [if_pos c17] at H
    have c17b0 : decide (2000 < (rd t164 0)) = true := decide_eq_true c17
    clear c17
    (first | rw [c17b0] | (simp only [i64_w, i32_w]; rw [c17b0]) | skip)
    simp only [Option.some.injEq, Prod.mk.injEq] at H
    obtain ⟨rfl, rfl⟩ := H
    go_wp2
    go_ret2
    exact ⟨_, by first | rfl | (simp [errW_none, errW_some] <;> rfl) | (simp [*, errW_none, errW_some] <;> rfl), by first | exact Kd.S_nil _ _ _ _ _ | exact Kd.N_nil _ _ _ _ _ | exact Kd.V_nil _ _ _ _ _ | exact Kd.Q_nil _ _ _ _ _ | exact Kd.R_nil _ _ _ _ _, by repeat (first | (with_reducible first | exact HB.out | apply below_alloc | apply pw_below_drewN | apply below_drew1 | refine below_set ?_ GE162.out | refine below_set ?_ GE167.out) | exact HB.out)⟩
   ·rw [if_neg c17] at H
    have c17b0 : decide (2000 < (rd t164 0)) = false := decide_eq_false c17
    clear c17
    (first | rw [c17b0] | (simp only [i64_w, i32_w]; rw [c17b0]) | skip)
    replace H := Option.bind_eq_some_iff.mp H
    obtain ⟨t169, A180, H⟩ := H
    replace H : (if (rd t164 0) > 0 then ((dag_Paths_1_mc.f k 0 a0_0 l0_1 ([] : List (List Int)) ([] : List Int) t169 t164).bind fun bt177 => (some (bt177.1, 0))) else (some (([] : List (List Int)), 0))) = some (r1, r2) := H
    have A18 := Aside0.mk A180
    clear A180
    have HC19 := Aside0.mk H
    clear H
    have hnb20 := NB162_167.out
    have hnc20 := NB167_162.out
    have hcz21_0 : w13.cell? ⟨gb162, 0, none⟩ = some (.int .i64 a0_0) := (blk_cell BK162.out 0).trans rfl
    have hcz21_1 : w13.cell? ⟨gb162, 1, none⟩ = some (.slice A0_1 l0_1.length c0_1) := (blk_cell BK162.out 1).trans rfl
    have hfz21_0 := blk_frozen BK162.out 0
    have hfz21_1 := blk_frozen BK162.out 1
    go_upto_if 27 with (first | ((with_reducible refine gate_callee (f := 58) rfl ?_); refine goesL_ (some 22) rfl rfl Try.func58 zK rfl #[.agg #[.int .i64 a0_0, .slice A0_1 l0_1.length c0_1]] rfl zM ?_; (with_reducible refine (dag_byFrom.calls k a0_0 _ _ l0_1 t169 _ ?side1 ?side2 A18.out).mono ?_); (case side1 => exact Kd.C_below HR0_1.out zB); (case side2 => exact HC0_1.out); rintro e w22 ⟨v170, rfl, ho0, hb⟩; refine ⟨_, rfl, ?_⟩; have n0_ := Aside0.mk (Kd.R_below (by (with_reducible repeat (first | apply Kd.R_alloc | apply Kd.R_drewN | apply Kd.R_drew)); exact (Kd.R_mono (Kd.R_far (p := ⟨gb167, 0, none⟩) (Kd.R_types HO166.out BK167.out (by decide)) (fun _ hk => hk.2) (.slice (some ad168) t164.length co14)) (fun _ h_ => h_.1))) hb); have n1_ := Aside0.mk (Kd.S_lower ho0 (below_size zB)); have n2_ := Aside0.mk (blk_below (g := gb162) (o := .cells #[.int .i64 a0_0, .slice A0_1 l0_1.length c0_1] 24 (0, 0)) (by (with_reducible repeat (first | refine blk_drewN ?_ _ | refine blk_drew ?_ | refine blk_alloc ?_ _)); refine blk_far ?_ NB162_167.out _; (with_reducible repeat (first | refine blk_drewN ?_ _ | refine blk_drew ?_ | refine blk_alloc ?_ _)); exact BK162.out) hb); have n3_ := Aside0.mk (blk_below (g := gb167) (o := .cells #[.slice (some ad168) t164.length co14] 71 (0, 0)) (by (with_reducible repeat (first | refine blk_drewN ?_ _ | refine blk_drew ?_ | refine blk_alloc ?_ _)); refine blk_put (cs := #[.slice none 0 0]) ?_ 0 _ rfl; (with_reducible repeat (first | refine blk_drewN ?_ _ | refine blk_drew ?_ | refine blk_alloc ?_ _)); exact BK167.out) hb); have n4_ := Aside0.mk (below_step zB hb); clear HO166; clear BK162; clear BK167; clear HB; have HO166 := n0_; have HO171 := n1_; have BK162 := n2_; have BK167 := n3_; have HB := n4_; clear n0_ n1_ n2_ n3_ n4_; (try clear hb); (try clear hb2); (try clear hk); (try clear hi); (try clear ho0)) | ((with_reducible refine gate_dst (N := 6) rfl ?_); refine box_event ?hg (N := 6) ?hd (cs := #[.slice none 0 0]) (t := 34) ?hr ?_; (case hd => rfl); (case hg => rfl); (case hr => first | (go_simp; done) | (go_simp; rfl)); intro gb172 hg w23 hbox hb; have n0_ := Aside0.mk (Kd.R_below (Kd.R_elderLt (zR HO166) gb172 (Nat.le_of_eq hg.symm)) hb); have n1_ := Aside0.mk (Kd.S_below (Kd.S_elderLt (zS HO171) gb172 (Nat.le_of_eq hg.symm)) hb); have n2_ := Aside0.mk (blk_below (g := gb162) (o := .cells #[.int .i64 a0_0, .slice A0_1 l0_1.length c0_1] 24 (0, 0)) (zk BK162) hb); have n3_ := Aside0.mk (blk_below (g := gb167) (o := .cells #[.slice (some ad168) t164.length co14] 71 (0, 0)) (zk BK167) hb); have n4_ := Aside0.mk (below_step zB hb); have n5_ := Aside0.mk (hbox); have n6_ := Aside0.mk ((by rw [hg]; exact (below_size zB) : w.heap.size ≤ gb172)); have n7_ := Aside0.mk ((by rw [hg]; exact (below_size zB) : w.heap.size ≤ gb172)); have n8_ := Aside0.mk ((by rw [hg]; exact blk_lt (g := gb162) (o := .cells #[.int .i64 a0_0, .slice A0_1 l0_1.length c0_1] 24 (0, 0)) (zk BK162) : gb162 < gb172)); have n9_ := Aside0.mk ((by rw [hg]; exact blk_lt (g := gb167) (o := .cells #[.slice (some ad168) t164.length co14] 71 (0, 0)) (zk BK167) : gb167 < gb172)); have n10_ := Aside0.mk ((by rw [hg]; exact Nat.ne_of_lt (blk_lt (g := gb162) (o := .cells #[.int .i64 a0_0, .slice A0_1 l0_1.length c0_1] 24 (0, 0)) (zk BK162)) : gb162 ≠ gb172)); have n11_ := Aside0.mk ((by rw [hg]; exact Nat.ne_of_gt (blk_lt (g := gb162) (o := .cells #[.int .i64 a0_0, .slice A0_1 l0_1.length c0_1] 24 (0, 0)) (zk BK162)) : gb172 ≠ gb162)); have n12_ := Aside0.mk ((by rw [hg]; exact Nat.ne_of_lt (blk_lt (g := gb167) (o := .cells #[.slice (some ad168) t164.length co14] 71 (0, 0)) (zk BK167)) : gb167 ≠ gb172)); have n13_ := Aside0.mk ((by rw [hg]; exact Nat.ne_of_gt (blk_lt (g := gb167) (o := .cells #[.slice (some ad168) t164.length co14] 71 (0, 0)) (zk BK167)) : gb172 ≠ gb167)); clear HO166; clear HO171; clear BK162; clear BK167; clear HB; have HO166 := n0_; have HO171 := n1_; have BK162 := n2_; have BK167 := n3_; have HB := n4_; have BK172 := n5_; have GW172 := n6_; have GE172 := n7_; have LB162_172 := n8_; have LB167_172 := n9_; have NB162_172 := n10_; have NB172_162 := n11_; have NB167_172 := n12_; have NB172_167 := n13_; clear n0_ n1_ n2_ n3_ n4_ n5_ n6_ n7_ n8_ n9_ n10_ n11_ n12_ n13_; clear hb hbox hg; obtain ⟨Ao24, co24, eo24⟩ := Kd.S_slice HO171.out; subst eo24; have hnb25 := NB172_162.out; have hnc25 := NB162_172.out; have hnb26 := NB172_167.out; have hnc26 := NB167_172.out; have hcz27_0 : w23.cell? ⟨gb172, 0, none⟩ = some (.slice none 0 0) := (blk_cell BK172.out 0).trans rfl; have hfz27_0 := blk_frozen BK172.out 0) | ((with_reducible refine gate_dst (N := 7) rfl ?_); refine box_event ?hg (N := 7) ?hd (cs := #[.slice none 0 0]) (t := 34) ?hr ?_; (case hd => rfl); (case hg => rfl); (case hr => first | (go_simp; done) | (go_simp; rfl)); intro gb173 hg w28 hbox hb; have n0_ := Aside0.mk (Kd.R_below (Kd.R_elderLt (by (with_reducible repeat (first | apply Kd.R_alloc | apply Kd.R_drewN | apply Kd.R_drew)); exact (Kd.R_mono (Kd.R_far (p := ⟨gb172, 0, none⟩) (Kd.R_types HO166.out BK172.out (by decide)) (fun _ hk => hk.2) (.slice Ao24 t169.length co24)) (fun _ h_ => h_.1))) gb173 (Nat.le_of_eq hg.symm)) hb); have n1_ := Aside0.mk (Kd.S_below (Kd.S_elderLt (by (with_reducible repeat (first | apply Kd.S_alloc | apply Kd.S_drewN | apply Kd.S_drew)); exact (Kd.S_mono (Kd.S_far (p := ⟨gb172, 0, none⟩) (Kd.S_types HO171.out BK172.out (by decide)) (fun _ hk => hk.2) (.slice Ao24 t169.length co24)) (fun _ h_ => h_.1))) gb173 (Nat.le_of_eq hg.symm)) hb); have n2_ := Aside0.mk (blk_below (g := gb162) (o := .cells #[.int .i64 a0_0, .slice A0_1 l0_1.length c0_1] 24 (0, 0)) (by (with_reducible repeat (first | refine blk_drewN ?_ _ | refine blk_drew ?_ | refine blk_alloc ?_ _)); refine blk_far ?_ NB162_172.out _; (with_reducible repeat (first | refine blk_drewN ?_ _ | refine blk_drew ?_ | refine blk_alloc ?_ _)); exact BK162.out) hb); have n3_ := Aside0.mk (blk_below (g := gb167) (o := .cells #[.slice (some ad168) t164.length co14] 71 (0, 0)) (by (with_reducible repeat (first | refine blk_drewN ?_ _ | refine blk_drew ?_ | refine blk_alloc ?_ _)); refine blk_far ?_ NB167_172.out _; (with_reducible repeat (first | refine blk_drewN ?_ _ | refine blk_drew ?_ | refine blk_alloc ?_ _)); exact BK167.out) hb); have n4_ := Aside0.mk (blk_below (g := gb172) (o := .cells #[.slice Ao24 t169.length co24] 34 (0, 0)) (by (with_reducible repeat (first | refine blk_drewN ?_ _ | refine blk_drew ?_ | refine blk_alloc ?_ _)); refine blk_put (cs := #[.slice none 0 0]) ?_ 0 _ rfl; (with_reducible repeat (first | refine blk_drewN ?_ _ | refine blk_drew ?_ | refine blk_alloc ?_ _)); exact BK172.out) hb); have n5_ := Aside0.mk (below_step zB hb); have n6_ := Aside0.mk (hbox); have n7_ := Aside0.mk ((by rw [hg]; exact (below_size zB) : w.heap.size ≤ gb173)); have n8_ := Aside0.mk ((by rw [hg]; exact (below_size zB) : w.heap.size ≤ gb173)); have n9_ := Aside0.mk ((by rw [hg]; exact blk_lt (g := gb162) (o := .cells #[.int .i64 a0_0, .slice A0_1 l0_1.length c0_1] 24 (0, 0)) (by (with_reducible repeat (first | refine blk_drewN ?_ _ | refine blk_drew ?_ | refine blk_alloc ?_ _)); refine blk_far ?_ NB162_172.out _; (with_reducible repeat (first | refine blk_drewN ?_ _ | refine blk_drew ?_ | refine blk_alloc ?_ _)); exact BK162.out) : gb162 < gb173)); have n10_ := Aside0.mk ((by rw [hg]; exact blk_lt (g := gb167) (o := .cells #[.slice (some ad168) t164.length co14] 71 (0, 0)) (by (with_reducible repeat (first | refine blk_drewN ?_ _ | refine blk_drew ?_ | refine blk_alloc ?_ _)); refine blk_far ?_ NB167_172.out _; (with_reducible repeat (first | refine blk_drewN ?_ _ | refine blk_drew ?_ | refine blk_alloc ?_ _)); exact BK167.out) : gb167 < gb173)); have n11_ := Aside0.mk ((by rw [hg]; exact blk_lt (g := gb172) (o := .cells #[.slice Ao24 t169.length co24] 34 (0, 0)) (by (with_reducible repeat (first | refine blk_drewN ?_ _ | refine blk_drew ?_ | refine blk_alloc ?_ _)); refine blk_put (cs := #[.slice none 0 0]) ?_ 0 _ rfl; (with_reducible repeat (first | refine blk_drewN ?_ _ | refine blk_drew ?_ | refine blk_alloc ?_ _)); exact BK172.out) : gb172 < gb173)); have n12_ := Aside0.mk ((by rw [hg]; exact Nat.ne_of_lt (blk_lt (g := gb162) (o := .cells #[.int .i64 a0_0, .slice A0_1 l0_1.length c0_1] 24 (0, 0)) (by (with_reducible repeat (first | refine blk_drewN ?_ _ | refine blk_drew ?_ | refine blk_alloc ?_ _)); refine blk_far ?_ NB162_172.out _; (with_reducible repeat (first | refine blk_drewN ?_ _ | refine blk_drew ?_ | refine blk_alloc ?_ _)); exact BK162.out)) : gb162 ≠ gb173)); have n13_ := Aside0.mk ((by rw [hg]; exact Nat.ne_of_gt (blk_lt (g := gb162) (o := .cells #[.int .i64 a0_0, .slice A0_1 l0_1.length c0_1] 24 (0, 0)) (by (with_reducible repeat (first | refine blk_drewN ?_ _ | refine blk_drew ?_ | refine blk_alloc ?_ _)); refine blk_far ?_ NB162_172.out _; (with_reducible repeat (first | refine blk_drewN ?_ _ | refine blk_drew ?_ | refine blk_alloc ?_ _)); exact BK162.out)) : gb173 ≠ gb162)); have n14_ := Aside0.mk ((by rw [hg]; exact Nat.ne_of_lt (blk_lt (g := gb167) (o := .cells #[.slice (some ad168) t164.length co14] 71 (0, 0)) (by (with_reducible repeat (first | refine blk_drewN ?_ _ | refine blk_drew ?_ | refine blk_alloc ?_ _)); refine blk_far ?_ NB167_172.out _; (with_reducible repeat (first | refine blk_drewN ?_ _ | refine blk_drew ?_ | refine blk_alloc ?_ _)); exact BK167.out)) : gb167 ≠ gb173)); have n15_ := Aside0.mk ((by rw [hg]; exact Nat.ne_of_gt (blk_lt (g := gb167) (o := .cells #[.slice (some ad168) t164.length co14] 71 (0, 0)) (by (with_reducible repeat (first | refine blk_drewN ?_ _ | refine blk_drew ?_ | refine blk_alloc ?_ _)); refine blk_far ?_ NB167_172.out _; (with_reducible repeat (first | refine blk_drewN ?_ _ | refine blk_drew ?_ | refine blk_alloc ?_ _)); exact BK167.out)) : gb173 ≠ gb167)); have n16_ := Aside0.mk ((by rw [hg]; exact Nat.ne_of_lt (blk_lt (g := gb172) (o := .cells #[.slice Ao24 t169.length co24] 34 (0, 0)) (by (with_reducible repeat (first | refine blk_drewN ?_ _ | refine blk_drew ?_ | refine blk_alloc ?_ _)); refine blk_put (cs := #[.slice none 0 0]) ?_ 0 _ rfl; (with_reducible repeat (first | refine blk_drewN ?_ _ | refine blk_drew ?_ | refine blk_alloc ?_ _)); exact BK172.out)) : gb172 ≠ gb173)); have n17_ := Aside0.mk ((by rw [hg]; exact Nat.ne_of_gt (blk_lt (g := gb172) (o := .cells #[.slice Ao24 t169.length co24] 34 (0, 0)) (by (with_reducible repeat (first | refine blk_drewN ?_ _ | refine blk_drew ?_ | refine blk_alloc ?_ _)); refine blk_put (cs := #[.slice none 0 0]) ?_ 0 _ rfl; (with_reducible repeat (first | refine blk_drewN ?_ _ | refine blk_drew ?_ | refine blk_alloc ?_ _)); exact BK172.out)) : gb173 ≠ gb172)); clear HO166; clear HO171; clear BK162; clear BK167; clear BK172; clear HB; have HO166 := n0_; have HO171 := n1_; have BK162 := n2_; have BK167 := n3_; have BK172 := n4_; have HB := n5_; have BK173 := n6_; have GW173 := n7_; have GE173 := n8_; have LB162_173 := n9_; have LB167_173 := n10_; have LB172_173 := n11_; have NB162_173 := n12_; have NB173_162 := n13_; have NB167_173 := n14_; have NB173_167 := n15_; have NB172_173 := n16_; have NB173_172 := n17_; clear n0_ n1_ n2_ n3_ n4_ n5_ n6_ n7_ n8_ n9_ n10_ n11_ n12_ n13_ n14_ n15_ n16_ n17_; clear hb hbox hg) | ((with_reducible refine gate_dst (N := 8) rfl ?_); refine box_event ?hg (N := 8) ?hd (cs := #[.slice none 0 0]) (t := 25) ?hr ?_; (case hd => rfl); (case hg => rfl); (case hr => first | (go_simp; done) | (go_simp; rfl)); intro gb174 hg w29 hbox hb; have n0_ := Aside0.mk (Kd.R_below (Kd.R_elderLt (zR HO166) gb174 (Nat.le_of_eq hg.symm)) hb); have n1_ := Aside0.mk (Kd.S_below (Kd.S_elderLt (Kd.S_elderB (zS HO171) gb174 (Nat.le_of_eq hg.symm)) gb174 (Nat.le_of_eq hg.symm)) hb); have n2_ := Aside0.mk (blk_below (g := gb162) (o := .cells #[.int .i64 a0_0, .slice A0_1 l0_1.length c0_1] 24 (0, 0)) (zk BK162) hb); have n3_ := Aside0.mk (blk_below (g := gb167) (o := .cells #[.slice (some ad168) t164.length co14] 71 (0, 0)) (zk BK167) hb); have n4_ := Aside0.mk (blk_below (g := gb172) (o := .cells #[.slice Ao24 t169.length co24] 34 (0, 0)) (zk BK172) hb); have n5_ := Aside0.mk (blk_below (g := gb173) (o := .cells #[.slice none 0 0] 34 (0, 0)) (zk BK173) hb); have n6_ := Aside0.mk (below_step zB hb); have n7_ := Aside0.mk (hbox); have n8_ := Aside0.mk ((by rw [hg]; exact (below_size zB) : w.heap.size ≤ gb174)); have n9_ := Aside0.mk ((by rw [hg]; exact (below_size zB) : w.heap.size ≤ gb174)); have n10_ := Aside0.mk ((by rw [hg]; exact blk_lt (g := gb162) (o := .cells #[.int .i64 a0_0, .slice A0_1 l0_1.length c0_1] 24 (0, 0)) (zk BK162) : gb162 < gb174)); have n11_ := Aside0.mk ((by rw [hg]; exact blk_lt (g := gb167) (o := .cells #[.slice (some ad168) t164.length co14] 71 (0, 0)) (zk BK167) : gb167 < gb174)); have n12_ := Aside0.mk ((by rw [hg]; exact blk_lt (g := gb172) (o := .cells #[.slice Ao24 t169.length co24] 34 (0, 0)) (zk BK172) : gb172 < gb174)); have n13_ := Aside0.mk ((by rw [hg]; exact blk_lt (g := gb173) (o := .cells #[.slice none 0 0] 34 (0, 0)) (zk BK173) : gb173 < gb174)); have n14_ := Aside0.mk ((by rw [hg]; exact Nat.ne_of_lt (blk_lt (g := gb162) (o := .cells #[.int .i64 a0_0, .slice A0_1 l0_1.length c0_1] 24 (0, 0)) (zk BK162)) : gb162 ≠ gb174)); have n15_ := Aside0.mk ((by rw [hg]; exact Nat.ne_of_gt (blk_lt (g := gb162) (o := .cells #[.int .i64 a0_0, .slice A0_1 l0_1.length c0_1] 24 (0, 0)) (zk BK162)) : gb174 ≠ gb162)); have n16_ := Aside0.mk ((by rw [hg]; exact Nat.ne_of_lt (blk_lt (g := gb167) (o := .cells #[.slice (some ad168) t164.length co14] 71 (0, 0)) (zk BK167)) : gb167 ≠ gb174)); have n17_ := Aside0.mk ((by rw [hg]; exact Nat.ne_of_gt (blk_lt (g := gb167) (o := .cells #[.slice (some ad168) t164.length co14] 71 (0, 0)) (zk BK167)) : gb174 ≠ gb167)); have n18_ := Aside0.mk ((by rw [hg]; exact Nat.ne_of_lt (blk_lt (g := gb172) (o := .cells #[.slice Ao24 t169.length co24] 34 (0, 0)) (zk BK172)) : gb172 ≠ gb174)); have n19_ := Aside0.mk ((by rw [hg]; exact Nat.ne_of_gt (blk_lt (g := gb172) (o := .cells #[.slice Ao24 t169.length co24] 34 (0, 0)) (zk BK172)) : gb174 ≠ gb172)); have n20_ := Aside0.mk ((by rw [hg]; exact Nat.ne_of_lt (blk_lt (g := gb173) (o := .cells #[.slice none 0 0] 34 (0, 0)) (zk BK173)) : gb173 ≠ gb174)); have n21_ := Aside0.mk ((by rw [hg]; exact Nat.ne_of_gt (blk_lt (g := gb173) (o := .cells #[.slice none 0 0] 34 (0, 0)) (zk BK173)) : gb174 ≠ gb173)); clear HO166; clear HO171; clear BK162; clear BK167; clear BK172; clear BK173; clear HB; have HO166 := n0_; have HO171 := n1_; have BK162 := n2_; have BK167 := n3_; have BK172 := n4_; have BK173 := n5_; have HB := n6_; have BK174 := n7_; have GW174 := n8_; have GE174 := n9_; have LB162_174 := n10_; have LB167_174 := n11_; have LB172_174 := n12_; have LB173_174 := n13_; have NB162_174 := n14_; have NB174_162 := n15_; have NB167_174 := n16_; have NB174_167 := n17_; have NB172_174 := n18_; have NB174_172 := n19_; have NB173_174 := n20_; have NB174_173 := n21_; clear n0_ n1_ n2_ n3_ n4_ n5_ n6_ n7_ n8_ n9_ n10_ n11_ n12_ n13_ n14_ n15_ n16_ n17_ n18_ n19_ n20_ n21_; clear hb hbox hg) | ((with_reducible refine gate_dst (N := 9) rfl ?_); refine box_event ?hg (N := 9) ?hd (cs := #[.nilFunc]) (t := 74) ?hr ?_; (case hd => rfl); (case hg => rfl); (case hr => first | (go_simp; done) | (go_simp; rfl)); intro gb175 hg w30 hbox hb; have n0_ := Aside0.mk (Kd.R_below (Kd.R_elderLt (zR HO166) gb175 (Nat.le_of_eq hg.symm)) hb); have n1_ := Aside0.mk (Kd.S_below (Kd.S_elderLt (zS HO171) gb175 (Nat.le_of_eq hg.symm)) hb); have n2_ := Aside0.mk (blk_below (g := gb162) (o := .cells #[.int .i64 a0_0, .slice A0_1 l0_1.length c0_1] 24 (0, 0)) (zk BK162) hb); have n3_ := Aside0.mk (blk_below (g := gb167) (o := .cells #[.slice (some ad168) t164.length co14] 71 (0, 0)) (zk BK167) hb); have n4_ := Aside0.mk (blk_below (g := gb172) (o := .cells #[.slice Ao24 t169.length co24] 34 (0, 0)) (zk BK172) hb); have n5_ := Aside0.mk (blk_below (g := gb173) (o := .cells #[.slice none 0 0] 34 (0, 0)) (zk BK173) hb); have n6_ := Aside0.mk (blk_below (g := gb174) (o := .cells #[.slice none 0 0] 25 (0, 0)) (zk BK174) hb); have n7_ := Aside0.mk (below_step zB hb); have n8_ := Aside0.mk (hbox); have n9_ := Aside0.mk ((by rw [hg]; exact (below_size zB) : w.heap.size ≤ gb175)); have n10_ := Aside0.mk ((by rw [hg]; exact (below_size zB) : w.heap.size ≤ gb175)); have n11_ := Aside0.mk ((by rw [hg]; exact blk_lt (g := gb162) (o := .cells #[.int .i64 a0_0, .slice A0_1 l0_1.length c0_1] 24 (0, 0)) (zk BK162) : gb162 < gb175)); have n12_ := Aside0.mk ((by rw [hg]; exact blk_lt (g := gb167) (o := .cells #[.slice (some ad168) t164.length co14] 71 (0, 0)) (zk BK167) : gb167 < gb175)); have n13_ := Aside0.mk ((by rw [hg]; exact blk_lt (g := gb172) (o := .cells #[.slice Ao24 t169.length co24] 34 (0, 0)) (zk BK172) : gb172 < gb175)); have n14_ := Aside0.mk ((by rw [hg]; exact blk_lt (g := gb173) (o := .cells #[.slice none 0 0] 34 (0, 0)) (zk BK173) : gb173 < gb175)); have n15_ := Aside0.mk ((by rw [hg]; exact blk_lt (g := gb174) (o := .cells #[.slice none 0 0] 25 (0, 0)) (zk BK174) : gb174 < gb175)); have n16_ := Aside0.mk ((by rw [hg]; exact Nat.ne_of_lt (blk_lt (g := gb162) (o := .cells #[.int .i64 a0_0, .slice A0_1 l0_1.length c0_1] 24 (0, 0)) (zk BK162)) : gb162 ≠ gb175)); have n17_ := Aside0.mk ((by rw [hg]; exact Nat.ne_of_gt (blk_lt (g := gb162) (o := .cells #[.int .i64 a0_0, .slice A0_1 l0_1.length c0_1] 24 (0, 0)) (zk BK162)) : gb175 ≠ gb162)); have n18_ := Aside0.mk ((by rw [hg]; exact Nat.ne_of_lt (blk_lt (g := gb167) (o := .cells #[.slice (some ad168) t164.length co14] 71 (0, 0)) (zk BK167)) : gb167 ≠ gb175)); have n19_ := Aside0.mk ((by rw [hg]; exact Nat.ne_of_gt (blk_lt (g := gb167) (o := .cells #[.slice (some ad168) t164.length co14] 71 (0, 0)) (zk BK167)) : gb175 ≠ gb167)); have n20_ := Aside0.mk ((by rw [hg]; exact Nat.ne_of_lt (blk_lt (g := gb172) (o := .cells #[.slice Ao24 t169.length co24] 34 (0, 0)) (zk BK172)) : gb172 ≠ gb175)); have n21_ := Aside0.mk ((by rw [hg]; exact Nat.ne_of_gt (blk_lt (g := gb172) (o := .cells #[.slice Ao24 t169.length co24] 34 (0, 0)) (zk BK172)) : gb175 ≠ gb172)); have n22_ := Aside0.mk ((by rw [hg]; exact Nat.ne_of_lt (blk_lt (g := gb173) (o := .cells #[.slice none 0 0] 34 (0, 0)) (zk BK173)) : gb173 ≠ gb175)); have n23_ := Aside0.mk ((by rw [hg]; exact Nat.ne_of_gt (blk_lt (g := gb173) (o := .cells #[.slice none 0 0] 34 (0, 0)) (zk BK173)) : gb175 ≠ gb173)); have n24_ := Aside0.mk ((by rw [hg]; exact Nat.ne_of_lt (blk_lt (g := gb174) (o := .cells #[.slice none 0 0] 25 (0, 0)) (zk BK174)) : gb174 ≠ gb175)); have n25_ := Aside0.mk ((by rw [hg]; exact Nat.ne_of_gt (blk_lt (g := gb174) (o := .cells #[.slice none 0 0] 25 (0, 0)) (zk BK174)) : gb175 ≠ gb174)); clear HO166; clear HO171; clear BK162; clear BK167; clear BK172; clear BK173; clear BK174; clear HB; have HO166 := n0_; have HO171 := n1_; have BK162 := n2_; have BK167 := n3_; have BK172 := n4_; have BK173 := n5_; have BK174 := n6_; have HB := n7_; have BK175 := n8_; have GW175 := n9_; have GE175 := n10_; have LB162_175 := n11_; have LB167_175 := n12_; have LB172_175 := n13_; have LB173_175 := n14_; have LB174_175 := n15_; have NB162_175 := n16_; have NB175_162 := n17_; have NB167_175 := n18_; have NB175_167 := n19_; have NB172_175 := n20_; have NB175_172 := n21_; have NB173_175 := n22_; have NB175_173 := n23_; have NB174_175 := n24_; have NB175_174 := n25_; clear n0_ n1_ n2_ n3_ n4_ n5_ n6_ n7_ n8_ n9_ n10_ n11_ n12_ n13_ n14_ n15_ n16_ n17_ n18_ n19_ n20_ n21_ n22_ n23_ n24_ n25_; clear hb hbox hg; have hnb31 := NB175_162.out; have hnc31 := NB162_175.out; have hnb32 := NB175_167.out; have hnc32 := NB167_175.out; have hnb33 := NB175_172.out; have hnc33 := NB172_175.out; have hnb34 := NB175_173.out; have hnc34 := NB173_175.out; have hnb35 := NB175_174.out; have hnc35 := NB174_175.out; have hcz36_0 : w30.cell? ⟨gb175, 0, none⟩ = some (.nilFunc) := (blk_cell BK175.out 0).trans rfl; have hfz36_0 := blk_frozen BK175.out 0; have hnb37 := NB167_173.out; have hnc37 := NB173_167.out; have hnb38 := NB167_174.out; have hnc38 := NB174_167.out; have hcz39_0 : w30.cell? ⟨gb167, 0, none⟩ = some (.slice (some ad168) t164.length co14) := (blk_cell BK167.out 0).trans rfl; have hfz39_0 := blk_frozen BK167.out 0; have p176 : 0 ≤ (0 : Int) := (by omega); have q176 : 0 < (t164.length : Int) := of_decide_eq_true zh; obtain ⟨ad176, e176, hx176_0⟩ := Kd.at_int (Kd.R_reads' HO166.out).2.2 0 p176 q176; obtain rfl : ad168 = ad176 := (by injection e176); have qi176 : (0 < t164.length) = True := eq_true (by omega); (try rw [show ((0 : Int)).toNat = 0 from rfl] at hx176_0); (try rw [Addr.add_zero'] at hx176_0); have hn176_0 : ad168.block ≠ gb175 := Kd.own_blk (Kd.R_ne HO166.out BK175.out (by decide)); replace hx176_0 := (cell_far (p := ⟨gb175, 0, none⟩) (by first | (rw [add_block]; exact hn176_0) | (show (Addr.add _ _).block ≠ _; rw [add_block]; exact hn176_0) | exact hn176_0) (.func (.func 59) #[] #[.pointer (some ⟨gb162, 0, none⟩), .pointer (some ⟨gb173, 0, none⟩), .pointer (some ⟨gb174, 0, none⟩), .pointer (some ⟨gb172, 0, none⟩), .pointer (some ⟨gb167, 0, none⟩), .pointer (some ⟨gb175, 0, none⟩)])).trans hx176_0; clear hn176_0; replace p176 := eq_true p176; replace q176 := eq_true q176))
    (try simp only [Act.put, List.setIfInBounds_toArray, List.set_cons_zero, List.set_cons_succ])
    have H := HC19.out
    clear HC19
    by_cases c40 : (rd t164 0) > 0
    ·rw [if_pos c40] at H
     have c40b0 : decide (0 < (rd t164 0)) = true := decide_eq_true c40
     clear c40
     (first | rw [c40b0] | (simp only [i64_w, i32_w]; rw [c40b0]) | skip)
     replace H := Option.bind_eq_some_iff.mp H
     obtain ⟨⟨t177, t180⟩, A410, H⟩ := H
     replace H : (some (t177, 0)) = some (r1, r2) := H
     have A41 := Aside0.mk A410
     clear A410
     simp only [Option.some.injEq, Prod.mk.injEq] at H
     obtain ⟨rfl, rfl⟩ := H
     have hnb42 := NB175_162.out
     have hnc42 := NB162_175.out
     have hnb43 := NB175_167.out
     have hnc43 := NB167_175.out
     have hnb44 := NB175_172.out
     have hnc44 := NB172_175.out
     have hnb45 := NB175_173.out
     have hnc45 := NB173_175.out
     have hnb46 := NB175_174.out
     have hnc46 := NB174_175.out
     have hcz47_0 : w30.cell? ⟨gb175, 0, none⟩ = some (.nilFunc) := (blk_cell BK175.out 0).trans rfl
     have hfz47_0 := blk_frozen BK175.out 0
     go_wp2_with (first | (go_at_call 59; refine cut_enter gb173 ?hm (fun hm_ => ?_); (case hm => exact Nat.le_of_lt (blk_lt (g := gb173) (o := .cells #[.slice none 0 0] 34 (0, 0)) (by (with_reducible repeat (first | refine blk_drewN ?_ _ | refine blk_drew ?_ | refine blk_alloc ?_ _)); refine blk_far ?_ NB173_175.out _; (with_reducible repeat (first | refine blk_drewN ?_ _ | refine blk_drew ?_ | refine blk_alloc ?_ _)); exact BK173.out))); (refine (dag_Paths_1_mc.calls k 0 gb162 a0_0 A0_1 c0_1 l0_1 gb173 (.slice none 0 0) ([] : List (List Int)) gb174 (.slice none 0 0) ([] : List Int) gb172 Ao24 co24 t169 gb167 (some ad168) co14 t164 gb175 t177 t180 (cutW ?W_ gb173) ?W_ ?side1 ?side2 ?side3 ?side4 ?side5 ?side6 ?side7 ?side8 ?side9 A41.out).mono ?_); (case side1 => exact Kd.C_below HR0_1.out (cut_came zB GE173.out hm_)); (case side2 => exact HC0_1.out); (case side3 => exact Kd.cut_F (Kd.S_F (show Kd.S (Kd.slice 3 (Kd.int .i64)) 25 _ w.heap.size (fun k_ => (((((True ∧ k_ < gb172) ∧ k_ < gb173) ∧ k_ ≠ gb174) ∧ k_ < gb174) ∧ k_ < gb175)) (.slice Ao24 t169.length co24) t169 from by (with_reducible repeat (first | apply Kd.S_alloc | apply Kd.S_drewN | apply Kd.S_drew)); exact (Kd.S_mono (Kd.S_far (p := ⟨gb175, 0, none⟩) (Kd.S_types HO171.out BK175.out (by decide)) (fun _ hk => hk.2) (.func (.func 59) #[] #[.pointer (some ⟨gb162, 0, none⟩), .pointer (some ⟨gb173, 0, none⟩), .pointer (some ⟨gb174, 0, none⟩), .pointer (some ⟨gb172, 0, none⟩), .pointer (some ⟨gb167, 0, none⟩), .pointer (some ⟨gb175, 0, none⟩)])) (fun _ h_ => h_.1)))) (fun _ hk => hk.1.1.1.2)); (case side4 => exact (Kd.S_reads' (HO171.out)).2.1); (case side5 => exact Kd.cut_F (Kd.R_F (show Kd.R (Kd.int .i64) 2 _ w.heap.size (fun k_ => (((((True ∧ k_ < gb167) ∧ k_ < gb172) ∧ k_ < gb173) ∧ k_ < gb174) ∧ k_ < gb175)) (.slice (some ad168) t164.length co14) t164 from by (with_reducible repeat (first | apply Kd.R_alloc | apply Kd.R_drewN | apply Kd.R_drew)); exact (Kd.R_mono (Kd.R_far (p := ⟨gb175, 0, none⟩) (Kd.R_types HO166.out BK175.out (by decide)) (fun _ hk => hk.2) (.func (.func 59) #[] #[.pointer (some ⟨gb162, 0, none⟩), .pointer (some ⟨gb173, 0, none⟩), .pointer (some ⟨gb174, 0, none⟩), .pointer (some ⟨gb172, 0, none⟩), .pointer (some ⟨gb167, 0, none⟩), .pointer (some ⟨gb175, 0, none⟩)])) (fun _ h_ => h_.1)))) (fun _ hk => hk.1.1.2)); (case side6 => exact (Kd.R_reads' (HO166.out)).2.1); (case side7 => exact ⟨cut_ge hm_ (Nat.le_refl _), cut_ge hm_ (Nat.le_of_lt LB173_174.out)⟩); (case side8 => exact ⟨NB162_173.out, NB162_174.out, NB162_172.out, NB162_167.out, NB162_175.out, NB173_174.out, NB173_172.out, NB173_167.out, NB173_175.out, NB174_172.out, NB174_167.out, NB174_175.out, NB172_167.out, NB172_175.out, NB167_175.out⟩); (case side9 => exact ⟨by first | exact Kd.S_nil _ _ _ _ _ | exact Kd.N_nil _ _ _ _ _ | exact Kd.V_nil _ _ _ _ _ | exact Kd.Q_nil _ _ _ _ _ | exact Kd.R_nil _ _ _ _ _, by first | exact Kd.R_nil _ _ _ _ _ | exact Kd.N_nil _ _ _ _ _ | exact Kd.V_nil _ _ _ _ _ | exact Kd.Q_nil _ _ _ _ _ | exact Kd.S_nil _ _ _ _ _, by (with_reducible repeat (first | refine blk_drewN ?_ _ | refine blk_drew ?_ | refine blk_alloc ?_ _)); refine blk_far ?_ NB162_175.out _; (with_reducible repeat (first | refine blk_drewN ?_ _ | refine blk_drew ?_ | refine blk_alloc ?_ _)); exact BK162.out, by (with_reducible repeat (first | refine blk_drewN ?_ _ | refine blk_drew ?_ | refine blk_alloc ?_ _)); refine blk_far ?_ NB173_175.out _; (with_reducible repeat (first | refine blk_drewN ?_ _ | refine blk_drew ?_ | refine blk_alloc ?_ _)); exact BK173.out, by (with_reducible repeat (first | refine blk_drewN ?_ _ | refine blk_drew ?_ | refine blk_alloc ?_ _)); refine blk_far ?_ NB174_175.out _; (with_reducible repeat (first | refine blk_drewN ?_ _ | refine blk_drew ?_ | refine blk_alloc ?_ _)); exact BK174.out, by (with_reducible repeat (first | refine blk_drewN ?_ _ | refine blk_drew ?_ | refine blk_alloc ?_ _)); refine blk_far ?_ NB172_175.out _; (with_reducible repeat (first | refine blk_drewN ?_ _ | refine blk_drew ?_ | refine blk_alloc ?_ _)); exact BK172.out, by (with_reducible repeat (first | refine blk_drewN ?_ _ | refine blk_drew ?_ | refine blk_alloc ?_ _)); refine blk_far ?_ NB167_175.out _; (with_reducible repeat (first | refine blk_drewN ?_ _ | refine blk_drew ?_ | refine blk_alloc ?_ _)); exact BK167.out, by (with_reducible repeat (first | refine blk_drewN ?_ _ | refine blk_drew ?_ | refine blk_alloc ?_ _)); refine blk_put (cs := #[.nilFunc]) ?_ 0 _ rfl; (with_reducible repeat (first | refine blk_drewN ?_ _ | refine blk_drew ?_ | refine blk_alloc ?_ _)); exact BK175.out, cut_refl hm_⟩); rintro e w48 ⟨rfl, v178, v181, ho1, ho2, hb0, hb1, hb2, hb3, hb4, hb5, hb⟩; have n0_ := Aside0.mk (Kd.S_lower ho1 (cut_le hm_ GE173.out)); have n1_ := Aside0.mk (Kd.R_lower ho2 (cut_le hm_ GE173.out)); have n2_ := Aside0.mk (hb0); have n3_ := Aside0.mk (hb1); have n4_ := Aside0.mk (hb2); have n5_ := Aside0.mk (hb3); have n6_ := Aside0.mk (hb4); have n7_ := Aside0.mk (hb5); have n8_ := Aside0.mk (Kd.R_step (show Kd.R (Kd.int .i64) 2 _ w.heap.size (fun k_ => (((((True ∧ k_ < gb167) ∧ k_ < gb172) ∧ k_ < gb173) ∧ k_ < gb174) ∧ k_ < gb175)) (.slice (some ad168) t164.length co14) t164 from by (with_reducible repeat (first | apply Kd.R_alloc | apply Kd.R_drewN | apply Kd.R_drew)); exact (Kd.R_mono (Kd.R_far (p := ⟨gb175, 0, none⟩) (Kd.R_types HO166.out BK175.out (by decide)) (fun _ hk => hk.2) (.func (.func 59) #[] #[.pointer (some ⟨gb162, 0, none⟩), .pointer (some ⟨gb173, 0, none⟩), .pointer (some ⟨gb174, 0, none⟩), .pointer (some ⟨gb172, 0, none⟩), .pointer (some ⟨gb167, 0, none⟩), .pointer (some ⟨gb175, 0, none⟩)])) (fun _ h_ => h_.1))) (fun _ hk _ => cut_keep hm_ hb (hk.1.1.2))); have n9_ := Aside0.mk (Kd.S_step (show Kd.S (Kd.slice 3 (Kd.int .i64)) 25 _ w.heap.size (fun k_ => (((((True ∧ k_ < gb172) ∧ k_ < gb173) ∧ k_ ≠ gb174) ∧ k_ < gb174) ∧ k_ < gb175)) (.slice Ao24 t169.length co24) t169 from by (with_reducible repeat (first | apply Kd.S_alloc | apply Kd.S_drewN | apply Kd.S_drew)); exact (Kd.S_mono (Kd.S_far (p := ⟨gb175, 0, none⟩) (Kd.S_types HO171.out BK175.out (by decide)) (fun _ hk => hk.2) (.func (.func 59) #[] #[.pointer (some ⟨gb162, 0, none⟩), .pointer (some ⟨gb173, 0, none⟩), .pointer (some ⟨gb174, 0, none⟩), .pointer (some ⟨gb172, 0, none⟩), .pointer (some ⟨gb167, 0, none⟩), .pointer (some ⟨gb175, 0, none⟩)])) (fun _ h_ => h_.1))) (fun _ hk _ => cut_keep hm_ hb (hk.1.1.1.2))); have n10_ := Aside0.mk (cut_below zB GE173.out hm_ hb); clear BK162; clear BK173; clear BK174; clear BK172; clear BK167; clear BK175; clear HO166; clear HO171; clear HB; have HO179 := n0_; have HO182 := n1_; have BK162 := n2_; have BK173 := n3_; have BK174 := n4_; have BK172 := n5_; have BK167 := n6_; have BK175 := n7_; have HO166 := n8_; have HO171 := n9_; have HB := n10_; clear n0_ n1_ n2_ n3_ n4_ n5_ n6_ n7_ n8_ n9_ n10_; clear hm_ ho1 ho2 hb0 hb1 hb2 hb3 hb4 hb5 hb; have hnb49 := NB173_162.out; have hnc49 := NB162_173.out; have hnb50 := NB173_167.out; have hnc50 := NB167_173.out; have hnb51 := NB173_172.out; have hnc51 := NB172_173.out; have hnb52 := NB173_174.out; have hnc52 := NB174_173.out; have hcz53_0 : w48.cell? ⟨gb173, 0, none⟩ = some (v178) := (blk_cell BK173.out 0).trans rfl; have hfz53_0 := blk_frozen BK173.out 0))
     go_ret2
     exact ⟨_, by first | rfl | (simp [errW_none, errW_some] <;> rfl) | (simp [*, errW_none, errW_some] <;> rfl), by (with_reducible repeat (first | apply Kd.S_alloc | apply Kd.S_drewN | apply Kd.S_drew)); exact Kd.S_mono HO179.out (fun _ hk => trivial), by repeat (first | (with_reducible first | exact HB.out | apply below_alloc | apply pw_below_drewN | apply below_drew1 | refine below_set ?_ GE162.out | refine below_set ?_ GE167.out | refine below_set ?_ GE172.out | refine below_set ?_ GE173.out | refine below_set ?_ GE174.out | refine below_set ?_ GE175.out) | exact HB.out)⟩
    ·rw [if_neg c40] at H
     have c40b0 : decide (0 < (rd t164 0)) = false := decide_eq_false c40
     clear c40
     (first | rw [c40b0] | (simp only [i64_w, i32_w]; rw [c40b0]) | skip)
     simp only [Option.some.injEq, Prod.mk.injEq] at H
     obtain ⟨rfl, rfl⟩ := H
     have hnb54 := NB173_162.out
     have hnc54 := NB162_173.out
     have hnb55 := NB173_167.out
     have hnc55 := NB167_173.out
     have hnb56 := NB173_172.out
     have hnc56 := NB172_173.out
     have hnb57 := NB173_174.out
     have hnc57 := NB174_173.out
     have hnb58 := NB173_175.out
     have hnc58 := NB175_173.out
     have hcz59_0 : w30.cell? ⟨gb173, 0, none⟩ = some (.slice none 0 0) := (blk_cell BK173.out 0).trans rfl
     have hfz59_0 := blk_frozen BK173.out 0
     go_wp2
     go_ret2
     exact ⟨_, by first | rfl | (simp [errW_none, errW_some] <;> rfl) | (simp [*, errW_none, errW_some] <;> rfl), by first | exact Kd.S_nil _ _ _ _ _ | exact Kd.N_nil _ _ _ _ _ | exact Kd.V_nil _ _ _ _ _ | exact Kd.Q_nil _ _ _ _ _ | exact Kd.R_nil _ _ _ _ _, by repeat (first | (with_reducible first | exact HB.out | apply below_alloc | apply pw_below_drewN | apply below_drew1 | refine below_set ?_ GE162.out | refine below_set ?_ GE167.out | refine below_set ?_ GE172.out | refine below_set ?_ GE173.out | refine below_set ?_ GE174.out | refine below_set ?_ GE175.out) | exact HB.out)⟩
  ·rw [if_neg c9] at H
   exact absurd H (by simp)
 ·rw [if_neg c7] at H
  have c7b0 : (t163 == 0) = false := beq_eq_false_iff_ne.mpr c7
  have c7b1 : (t163 != 0) = true := bne_iff_ne.mpr c7
  (first | rw [c7b0] | (simp only [i64_w, i32_w]; rw [c7b0]) | skip)
  (try rw [c7b1])
  simp only [Option.some.injEq, Prod.mk.injEq] at H
  obtain ⟨rfl, rfl⟩ := H
  go_wp2
  go_ret2
  exact ⟨_, by first | rfl | (simp [errW_none, errW_some] <;> rfl) | (simp [*, errW_none, errW_some] <;> rfl), by first | exact Kd.S_nil _ _ _ _ _ | exact Kd.N_nil _ _ _ _ _ | exact Kd.V_nil _ _ _ _ _ | exact Kd.Q_nil _ _ _ _ _ | exact Kd.R_nil _ _ _ _ _, by repeat (first | (with_reducible first | exact HB.out | apply below_alloc | apply pw_below_drewN | apply below_drew1 | refine below_set ?_ GE162.out) | exact HB.out)⟩
/-! ### ancepsref09_Ints: function 62 -/
def ancepsref09_Ints.l0 : Nat → List Int → List Int → Int → Option (Bool)
 | 0, _, _, _ => none
 | k + 1, x0, x1, x5 => if x5 < (x0.length : Int) then (if 0 ≤ x5 then (if x5 < (x1.length : Int) then (if (rd x0 x5) = (rd x1 x5) then (ancepsref09_Ints.l0 k x0 x1 (wrap64 (x5 + 1))) else (some false)) else (none)) else (none)) else (some true)
def ancepsref09_Ints.f (k : Nat) (l0 : List Int) (l1 : List Int) : Option (Bool) := if (l0.length : Int) = (l1.length : Int) then (ancepsref09_Ints.l0 k l0 l1 0) else (some false)
theorem ancepsref09_Ints.mono_l : ∀ k, (∀ y0 y1 y2, LeO (ancepsref09_Ints.l0 k y0 y1 y2) (ancepsref09_Ints.l0 (k + 1) y0 y1 y2))
 | 0 => fun _ _ _ r h => by simp [ancepsref09_Ints.l0] at h
 | k + 1 => by
  have ih0 := ancepsref09_Ints.mono_l k
  ·intro y0 y1 y2
   unfold ancepsref09_Ints.l0
   repeat' first
   | (with_reducible exact ih0 _ _ _)
   | (with_reducible exact LeO.refl _)
   | (with_reducible exact LeO.none _)
   | (with_reducible refine LeO.ite ?_ ?_)
   | (with_reducible refine LeO.bind ?_ (fun _ => ?_))
   | exact ih0 _ _ _
   | exact LeO.none _
   | refine LeO.ite ?_ ?_
   | refine LeO.bind ?_ (fun _ => ?_)
theorem ancepsref09_Ints.mono : ∀ a0 a1 k, LeO (ancepsref09_Ints.f k a0 a1) (ancepsref09_Ints.f (k + 1) a0 a1) := by
 intro a0 a1 k
 have ih0 := ancepsref09_Ints.mono_l k
 unfold ancepsref09_Ints.f
 repeat' first
   | (with_reducible exact ih0 _ _ _)
   | (with_reducible exact LeO.refl _)
   | (with_reducible exact LeO.none _)
   | (with_reducible refine LeO.ite ?_ ?_)
   | (with_reducible refine LeO.bind ?_ (fun _ => ?_))
   | exact ih0 _ _ _
   | exact LeO.none _
   | refine LeO.ite ?_ ?_
   | refine LeO.bind ?_ (fun _ => ?_)
set_option maxHeartbeats 8000000 in
set_option maxRecDepth 100000 in
theorem ancepsref09_Ints.calls (k : Nat) (A0 : Option Addr) (c0 : Nat) (l0 : List Int) (A1 : Option Addr) (c1 : Nat) (l1 : List Int) (r : Bool) (w : World) (hr0 : Kd.C (Kd.int .i64) w A0 l0.length l0) (hc0 : l0.length ≤ c0) (hr1 : Kd.C (Kd.int .i64) w A1 l1.length l1) (hc1 : l1.length ≤ c1) (h : ancepsref09_Ints.f k l0 l1 = some r) :
  Calls Try.prog 62 #[.slice A0 l0.length c0, .slice A1 l1.length c1] w fun e w' => e = .returned (.bool r) ∧ Drawn0 w w' := by
 have hu3 := Try.underlying3
 have HR0 := Aside0.mk hr0
 have HC0 := Aside0.mk hc0
 clear hr0 hc0
 have HR1 := Aside0.mk hr1
 have HC1 := Aside0.mk hc1
 clear hr1 hc1
 have H : (if (l0.length : Int) = (l1.length : Int) then (ancepsref09_Ints.l0 k l0 l1 0) else (some false)) = some r := h
 clear h
 by_cases c3 : (l0.length : Int) = (l1.length : Int)
 ·rw [if_pos c3] at H
  have c3b0 : ((l0.length : Int) == (l1.length : Int)) = true := beq_iff_eq.mpr c3
  have c3b1 : ((l0.length : Int) != (l1.length : Int)) = false := bne_eq_false_iff_eq.mpr c3
  have c3b2 : (l0.length == l1.length) = true := by first | simpa using c3 | (simp at c3 ⊢; omega)
  clear c3
  have H' := Aside0.mk H
  clear H
  go_enter Try.func62, Try.ntmps62
  go_wp2
  repeat (go_quiet (fail); try go_wp2)
  go_loopg [5] k (fun kq v5 w' => ∃ (x5_1 : Int), v5 = .int .i64 x5_1 ∧ Aside0 (ancepsref09_Ints.l0 kq l0 l1 x5_1 = some r) ∧ Aside0 (kq ≤ k) ∧ Drawn0 w w')
  case atStart => exact ⟨(0), zT, H', ⟨Nat.le_refl _⟩, by repeat (first | exact Drawn0.refl _ | apply Drawn0.step)⟩
  case round =>
   clear H'
   try clear c3
   try clear c3b0
   try clear c3b1
   try clear c3b2
   obtain ⟨x5_1, rfl, HA, HK1, ⟨m1, rfl⟩⟩ := hrel
   cases gk with
   | zero => exact absurd HA.out (by simp [ancepsref09_Ints.l0])
   | succ k1 =>
    have H := HA.out
    clear HA
    simp only [ancepsref09_Ints.l0] at H
    by_cases c4 : x5_1 < (l0.length : Int)
    ·rw [if_pos c4] at H
     have c4b0 : decide (x5_1 < (l0.length : Int)) = true := decide_eq_true c4
     clear c4
     by_cases c5 : 0 ≤ x5_1
     ·rw [if_pos c5] at H
      have c5b0 : decide (0 ≤ x5_1) = true := decide_eq_true c5
      clear c5
      by_cases c6 : x5_1 < (l1.length : Int)
      ·rw [if_pos c6] at H
       have c6b0 : decide (x5_1 < (l1.length : Int)) = true := decide_eq_true c6
       clear c6
       by_cases c7 : (rd l0 x5_1) = (rd l1 x5_1)
       ·rw [if_pos c7] at H
        have c7b0 : ((rd l0 x5_1) == (rd l1 x5_1)) = true := beq_iff_eq.mpr c7
        have c7b1 : ((rd l0 x5_1) != (rd l1 x5_1)) = false := bne_eq_false_iff_eq.mpr c7
        clear c7
        have H' := Aside0.mk H
        clear H
        have p183 : 0 ≤ (x5_1 : Int) := of_decide_eq_true zh
        have q183 : x5_1 < (l0.length : Int) := of_decide_eq_true zh
        obtain ⟨ad183, e183, hx183_0⟩ := Kd.at_int HR0.out x5_1 p183 q183
        cases e183
        replace p183 := eq_true p183
        replace q183 := eq_true q183
        have p184 : 0 ≤ (x5_1 : Int) := of_decide_eq_true zh
        have q184 : x5_1 < (l1.length : Int) := of_decide_eq_true zh
        obtain ⟨ad184, e184, hx184_0⟩ := Kd.at_int HR1.out x5_1 p184 q184
        cases e184
        replace p184 := eq_true p184
        replace q184 := eq_true q184
        go_wp2
        repeat (go_quiet (fail); try go_wp2)
        go_roundg k1
        case measure => have := HK1.out; omega
        case rel => exact ⟨(wrap64 (x5_1 + 1)), zT, H', ⟨by have := HK1.out; omega⟩, by repeat (first | exact Drawn0.refl _ | apply Drawn0.step)⟩
       ·rw [if_neg c7] at H
        have c7b0 : ((rd l0 x5_1) == (rd l1 x5_1)) = false := beq_eq_false_iff_ne.mpr c7
        have c7b1 : ((rd l0 x5_1) != (rd l1 x5_1)) = true := bne_iff_ne.mpr c7
        obtain rfl := Option.some.inj H
        have p183 : 0 ≤ (x5_1 : Int) := of_decide_eq_true zh
        have q183 : x5_1 < (l0.length : Int) := of_decide_eq_true zh
        obtain ⟨ad183, e183, hx183_0⟩ := Kd.at_int HR0.out x5_1 p183 q183
        cases e183
        replace p183 := eq_true p183
        replace q183 := eq_true q183
        have p184 : 0 ≤ (x5_1 : Int) := of_decide_eq_true zh
        have q184 : x5_1 < (l1.length : Int) := of_decide_eq_true zh
        obtain ⟨ad184, e184, hx184_0⟩ := Kd.at_int HR1.out x5_1 p184 q184
        cases e184
        replace p184 := eq_true p184
        replace q184 := eq_true q184
        go_wp2
        repeat (go_quiet (fail); try go_wp2)
        go_ret
        exact ⟨by first | rfl | (simp; done) | (simp [*]; done), by repeat (first | exact Drawn0.refl _ | apply Drawn0.step)⟩
      ·rw [if_neg c6] at H
       exact absurd H (by simp)
     ·rw [if_neg c5] at H
      exact absurd H (by simp)
    ·rw [if_neg c4] at H
     have c4b0 : decide (x5_1 < (l0.length : Int)) = false := decide_eq_false c4
     clear c4
     obtain rfl := Option.some.inj H
     go_wp2
     repeat (go_quiet (fail); try go_wp2)
     go_ret
     exact ⟨by first | rfl | (simp; done) | (simp [*]; done), by repeat (first | exact Drawn0.refl _ | apply Drawn0.step)⟩
 ·rw [if_neg c3] at H
  have c3b0 : ((l0.length : Int) == (l1.length : Int)) = false := beq_eq_false_iff_ne.mpr c3
  have c3b1 : ((l0.length : Int) != (l1.length : Int)) = true := bne_iff_ne.mpr c3
  have c3b2 : (l0.length == l1.length) = false := by first | simpa using c3 | (simp at c3 ⊢; omega)
  obtain rfl := Option.some.inj H
  go_enter Try.func62, Try.ntmps62
  go_wp2
  repeat (go_quiet (fail); try go_wp2)
  go_ret
  exact ⟨by first | rfl | (simp; done) | (simp [*]; done), by repeat (first | exact Drawn0.refl _ | apply Drawn0.step)⟩
/-! ### ancepsref09_Lists: function 23 -/
def ancepsref09_Lists.l0 : Nat → List (List Int) → List (List Int) → Int → Option (Bool)
 | 0, _, _, _ => none
 | k + 1, x0, x1, x5 => if x5 < (x0.length : Int) then (if 0 ≤ x5 then (if x5 < (x1.length : Int) then ((ancepsref09_Ints.f k (rd_L2 x0 x5) (rd_L2 x1 x5)).bind fun t187 => (if t187 = true then (ancepsref09_Lists.l0 k x0 x1 (wrap64 (x5 + 1))) else (some false))) else (none)) else (none)) else (some true)
def ancepsref09_Lists.f (k : Nat) (l0 : List (List Int)) (l1 : List (List Int)) : Option (Bool) := if (l0.length : Int) = (l1.length : Int) then (ancepsref09_Lists.l0 k l0 l1 0) else (some false)
theorem ancepsref09_Lists.mono_l : ∀ k, (∀ y0 y1 y2, LeO (ancepsref09_Lists.l0 k y0 y1 y2) (ancepsref09_Lists.l0 (k + 1) y0 y1 y2))
 | 0 => fun _ _ _ r h => by simp [ancepsref09_Lists.l0] at h
 | k + 1 => by
  have ih0 := ancepsref09_Lists.mono_l k
  ·intro y0 y1 y2
   unfold ancepsref09_Lists.l0
   repeat' first
   | (with_reducible exact ih0 _ _ _)
   | (with_reducible exact ancepsref09_Ints.mono _ _ _)
   | (with_reducible exact LeO.refl _)
   | (with_reducible exact LeO.none _)
   | (with_reducible refine LeO.ite ?_ ?_)
   | (with_reducible refine LeO.bind ?_ (fun _ => ?_))
   | exact ih0 _ _ _
   | exact ancepsref09_Ints.mono _ _ _
   | exact LeO.none _
   | refine LeO.ite ?_ ?_
   | refine LeO.bind ?_ (fun _ => ?_)
theorem ancepsref09_Lists.mono : ∀ a0 a1 k, LeO (ancepsref09_Lists.f k a0 a1) (ancepsref09_Lists.f (k + 1) a0 a1) := by
 intro a0 a1 k
 have ih0 := ancepsref09_Lists.mono_l k
 unfold ancepsref09_Lists.f
 repeat' first
   | (with_reducible exact ih0 _ _ _)
   | (with_reducible exact ancepsref09_Ints.mono _ _ _)
   | (with_reducible exact LeO.refl _)
   | (with_reducible exact LeO.none _)
   | (with_reducible refine LeO.ite ?_ ?_)
   | (with_reducible refine LeO.bind ?_ (fun _ => ?_))
   | exact ih0 _ _ _
   | exact ancepsref09_Ints.mono _ _ _
   | exact LeO.none _
   | refine LeO.ite ?_ ?_
   | refine LeO.bind ?_ (fun _ => ?_)
set_option maxHeartbeats 8000000 in
set_option maxRecDepth 100000 in
theorem ancepsref09_Lists.calls (k : Nat) (A0 : Option Addr) (c0 : Nat) (l0 : List (List Int)) (A1 : Option Addr) (c1 : Nat) (l1 : List (List Int)) (r : Bool) (w : World) (hr0 : Kd.C (Kd.slice 3 (Kd.int .i64)) w A0 l0.length l0) (hc0 : l0.length ≤ c0) (hr1 : Kd.C (Kd.slice 3 (Kd.int .i64)) w A1 l1.length l1) (hc1 : l1.length ≤ c1) (h : ancepsref09_Lists.f k l0 l1 = some r) :
  Calls Try.prog 23 #[.slice A0 l0.length c0, .slice A1 l1.length c1] w fun e w' => e = .returned (.bool r) ∧ Drawn0 w w' := by
 have hu25 := Try.underlying25
 have HR0 := Aside0.mk hr0
 have HC0 := Aside0.mk hc0
 clear hr0 hc0
 have HR1 := Aside0.mk hr1
 have HC1 := Aside0.mk hc1
 clear hr1 hc1
 have H : (if (l0.length : Int) = (l1.length : Int) then (ancepsref09_Lists.l0 k l0 l1 0) else (some false)) = some r := h
 clear h
 by_cases c3 : (l0.length : Int) = (l1.length : Int)
 ·rw [if_pos c3] at H
  have c3b0 : ((l0.length : Int) == (l1.length : Int)) = true := beq_iff_eq.mpr c3
  have c3b1 : ((l0.length : Int) != (l1.length : Int)) = false := bne_eq_false_iff_eq.mpr c3
  have c3b2 : (l0.length == l1.length) = true := by first | simpa using c3 | (simp at c3 ⊢; omega)
  clear c3
  have H' := Aside0.mk H
  clear H
  go_enter Try.func23, Try.ntmps23
  go_wp2
  repeat (go_quiet (fail); try go_wp2)
  go_loopg [5] k (fun kq v5 w' => ∃ (x5_1 : Int), v5 = .int .i64 x5_1 ∧ Aside0 (ancepsref09_Lists.l0 kq l0 l1 x5_1 = some r) ∧ Aside0 (kq ≤ k) ∧ Drawn0 w w')
  case atStart => exact ⟨(0), zT, H', ⟨Nat.le_refl _⟩, by repeat (first | exact Drawn0.refl _ | apply Drawn0.step)⟩
  case round =>
   clear H'
   try clear c3
   try clear c3b0
   try clear c3b1
   try clear c3b2
   obtain ⟨x5_1, rfl, HA, HK1, ⟨m1, rfl⟩⟩ := hrel
   cases gk with
   | zero => exact absurd HA.out (by simp [ancepsref09_Lists.l0])
   | succ k1 =>
    have H := HA.out
    clear HA
    simp only [ancepsref09_Lists.l0] at H
    by_cases c4 : x5_1 < (l0.length : Int)
    ·rw [if_pos c4] at H
     have c4b0 : decide (x5_1 < (l0.length : Int)) = true := decide_eq_true c4
     clear c4
     by_cases c5 : 0 ≤ x5_1
     ·rw [if_pos c5] at H
      have c5b0 : decide (0 ≤ x5_1) = true := decide_eq_true c5
      clear c5
      by_cases c6 : x5_1 < (l1.length : Int)
      ·rw [if_pos c6] at H
       have c6b0 : decide (x5_1 < (l1.length : Int)) = true := decide_eq_true c6
       clear c6
       replace H := Option.bind_eq_some_iff.mp H
       obtain ⟨t187, A70, H⟩ := H
       replace H : (if t187 = true then (ancepsref09_Lists.l0 k1 l0 l1 (wrap64 (x5_1 + 1))) else (some false)) = some r := H
       have A7 := Aside0.mk A70
       clear A70
       have HC8 := Aside0.mk H
       clear H
       have p185 : 0 ≤ (x5_1 : Int) := of_decide_eq_true zh
       have q185 : x5_1 < (l0.length : Int) := of_decide_eq_true zh
       obtain ⟨ad185, A185_0, c185_0, e185, hx185_0, hl185_0, hi185_0⟩ := at_L2 HR0.out x5_1 p185 q185
       cases e185
       have HR185_0 := Aside0.mk hi185_0
       have HC185_0 := Aside0.mk hl185_0
       clear hi185_0 hl185_0
       replace p185 := eq_true p185
       replace q185 := eq_true q185
       have p186 : 0 ≤ (x5_1 : Int) := of_decide_eq_true zh
       have q186 : x5_1 < (l1.length : Int) := of_decide_eq_true zh
       obtain ⟨ad186, A186_0, c186_0, e186, hx186_0, hl186_0, hi186_0⟩ := at_L2 HR1.out x5_1 p186 q186
       cases e186
       have HR186_0 := Aside0.mk hi186_0
       have HC186_0 := Aside0.mk hl186_0
       clear hi186_0 hl186_0
       replace p186 := eq_true p186
       replace q186 := eq_true q186
       go_upto_if 26 with (first | (go_at_call 62; (with_reducible refine (ancepsref09_Ints.calls k1 _ _ (rd_L2 l0 x5_1) _ _ (rd_L2 l1 x5_1) t187 _ ?side1 ?side2 ?side3 ?side4 A7.out).mono ?_); (case side1 => repeat (first | exact HR185_0.out | (with_reducible refine Kd.C_alloc ?_ _) | (with_reducible refine Kd.C_drewN ?_ _) | (with_reducible refine Kd.C_drew ?_))); (case side2 => exact HC185_0.out); (case side3 => repeat (first | exact HR186_0.out | (with_reducible refine Kd.C_alloc ?_ _) | (with_reducible refine Kd.C_drewN ?_ _) | (with_reducible refine Kd.C_drew ?_))); (case side4 => exact HC186_0.out); rintro e w' ⟨rfl, ⟨nd, rfl⟩⟩; (try first | exact ⟨rfl, _, World.drewN_drewN _ _ _⟩ | exact ⟨rfl, _, Eq.trans (World.drewN_drewN _ _ _) (congrArg (World.drewN _) (Nat.add_assoc _ _ _))⟩)))
       repeat (go_quiet (first | (go_at_call 62; (with_reducible refine (ancepsref09_Ints.calls k1 _ _ (rd_L2 l0 x5_1) _ _ (rd_L2 l1 x5_1) t187 _ ?side1 ?side2 ?side3 ?side4 A7.out).mono ?_); (case side1 => repeat (first | exact HR185_0.out | (with_reducible refine Kd.C_alloc ?_ _) | (with_reducible refine Kd.C_drewN ?_ _) | (with_reducible refine Kd.C_drew ?_))); (case side2 => exact HC185_0.out); (case side3 => repeat (first | exact HR186_0.out | (with_reducible refine Kd.C_alloc ?_ _) | (with_reducible refine Kd.C_drewN ?_ _) | (with_reducible refine Kd.C_drew ?_))); (case side4 => exact HC186_0.out); rintro e w' ⟨rfl, ⟨nd, rfl⟩⟩; (try first | exact ⟨rfl, _, World.drewN_drewN _ _ _⟩ | exact ⟨rfl, _, Eq.trans (World.drewN_drewN _ _ _) (congrArg (World.drewN _) (Nat.add_assoc _ _ _))⟩))); go_upto_if 26 with (first | (go_at_call 62; (with_reducible refine (ancepsref09_Ints.calls k1 _ _ (rd_L2 l0 x5_1) _ _ (rd_L2 l1 x5_1) t187 _ ?side1 ?side2 ?side3 ?side4 A7.out).mono ?_); (case side1 => repeat (first | exact HR185_0.out | (with_reducible refine Kd.C_alloc ?_ _) | (with_reducible refine Kd.C_drewN ?_ _) | (with_reducible refine Kd.C_drew ?_))); (case side2 => exact HC185_0.out); (case side3 => repeat (first | exact HR186_0.out | (with_reducible refine Kd.C_alloc ?_ _) | (with_reducible refine Kd.C_drewN ?_ _) | (with_reducible refine Kd.C_drew ?_))); (case side4 => exact HC186_0.out); rintro e w' ⟨rfl, ⟨nd, rfl⟩⟩; (try first | exact ⟨rfl, _, World.drewN_drewN _ _ _⟩ | exact ⟨rfl, _, Eq.trans (World.drewN_drewN _ _ _) (congrArg (World.drewN _) (Nat.add_assoc _ _ _))⟩))))
       (try simp only [Act.put, List.setIfInBounds_toArray, List.set_cons_zero, List.set_cons_succ])
       have H := HC8.out
       clear HC8
       by_cases c9 : t187 = true
       ·subst c9
        have H1 : (ancepsref09_Lists.l0 k1 l0 l1 (wrap64 (x5_1 + 1))) = some r := by rw [if_pos rfl] at H; exact H
        clear H
        have H := H1
        clear H1
        have H' := Aside0.mk H
        clear H
        go_wp2
        repeat (go_quiet (fail); try go_wp2)
        go_roundg k1
        case measure => have := HK1.out; omega
        case rel => exact ⟨(wrap64 (x5_1 + 1)), zT, H', ⟨by have := HK1.out; omega⟩, by repeat (first | exact Drawn0.refl _ | apply Drawn0.step)⟩
       ·replace c9 := Bool.eq_false_iff.mpr c9
        subst c9
        have H1 : (some false) = some r := by rw [if_neg (show ¬ (false = true) by decide)] at H; exact H
        clear H
        have H := H1
        clear H1
        obtain rfl := Option.some.inj H
        go_wp2
        repeat (go_quiet (fail); try go_wp2)
        go_ret
        exact ⟨by first | rfl | (simp; done) | (simp [*]; done), by repeat (first | exact Drawn0.refl _ | apply Drawn0.step)⟩
      ·rw [if_neg c6] at H
       exact absurd H (by simp)
     ·rw [if_neg c5] at H
      exact absurd H (by simp)
    ·rw [if_neg c4] at H
     have c4b0 : decide (x5_1 < (l0.length : Int)) = false := decide_eq_false c4
     clear c4
     obtain rfl := Option.some.inj H
     go_wp2
     repeat (go_quiet (fail); try go_wp2)
     go_ret
     exact ⟨by first | rfl | (simp; done) | (simp [*]; done), by repeat (first | exact Drawn0.refl _ | apply Drawn0.step)⟩
 ·rw [if_neg c3] at H
  have c3b0 : ((l0.length : Int) == (l1.length : Int)) = false := beq_eq_false_iff_ne.mpr c3
  have c3b1 : ((l0.length : Int) != (l1.length : Int)) = true := bne_iff_ne.mpr c3
  have c3b2 : (l0.length == l1.length) = false := by first | simpa using c3 | (simp at c3 ⊢; omega)
  obtain rfl := Option.some.inj H
  go_enter Try.func23, Try.ntmps23
  go_wp2
  repeat (go_quiet (fail); try go_wp2)
  go_ret
  exact ⟨by first | rfl | (simp; done) | (simp [*]; done), by repeat (first | exact Drawn0.refl _ | apply Drawn0.step)⟩
/-! ### dag_reached: function 65 -/
mutual
def dag_reached.l0 : Nat → List Bool → List (List Int) → Int → Int → Int → List (S69) → Option (List Bool)
 | 0, _, _, _, _, _, _ => none
 | k + 1, x3, x14, x15, x16, x189000, x189001 => if x16 < x15 then (if 0 ≤ x16 then (if x16 < (x14.length : Int) then (dag_reached.l1 k x3 x16 x14 x15 x16 (rd_L2 x14 x16) ((rd_L2 x14 x16).length : Int) 0 x189000 x189001) else (none)) else (none)) else (some x3)
def dag_reached.l1 : Nat → List Bool → Int → List (List Int) → Int → Int → List Int → Int → Int → Int → List (S69) → Option (List Bool)
 | 0, _, _, _, _, _, _, _, _, _, _ => none
 | k + 1, x3, x4, x14, x15, x16, x21, x22, x23, x189000, x189001 => if x23 < x22 then (if 0 ≤ x23 then (if x23 < (x21.length : Int) then (if 0 ≤ x4 then (if x4 < (x3.length : Int) then (if rdOf false x3 x4 = true then (if 0 ≤ (rd x21 x23) then (if (rd x21 x23) < (x189001.length : Int) then (if 0 ≤ ((rd_T69 x189001 (rd x21 x23)).f1) then (if ((rd_T69 x189001 (rd x21 x23)).f1) < (x3.length : Int) then (dag_reached.l1 k (x3.set (((rd_T69 x189001 (rd x21 x23)).f1) : Int).toNat true) x4 x14 x15 x16 x21 x22 (wrap64 (x23 + 1)) x189000 x189001) else (none)) else (none)) else (none)) else (none)) else (dag_reached.l1 k x3 x4 x14 x15 x16 x21 x22 (wrap64 (x23 + 1)) x189000 x189001)) else (none)) else (none)) else (none)) else (none)) else (dag_reached.l0 k x3 x14 x15 (wrap64 (x16 + 1)) x189000 x189001)
end
def dag_reached.f (k : Nat) (a0_0 : Int) (l0_1 : List (S69)) : Option (List Bool) := if 0 ≤ a0_0 then (if (a0_0 : Int).toNat ≤ 281474976710656 then ((some (List.replicate (a0_0 : Int).toNat false : List Bool)).bind fun y189 => (if 0 < (y189.length : Int) then ((dag_byFrom.f k a0_0 l0_1).bind fun t193 => (dag_reached.l0 k (y189.set (0 : Int).toNat true) t193 (t193.length : Int) 0 a0_0 l0_1)) else (none))) else (none)) else (none)
theorem dag_reached.mono_l : ∀ k, (∀ y0 y1 y2 y3 y4 y5, LeO (dag_reached.l0 k y0 y1 y2 y3 y4 y5) (dag_reached.l0 (k + 1) y0 y1 y2 y3 y4 y5)) ∧ (∀ y0 y1 y2 y3 y4 y5 y6 y7 y8 y9, LeO (dag_reached.l1 k y0 y1 y2 y3 y4 y5 y6 y7 y8 y9) (dag_reached.l1 (k + 1) y0 y1 y2 y3 y4 y5 y6 y7 y8 y9))
 | 0 => ⟨fun _ _ _ _ _ _ r h => by simp [dag_reached.l0] at h, fun _ _ _ _ _ _ _ _ _ _ r h => by simp [dag_reached.l1] at h⟩
 | k + 1 => by
  obtain ⟨ih0, ih1⟩ := dag_reached.mono_l k
  refine ⟨?_, ?_⟩
  ·intro y0 y1 y2 y3 y4 y5
   unfold dag_reached.l0
   repeat' first
   | (with_reducible exact ih0 _ _ _ _ _ _)
   | (with_reducible exact ih1 _ _ _ _ _ _ _ _ _ _)
   | (with_reducible exact dag_byFrom.mono _ _ _)
   | (with_reducible exact LeO.refl _)
   | (with_reducible exact LeO.none _)
   | (with_reducible refine LeO.ite ?_ ?_)
   | (with_reducible refine LeO.bind ?_ (fun _ => ?_))
   | exact ih0 _ _ _ _ _ _
   | exact ih1 _ _ _ _ _ _ _ _ _ _
   | exact dag_byFrom.mono _ _ _
   | exact LeO.none _
   | refine LeO.ite ?_ ?_
   | refine LeO.bind ?_ (fun _ => ?_)
  ·intro y0 y1 y2 y3 y4 y5 y6 y7 y8 y9
   unfold dag_reached.l1
   repeat' first
   | (with_reducible exact ih0 _ _ _ _ _ _)
   | (with_reducible exact ih1 _ _ _ _ _ _ _ _ _ _)
   | (with_reducible exact dag_byFrom.mono _ _ _)
   | (with_reducible exact LeO.refl _)
   | (with_reducible exact LeO.none _)
   | (with_reducible refine LeO.ite ?_ ?_)
   | (with_reducible refine LeO.bind ?_ (fun _ => ?_))
   | exact ih0 _ _ _ _ _ _
   | exact ih1 _ _ _ _ _ _ _ _ _ _
   | exact dag_byFrom.mono _ _ _
   | exact LeO.none _
   | refine LeO.ite ?_ ?_
   | refine LeO.bind ?_ (fun _ => ?_)
theorem dag_reached.mono : ∀ a0 a1 k, LeO (dag_reached.f k a0 a1) (dag_reached.f (k + 1) a0 a1) := by
 intro a0 a1 k
 obtain ⟨ih0, ih1⟩ := dag_reached.mono_l k
 unfold dag_reached.f
 repeat' first
   | (with_reducible exact ih0 _ _ _ _ _ _)
   | (with_reducible exact ih1 _ _ _ _ _ _ _ _ _ _)
   | (with_reducible exact dag_byFrom.mono _ _ _)
   | (with_reducible exact LeO.refl _)
   | (with_reducible exact LeO.none _)
   | (with_reducible refine LeO.ite ?_ ?_)
   | (with_reducible refine LeO.bind ?_ (fun _ => ?_))
   | exact ih0 _ _ _ _ _ _
   | exact ih1 _ _ _ _ _ _ _ _ _ _
   | exact dag_byFrom.mono _ _ _
   | exact LeO.none _
   | refine LeO.ite ?_ ?_
   | refine LeO.bind ?_ (fun _ => ?_)
set_option maxHeartbeats 8000000 in
set_option maxRecDepth 100000 in
theorem dag_reached.calls (k : Nat) (a0_0 : Int) (A0_1 : Option Addr) (c0_1 : Nat) (l0_1 : List (S69)) (r : List Bool) (w : World) (hr0_1 : Kd.C k69 w A0_1 l0_1.length l0_1) (hc0_1 : l0_1.length ≤ c0_1) (h : dag_reached.f k a0_0 l0_1 = some r) :
  Calls Try.prog 65 #[.agg #[.int .i64 a0_0, .slice A0_1 l0_1.length c0_1]] w fun e w' => ∃ v0_ : Value, e = .returned (v0_) ∧ Kd.R Kd.bool 4 w' w.heap.size (fun _ => True) v0_ r ∧ Below w.heap.size w w' := by
 have hu24 := Try.underlying24
 have hu3 := Try.underlying3
 have hu4 := Try.underlying4
 have hu25 := Try.underlying25
 have hu22 := Try.underlying22
 have HR0_1 := Aside0.mk hr0_1
 have HC0_1 := Aside0.mk hc0_1
 clear hr0_1 hc0_1
 have HB := Aside0.mk (Below.refl w.heap.size w)
 have H : (if 0 ≤ a0_0 then (if (a0_0 : Int).toNat ≤ 281474976710656 then ((some (List.replicate (a0_0 : Int).toNat false : List Bool)).bind fun y189 => (if 0 < (y189.length : Int) then ((dag_byFrom.f k a0_0 l0_1).bind fun t193 => (dag_reached.l0 k (y189.set (0 : Int).toNat true) t193 (t193.length : Int) 0 a0_0 l0_1)) else (none))) else (none)) else (none)) = some r := h
 clear h
 by_cases c2 : 0 ≤ a0_0
 ·rw [if_pos c2] at H
  have c2b0 := eq_true c2
  have c2b1 : decide (0 ≤ a0_0) = true := decide_eq_true c2
  clear c2
  by_cases c3 : (a0_0 : Int).toNat ≤ 281474976710656
  ·rw [if_pos c3] at H
   have c3b0 := eq_true c3
   have c3b1 : decide ((a0_0 : Int).toNat ≤ 281474976710656) = true := decide_eq_true c3
   clear c3
   obtain ⟨y189, hy189⟩ : ∃ y_ : List Bool, y_ = (List.replicate (a0_0 : Int).toNat false) := ⟨_, rfl⟩
   replace H : (if 0 < (y189.length : Int) then ((dag_byFrom.f k a0_0 l0_1).bind fun t193 => (dag_reached.l0 k (y189.set (0 : Int).toNat true) t193 (t193.length : Int) 0 a0_0 l0_1)) else (none)) = some r := by first | (rw [hy189]; with_reducible exact H) | (have H2_ := (Option.bind_some _ _).symm.trans H; rw [hy189]; with_reducible exact H2_) | (have H2_ := (Option.bind_some _ _).symm.trans H; with_reducible exact H2_) | with_reducible exact H | (rw [hy189]; exact H) | exact H
   have Ny189 := Aside0.mk hy189
   clear hy189
   by_cases c4 : 0 < (y189.length : Int)
   ·rw [if_pos c4] at H
    have c4b0 : decide (0 < (y189.length : Int)) = true := decide_eq_true c4
    have c4b1 : decide (0 < y189.length) = true := decide_eq_true (by omega)
    clear c4
    obtain ⟨y192, hy192⟩ : ∃ y_ : List Bool, y_ = (y189.set (0 : Int).toNat true) := ⟨_, rfl⟩
    replace H : ((dag_byFrom.f k a0_0 l0_1).bind fun t193 => (dag_reached.l0 k y192 t193 (t193.length : Int) 0 a0_0 l0_1)) = some r := by first | (rw [hy192]; with_reducible exact H) | (have H2_ := (Option.bind_some _ _).symm.trans H; rw [hy192]; with_reducible exact H2_) | (have H2_ := (Option.bind_some _ _).symm.trans H; with_reducible exact H2_) | with_reducible exact H | (rw [hy192]; exact H) | exact H
    have Ny192 := Aside0.mk hy192
    clear hy192
    replace H := Option.bind_eq_some_iff.mp H
    obtain ⟨t193, A60, H⟩ := H
    replace H : (dag_reached.l0 k y192 t193 (t193.length : Int) 0 a0_0 l0_1) = some r := H
    have A6 := Aside0.mk A60
    clear A60
    have H' := Aside0.mk H
    clear H
    go_enter Try.func65, Try.ntmps65
    go_wp2_with (first | ((with_reducible refine gate_dst (N := 1) rfl ?_); refine box_event ?hg (N := 1) ?hd (cs := #[.int .i64 a0_0, .slice A0_1 l0_1.length c0_1]) (t := 24) ?hr ?_; (case hd => rfl); (case hg => rfl); (case hr => first | (go_simp; done) | (go_simp; rfl)); intro gb188 hg w7 hbox hb; have n0_ := Aside0.mk (below_step zB hb); have n1_ := Aside0.mk (hbox); have n2_ := Aside0.mk ((by rw [hg]; exact (below_size zB) : w.heap.size ≤ gb188)); have n3_ := Aside0.mk ((by rw [hg]; exact (below_size zB) : w.heap.size ≤ gb188)); clear HB; have HB := n0_; have BK188 := n1_; have GW188 := n2_; have GE188 := n3_; clear n0_ n1_ n2_ n3_; clear hb hbox hg; have hcz8_0 : w7.cell? ⟨gb188, 0, none⟩ = some (.int .i64 a0_0) := (blk_cell BK188.out 0).trans rfl; have hcz8_1 : w7.cell? ⟨gb188, 1, none⟩ = some (.slice A0_1 l0_1.length c0_1) := (blk_cell BK188.out 1).trans rfl; have hfz8_0 := blk_frozen BK188.out 0; have hfz8_1 := blk_frozen BK188.out 1) | ((with_reducible refine gate_dst (N := 10) rfl ?_); refine Kd.R_make Kd.bool _ 4 rfl (N := 10) rfl 79 _ _ rfl a0_0 rfl rfl Try.underlying79 (.bool false) 1 info4 rfl (by decide) (by omega) false (ok := fun _ => True) (okp := fun _ => True) rfl (fun _ hk => hk) trivial (of_decide_eq_true zh) (Nat.le_trans (Nat.mul_le_mul_right _ (of_decide_eq_true zh : a0_0.toNat ≤ 281474976710656)) (by omega)) (Below.refl _ _) (Nat.le_refl _) ?_; intro v190 w9 ho10 hb hg_ hnew_; clear hg_ hnew_; (first | rw [← Ny189.out] at ho10 | (simp only [Int.reduceToNat] at ho10; rw [← Ny189.out] at ho10)); have n0_ := Aside0.mk (Kd.R_lower ho10 (below_size zB)); have n1_ := Aside0.mk (blk_below (g := gb188) (o := .cells #[.int .i64 a0_0, .slice A0_1 l0_1.length c0_1] 24 (0, 0)) (zk BK188) hb); have n2_ := Aside0.mk (below_step zB hb); clear BK188; clear HB; have HO191 := n0_; have BK188 := n1_; have HB := n2_; clear n0_ n1_ n2_; clear hb ho10; have p5 : 0 ≤ (0 : Int) := (by omega); have q5 : (0 : Int) < ((y189.length : Int) : Int) := of_decide_eq_true zh; have qi5 : (0 < y189.length) = True := eq_true (by omega); obtain ⟨go5, co5, eo5, gb5, gl5, cl5, HG5⟩ := Kd.R_form HO191.out (by omega); (first | cases eo5 | (injection eo5 with ea_ en_ ec_; (first | subst ea_ | (injection ea_ with ea_; subst ea_)); subst ec_; clear en_)); have GB5 := Aside0.mk gb5; have GG5 := Aside0.mk HG5; clear gb5 gl5 HG5; obtain ⟨hx5_0, hf5_0⟩ := Kd.R_celln false HO191.out (0 : Int) p5 q5; (try rw [show ((0 : Int)).toNat = 0 from rfl] at hx5_0); (try simp only [Nat.reduceMul, Nat.zero_mul, Nat.zero_add, Nat.reduceAdd] at hx5_0); (try rw [show ((0 : Int)).toNat = 0 from rfl] at hf5_0); (try simp only [Nat.reduceMul, Nat.zero_mul, Nat.zero_add, Nat.reduceAdd] at hf5_0); replace p5 := eq_true p5; replace q5 := eq_true q5; obtain ⟨hy11_, hz11_⟩ := Kd.R_celln false HO191.out (0 : Int) (by omega) (of_decide_eq_true zh); (try simp only [Int.reduceToNat, Int.toNat_zero, Int.toNat_ofNat, Nat.reduceMul, Nat.zero_mul, Nat.zero_add] at hy11_ hz11_); (try rw [show ((0 : Int)).toNat = 0 from rfl] at hy11_); (try rw [show ((0 : Int)).toNat = 0 from rfl] at hz11_); have HP11 := Kd.R_putg HO191.out (0 : Int) true) | ((with_reducible refine gate_store (t := 4) (p := 12) rfl ?_); refine store_event (t := 4) (p := 12) (v := ?vo_w12) (w1 := (w9.setCell ⟨go5, (0 : Int).toNat, none⟩ (.bool true))) ?hg ?ho ?hn ?hr ?_; (case ho => rfl); (case hg => rfl); (case hn => rfl); (case hr => first | (go_simp; done) | (go_simp; rfl)); intro w12 hw; have hg : w9.grownBy w12 (some go5) := (by rw [hw]; exact HP11.2); have hp_ : Kd.R Kd.bool 4 w12 w.heap.size (fun _ => True) (.slice (some ⟨go5, 0, none⟩) y189.length co5) y192 := (by rw [hw, Ny192.out]; exact HP11.1); clear HP11; have n0_ := Aside0.mk (blk_grown (g := gb188) (o := .cells #[.int .i64 a0_0, .slice A0_1 l0_1.length c0_1] 24 (0, 0)) (zk BK188) hg (Kd.R_ne HO191.out BK188.out (by decide))); have n1_ := Aside0.mk (hp_); have n2_ := Aside0.mk ((by rw [hw]; exact below_set (HB.out) GB5.out : Below w.heap.size w w12)); clear BK188; clear HO191; clear HB; have BK188 := n0_; have HO191 := n1_; have HB := n2_; clear n0_ n1_ n2_; clear hg hw hp_; have hcz13_0 : w12.cell? ⟨gb188, 0, none⟩ = some (.int .i64 a0_0) := (blk_cell BK188.out 0).trans rfl; have hcz13_1 : w12.cell? ⟨gb188, 1, none⟩ = some (.slice A0_1 l0_1.length c0_1) := (blk_cell BK188.out 1).trans rfl; have hfz13_0 := blk_frozen BK188.out 0; have hfz13_1 := blk_frozen BK188.out 1) | ((with_reducible refine gate_callee (f := 58) rfl ?_); refine goesL_ (some 14) rfl rfl Try.func58 zK rfl #[.agg #[.int .i64 a0_0, .slice A0_1 l0_1.length c0_1]] rfl zM ?_; (with_reducible refine (dag_byFrom.calls k a0_0 _ _ l0_1 t193 _ ?side1 ?side2 A6.out).mono ?_); (case side1 => repeat (first | exact (Kd.C_below HR0_1.out HB.out) | (with_reducible refine Kd.C_alloc ?_ _) | (with_reducible refine Kd.C_drewN ?_ _) | (with_reducible refine Kd.C_drew ?_))); (case side2 => exact HC0_1.out); rintro e w14 ⟨v194, rfl, ho0, hb⟩; refine ⟨_, rfl, ?_⟩; have n0_ := Aside0.mk (Kd.R_below (zR HO191) hb); have n1_ := Aside0.mk (Kd.S_lower ho0 (below_size zB)); have n2_ := Aside0.mk (blk_below (g := gb188) (o := .cells #[.int .i64 a0_0, .slice A0_1 l0_1.length c0_1] 24 (0, 0)) (zk BK188) hb); have n3_ := Aside0.mk (below_step zB hb); clear HO191; clear BK188; clear HB; have HO191 := n0_; have HO195 := n1_; have BK188 := n2_; have HB := n3_; clear n0_ n1_ n2_ n3_; (try clear hb); (try clear hb2); (try clear hk); (try clear hi); (try clear ho0); obtain ⟨Ao15, co15, eo15⟩ := Kd.S_slice HO195.out; subst eo15))
    go_loopg [16] k (fun kq v16 w' => ∃ (x3_1 : List Bool) (x16_1 : Int), v16 = .int .i64 x16_1 ∧ Aside0 (dag_reached.l0 kq x3_1 t193 (t193.length : Int) x16_1 a0_0 l0_1 = some r) ∧ Aside0 (kq ≤ k) ∧ Aside0 (Kd.R Kd.bool 4 w' w.heap.size (fun _ => True) (.slice (some ⟨go5, 0, none⟩) y189.length co5) x3_1) ∧ Aside0 (Kd.S (Kd.slice 3 (Kd.int .i64)) 25 w' w.heap.size (fun _ => True) (.slice Ao15 t193.length co15) t193) ∧ Aside0 (w'.heap[gb188]? = some (.cells #[.int .i64 a0_0, (.slice A0_1 l0_1.length c0_1)] 24 (0, 0))) ∧ Aside0 (Below w.heap.size w w'))
    case atStart => exact ⟨(y192), (0), zT, H', ⟨Nat.le_refl _⟩, ⟨by (with_reducible repeat (first | apply Kd.R_alloc | apply Kd.R_drewN | apply Kd.R_drew)); exact HO191.out⟩, ⟨by (with_reducible repeat (first | apply Kd.S_alloc | apply Kd.S_drewN | apply Kd.S_drew)); exact HO195.out⟩, ⟨by (with_reducible repeat (first | refine blk_drewN ?_ _ | refine blk_drew ?_ | refine blk_alloc ?_ _)); exact BK188.out⟩, ⟨by repeat (first | (with_reducible first | exact HB.out | apply below_alloc | apply pw_below_drewN | apply below_drew1 | refine below_set ?_ GE188.out) | exact HB.out)⟩⟩
    case round =>
     clear H'
     try clear c2
     try clear c2b0
     try clear c2b1
     try clear c3
     try clear c3b0
     try clear c3b1
     try clear c4
     try clear c4b0
     try clear c4b1
     try clear p5
     try clear q5
     try clear qi5
     try clear hcz13_0
     try clear hcz13_1
     try clear hcz8_0
     try clear hcz8_1
     try clear hfz13_0
     try clear hfz13_1
     try clear hfz8_0
     try clear hfz8_1
     try clear hx5_0
     try clear p5
     try clear q5
     obtain ⟨x3_1, x16_1, rfl, HA, HK1, HO_3, HO_14, BK188, HB⟩ := hrel
     have hl3_1 := (Kd.R_reads' HO_3.out).1
     rw [hl3_1] at HO_3
     (try simp only [hl3_1])
     (try simp only [hl3_1] at BK188)
     (try simp only [hl3_1] at HO_14)
     cases gk with
     | zero => exact absurd HA.out (by simp [dag_reached.l0])
     | succ k1 =>
      have H := HA.out
      clear HA
      simp only [dag_reached.l0] at H
      by_cases c16 : x16_1 < (t193.length : Int)
      ·rw [if_pos c16] at H
       have c16b0 : decide (x16_1 < (t193.length : Int)) = true := decide_eq_true c16
       clear c16
       by_cases c17 : 0 ≤ x16_1
       ·rw [if_pos c17] at H
        have c17b0 : decide (0 ≤ x16_1) = true := decide_eq_true c17
        clear c17
        by_cases c18 : x16_1 < (t193.length : Int)
        ·rw [if_pos c18] at H
         have c18b0 : decide (x16_1 < (t193.length : Int)) = true := decide_eq_true c18
         clear c18
         have H' := Aside0.mk H
         clear H
         have p196 : 0 ≤ (x16_1 : Int) := of_decide_eq_true zh
         have q196 : x16_1 < (t193.length : Int) := of_decide_eq_true zh
         obtain ⟨ad196, A196_0, c196_0, e196, hx196_0, hl196_0, hi196_0⟩ := at_L2 (Kd.S_reads' HO_14.out).2.2 x16_1 p196 q196
         cases e196
         obtain ⟨ce196, hce196, hMe196, hcc196⟩ := Kd.S_get HO_14.out [] x16_1 p196 (by first | exact q196 | exact of_decide_eq_true zh | (have e_ := (Kd.S_reads' HO_14.out).1; omega))
         obtain ⟨ve196_0, rfl, ge196_0⟩ := hMe196
         have hv196_0 := hcc196 0 _ rfl
         rw [Nat.add_zero, show ((Kd.slice 3 (Kd.int .i64))).sz = 1 from rfl, Nat.mul_one] at hv196_0
         replace hv196_0 := Option.some.inj (hv196_0.symm.trans hx196_0)
         rw [hv196_0] at ge196_0
         have HL196_0 := Aside0.mk (show Kd.R (Kd.int .i64) 3 _ _ _ _ (rd_L2 t193 x16_1) from ge196_0)
         clear hv196_0 ge196_0
         clear hcc196 hce196
         have HR196_0 := Aside0.mk hi196_0
         have HC196_0 := Aside0.mk hl196_0
         clear hi196_0 hl196_0
         replace p196 := eq_true p196
         replace q196 := eq_true q196
         go_wp2
         go_loopg [23] k1 (fun kq v23 w' => ∃ (x3_2 : List Bool) (x23_2 : Int), v23 = .int .i64 x23_2 ∧ Aside0 (dag_reached.l1 kq x3_2 x16_1 t193 (t193.length : Int) x16_1 (rd_L2 t193 x16_1) ((rd_L2 t193 x16_1).length : Int) x23_2 a0_0 l0_1 = some r) ∧ Aside0 (kq ≤ k1) ∧ Aside0 (Kd.R Kd.bool 4 w' w.heap.size (fun _ => True) (.slice (some ⟨go5, 0, none⟩) x3_1.length co5) x3_2) ∧ Aside0 (Kd.S (Kd.slice 3 (Kd.int .i64)) 25 w' w.heap.size (fun _ => True) (.slice (some ad196) t193.length co15) t193) ∧ Aside0 (Kd.R (Kd.int .i64) 3 w' w.heap.size (fun _ => True) (.slice A196_0 (rd_L2 t193 x16_1).length c196_0) (rd_L2 t193 x16_1)) ∧ Aside0 (w'.heap[gb188]? = some (.cells #[.int .i64 a0_0, (.slice A0_1 l0_1.length c0_1)] 24 (0, 0))) ∧ Aside0 (Below w.heap.size w w'))
         case atStart => exact ⟨(x3_1), (0), zT, H', ⟨Nat.le_refl _⟩, ⟨by (try simp only [hl3_1]); (with_reducible repeat (first | apply Kd.R_alloc | apply Kd.R_drewN | apply Kd.R_drew)); exact HO_3.out⟩, ⟨by (try simp only [hl3_1]); (with_reducible repeat (first | apply Kd.S_alloc | apply Kd.S_drewN | apply Kd.S_drew)); exact HO_14.out⟩, ⟨by (try simp only [hl3_1]); (with_reducible repeat (first | apply Kd.R_alloc | apply Kd.R_drewN | apply Kd.R_drew)); exact Kd.R_mono HL196_0.out (fun _ hk => trivial)⟩, ⟨by (try simp only [hl3_1]); (with_reducible repeat (first | refine blk_drewN ?_ _ | refine blk_drew ?_ | refine blk_alloc ?_ _)); exact BK188.out⟩, ⟨by repeat (first | (with_reducible first | exact HB.out | apply below_alloc | apply pw_below_drewN | apply below_drew1 | refine below_set ?_ GE188.out) | exact HB.out)⟩⟩
         case round =>
          clear H'
          try clear c2
          try clear c2b0
          try clear c2b1
          try clear c3
          try clear c3b0
          try clear c3b1
          try clear c4
          try clear c4b0
          try clear c4b1
          try clear p5
          try clear q5
          try clear qi5
          try clear c16
          try clear c16b0
          try clear c17
          try clear c17b0
          try clear c18
          try clear c18b0
          try clear hcz13_0
          try clear hcz13_1
          try clear hcz8_0
          try clear hcz8_1
          try clear hfz13_0
          try clear hfz13_1
          try clear hfz8_0
          try clear hfz8_1
          try clear hx196_0
          try clear hx5_0
          try clear p196
          try clear p5
          try clear q196
          try clear q5
          obtain ⟨x3_2, x23_2, rfl, HA, HK2, HO_3, HO_14, HO_21, BK188, HB⟩ := hrel
          have hl3_2 := (Kd.R_reads' HO_3.out).1
          rw [hl3_2] at HO_3
          (try simp only [hl3_2])
          (try simp only [hl3_2] at BK188)
          (try simp only [hl3_2] at HO_14)
          (try simp only [hl3_2] at HO_21)
          cases gk with
          | zero => exact absurd HA.out (by simp [dag_reached.l1])
          | succ k2 =>
           have H := HA.out
           clear HA
           simp only [dag_reached.l1] at H
           by_cases c19 : x23_2 < ((rd_L2 t193 x16_1).length : Int)
           ·rw [if_pos c19] at H
            have c19b0 : decide (x23_2 < ((rd_L2 t193 x16_1).length : Int)) = true := decide_eq_true c19
            clear c19
            by_cases c20 : 0 ≤ x23_2
            ·rw [if_pos c20] at H
             have c20b0 : decide (0 ≤ x23_2) = true := decide_eq_true c20
             clear c20
             by_cases c21 : x23_2 < ((rd_L2 t193 x16_1).length : Int)
             ·rw [if_pos c21] at H
              have c21b0 : decide (x23_2 < ((rd_L2 t193 x16_1).length : Int)) = true := decide_eq_true c21
              clear c21
              by_cases c22 : 0 ≤ x16_1
              ·rw [if_pos c22] at H
               have c22b0 : decide (0 ≤ x16_1) = true := decide_eq_true c22
               clear c22
               by_cases c23 : x16_1 < (x3_2.length : Int)
               ·rw [if_pos c23] at H
                have c23b0 : decide (x16_1 < (x3_2.length : Int)) = true := decide_eq_true c23
                clear c23
                obtain ⟨bq24, hbq24⟩ : ∃ b_ : Bool, b_ = (rdOf false x3_2 x16_1) := ⟨_, rfl⟩
                replace H : (if bq24 = true then (if 0 ≤ (rd (rd_L2 t193 x16_1) x23_2) then (if (rd (rd_L2 t193 x16_1) x23_2) < (l0_1.length : Int) then (if 0 ≤ ((rd_T69 l0_1 (rd (rd_L2 t193 x16_1) x23_2)).f1) then (if ((rd_T69 l0_1 (rd (rd_L2 t193 x16_1) x23_2)).f1) < (x3_2.length : Int) then (dag_reached.l1 k2 (x3_2.set (((rd_T69 l0_1 (rd (rd_L2 t193 x16_1) x23_2)).f1) : Int).toNat true) x16_1 t193 (t193.length : Int) x16_1 (rd_L2 t193 x16_1) ((rd_L2 t193 x16_1).length : Int) (wrap64 (x23_2 + 1)) a0_0 l0_1) else (none)) else (none)) else (none)) else (none)) else (dag_reached.l1 k2 x3_2 x16_1 t193 (t193.length : Int) x16_1 (rd_L2 t193 x16_1) ((rd_L2 t193 x16_1).length : Int) (wrap64 (x23_2 + 1)) a0_0 l0_1)) = some r := by rw [← hbq24] at H; exact H
                have Nbq24 := Aside0.mk hbq24
                clear hbq24
                by_cases c25 : bq24 = true
                ·subst c25
                 have H1 : (if 0 ≤ (rd (rd_L2 t193 x16_1) x23_2) then (if (rd (rd_L2 t193 x16_1) x23_2) < (l0_1.length : Int) then (if 0 ≤ ((rd_T69 l0_1 (rd (rd_L2 t193 x16_1) x23_2)).f1) then (if ((rd_T69 l0_1 (rd (rd_L2 t193 x16_1) x23_2)).f1) < (x3_2.length : Int) then (dag_reached.l1 k2 (x3_2.set (((rd_T69 l0_1 (rd (rd_L2 t193 x16_1) x23_2)).f1) : Int).toNat true) x16_1 t193 (t193.length : Int) x16_1 (rd_L2 t193 x16_1) ((rd_L2 t193 x16_1).length : Int) (wrap64 (x23_2 + 1)) a0_0 l0_1) else (none)) else (none)) else (none)) else (none)) = some r := by rw [if_pos rfl] at H; exact H
                 clear H
                 have H := H1
                 clear H1
                 by_cases c26 : 0 ≤ (rd (rd_L2 t193 x16_1) x23_2)
                 ·rw [if_pos c26] at H
                  have c26b0 : decide (0 ≤ (rd (rd_L2 t193 x16_1) x23_2)) = true := decide_eq_true c26
                  clear c26
                  by_cases c27 : (rd (rd_L2 t193 x16_1) x23_2) < (l0_1.length : Int)
                  ·rw [if_pos c27] at H
                   have c27b0 : decide ((rd (rd_L2 t193 x16_1) x23_2) < (l0_1.length : Int)) = true := decide_eq_true c27
                   clear c27
                   by_cases c28 : 0 ≤ ((rd_T69 l0_1 (rd (rd_L2 t193 x16_1) x23_2)).f1)
                   ·rw [if_pos c28] at H
                    have c28b0 : decide (0 ≤ ((rd_T69 l0_1 (rd (rd_L2 t193 x16_1) x23_2)).f1)) = true := decide_eq_true c28
                    clear c28
                    by_cases c29 : ((rd_T69 l0_1 (rd (rd_L2 t193 x16_1) x23_2)).f1) < (x3_2.length : Int)
                    ·rw [if_pos c29] at H
                     have c29b0 : decide (((rd_T69 l0_1 (rd (rd_L2 t193 x16_1) x23_2)).f1) < (x3_2.length : Int)) = true := decide_eq_true c29
                     clear c29
                     obtain ⟨y200, hy200⟩ : ∃ y_ : List Bool, y_ = (x3_2.set (((rd_T69 l0_1 (rd (rd_L2 t193 x16_1) x23_2)).f1) : Int).toNat true) := ⟨_, rfl⟩
                     replace H : (dag_reached.l1 k2 y200 x16_1 t193 (t193.length : Int) x16_1 (rd_L2 t193 x16_1) ((rd_L2 t193 x16_1).length : Int) (wrap64 (x23_2 + 1)) a0_0 l0_1) = some r := by first | (rw [hy200]; with_reducible exact H) | (have H2_ := (Option.bind_some _ _).symm.trans H; rw [hy200]; with_reducible exact H2_) | (have H2_ := (Option.bind_some _ _).symm.trans H; with_reducible exact H2_) | with_reducible exact H | (rw [hy200]; exact H) | exact H
                     have Ny200 := Aside0.mk hy200
                     clear hy200
                     have H' := Aside0.mk H
                     clear H
                     have p197 : 0 ≤ (x23_2 : Int) := of_decide_eq_true zh
                     have q197 : x23_2 < ((rd_L2 t193 x16_1).length : Int) := of_decide_eq_true zh
                     obtain ⟨ad197, e197, hx197_0⟩ := Kd.at_int (Kd.R_reads' HO_21.out).2.2 x23_2 p197 q197
                     cases e197
                     replace p197 := eq_true p197
                     replace q197 := eq_true q197
                     have p198 : 0 ≤ (x16_1 : Int) := of_decide_eq_true zh
                     have q198 : x16_1 < (x3_2.length : Int) := of_decide_eq_true zh
                     obtain ⟨ad198, e198, hx198_0⟩ := Kd.at_bool (Kd.R_reads' HO_3.out).2.2 x16_1 p198 q198
                     (try rw [← Nbq24.out] at hx198_0)
                     obtain rfl : (⟨go5, 0, none⟩ : Addr) = ad198 := (by injection e198)
                     (first | simp only [add_plain] at hx198_0 | simp only [add_at] at hx198_0 | simp only [Addr.add, Nat.zero_add] at hx198_0 | skip)
                     replace p198 := eq_true p198
                     replace q198 := eq_true q198
                     have hcz31_0 : wr.cell? ⟨gb188, 0, none⟩ = some (.int .i64 a0_0) := (blk_cell BK188.out 0).trans rfl
                     have hcz31_1 : wr.cell? ⟨gb188, 1, none⟩ = some (.slice A0_1 l0_1.length c0_1) := (blk_cell BK188.out 1).trans rfl
                     have hfz31_0 := blk_frozen BK188.out 0
                     have hfz31_1 := blk_frozen BK188.out 1
                     have p199 : 0 ≤ ((rd (rd_L2 t193 x16_1) x23_2) : Int) := of_decide_eq_true zh
                     have q199 : (rd (rd_L2 t193 x16_1) x23_2) < (l0_1.length : Int) := of_decide_eq_true zh
                     obtain ⟨ad199, e199, hx199_0, hx199_1, hx199_2⟩ := at_T69 HR0_1.out (rd (rd_L2 t193 x16_1) x23_2) p199 q199
                     cases e199
                     replace hx199_0 := (HB.out.cell (World.block_lt_of_cell? w _ hx199_0)).trans hx199_0
                     replace hx199_1 := (HB.out.cell (World.block_lt_of_cell? w _ hx199_1)).trans hx199_1
                     replace hx199_2 := (HB.out.cell (World.block_lt_of_cell? w _ hx199_2)).trans hx199_2
                     replace p199 := eq_true p199
                     replace q199 := eq_true q199
                     have p30 : 0 ≤ (((rd_T69 l0_1 (rd (rd_L2 t193 x16_1) x23_2)).f1) : Int) := of_decide_eq_true zh
                     have q30 : (((rd_T69 l0_1 (rd (rd_L2 t193 x16_1) x23_2)).f1) : Int) < ((x3_2.length : Int) : Int) := of_decide_eq_true zh
                     obtain ⟨hx30_0, hf30_0⟩ := Kd.R_celln false HO_3.out (((rd_T69 l0_1 (rd (rd_L2 t193 x16_1) x23_2)).f1) : Int) p30 q30
                     replace p30 := eq_true p30
                     replace q30 := eq_true q30
                     have HP32 := Kd.R_putg HO_3.out (((rd_T69 l0_1 (rd (rd_L2 t193 x16_1) x23_2)).f1) : Int) true
                     go_wp2_with (first | ((with_reducible refine gate_store (t := 4) (p := 38) rfl ?_); refine store_event (t := 4) (p := 38) (v := ?vo_w33) (w1 := (wr.setCell ⟨go5, (((rd_T69 l0_1 (rd (rd_L2 t193 x16_1) x23_2)).f1) : Int).toNat, none⟩ (.bool true))) ?hg ?ho ?hn ?hr ?_; (case ho => rfl); (case hg => rfl); (case hn => rfl); (case hr => first | (go_simp; done) | (go_simp; rfl)); intro w33 hw; have hg : wr.grownBy w33 (some go5) := (by rw [hw]; exact HP32.2); have hp_ : Kd.R Kd.bool 4 w33 w.heap.size (fun _ => True) (.slice (some ⟨go5, 0, none⟩) x3_2.length co5) y200 := (by rw [hw, Ny200.out]; exact HP32.1); clear HP32; have n0_ := Aside0.mk (hp_); have n1_ := Aside0.mk (Kd.S_over' (v := (.slice (some ⟨go5, 0, none⟩) x3_2.length co5)) (zS HO_14) (Kd.R_typed HO_3.out) (by decide) hg); have n2_ := Aside0.mk (Kd.R_over' (v := (.slice (some ⟨go5, 0, none⟩) x3_2.length co5)) (zR HO_21) (Kd.R_typed HO_3.out) (by decide) hg); have n3_ := Aside0.mk (blk_grown (g := gb188) (o := .cells #[.int .i64 a0_0, .slice (some ad199) l0_1.length c0_1] 24 (0, 0)) (zk BK188) hg (Kd.R_ne HO_3.out BK188.out (by decide))); have n4_ := Aside0.mk ((by rw [hw]; exact below_set (HB.out) GB5.out : Below w.heap.size w w33)); clear HO_3; clear HO_14; clear HO_21; clear BK188; clear HB; have HO_3 := n0_; have HO_14 := n1_; have HO_21 := n2_; have BK188 := n3_; have HB := n4_; clear n0_ n1_ n2_ n3_ n4_; clear hg hw hp_))
                     (try simp only [← hl3_2])
                     go_roundg k2
                     case measure => have := HK1.out; have := HK2.out; omega
                     case rel => exact ⟨(y200), (wrap64 (x23_2 + 1)), zT, H', ⟨by have := HK1.out; have := HK2.out; omega⟩, ⟨by (try simp only [hl3_1]); (try simp only [hl3_2]); (with_reducible repeat (first | apply Kd.R_alloc | apply Kd.R_drewN | apply Kd.R_drew)); exact HO_3.out⟩, ⟨by (try simp only [hl3_1]); (try simp only [hl3_2]); (with_reducible repeat (first | apply Kd.S_alloc | apply Kd.S_drewN | apply Kd.S_drew)); exact HO_14.out⟩, ⟨by (try simp only [hl3_1]); (try simp only [hl3_2]); (with_reducible repeat (first | apply Kd.R_alloc | apply Kd.R_drewN | apply Kd.R_drew)); exact HO_21.out⟩, ⟨by (try simp only [hl3_1]); (try simp only [hl3_2]); (with_reducible repeat (first | refine blk_drewN ?_ _ | refine blk_drew ?_ | refine blk_alloc ?_ _)); exact BK188.out⟩, ⟨by repeat (first | (with_reducible first | exact HB.out | apply below_alloc | apply pw_below_drewN | apply below_drew1 | refine below_set ?_ GE188.out) | exact HB.out)⟩⟩
                    ·rw [if_neg c29] at H
                     exact absurd H (by simp)
                   ·rw [if_neg c28] at H
                    exact absurd H (by simp)
                  ·rw [if_neg c27] at H
                   exact absurd H (by simp)
                 ·rw [if_neg c26] at H
                  exact absurd H (by simp)
                ·replace c25 := Bool.eq_false_iff.mpr c25
                 subst c25
                 have H1 : (dag_reached.l1 k2 x3_2 x16_1 t193 (t193.length : Int) x16_1 (rd_L2 t193 x16_1) ((rd_L2 t193 x16_1).length : Int) (wrap64 (x23_2 + 1)) a0_0 l0_1) = some r := by rw [if_neg (show ¬ (false = true) by decide)] at H; exact H
                 clear H
                 have H := H1
                 clear H1
                 have H' := Aside0.mk H
                 clear H
                 have p197 : 0 ≤ (x23_2 : Int) := of_decide_eq_true zh
                 have q197 : x23_2 < ((rd_L2 t193 x16_1).length : Int) := of_decide_eq_true zh
                 obtain ⟨ad197, e197, hx197_0⟩ := Kd.at_int (Kd.R_reads' HO_21.out).2.2 x23_2 p197 q197
                 cases e197
                 replace p197 := eq_true p197
                 replace q197 := eq_true q197
                 have p198 : 0 ≤ (x16_1 : Int) := of_decide_eq_true zh
                 have q198 : x16_1 < (x3_2.length : Int) := of_decide_eq_true zh
                 obtain ⟨ad198, e198, hx198_0⟩ := Kd.at_bool (Kd.R_reads' HO_3.out).2.2 x16_1 p198 q198
                 (try rw [← Nbq24.out] at hx198_0)
                 obtain rfl : (⟨go5, 0, none⟩ : Addr) = ad198 := (by injection e198)
                 (first | simp only [add_plain] at hx198_0 | simp only [add_at] at hx198_0 | simp only [Addr.add, Nat.zero_add] at hx198_0 | skip)
                 replace p198 := eq_true p198
                 replace q198 := eq_true q198
                 go_wp2
                 (try simp only [← hl3_2])
                 go_roundg k2
                 case measure => have := HK1.out; have := HK2.out; omega
                 case rel => exact ⟨(x3_2), (wrap64 (x23_2 + 1)), zT, H', ⟨by have := HK1.out; have := HK2.out; omega⟩, ⟨by (try simp only [hl3_1]); (try simp only [hl3_2]); (with_reducible repeat (first | apply Kd.R_alloc | apply Kd.R_drewN | apply Kd.R_drew)); exact HO_3.out⟩, ⟨by (try simp only [hl3_1]); (try simp only [hl3_2]); (with_reducible repeat (first | apply Kd.S_alloc | apply Kd.S_drewN | apply Kd.S_drew)); exact HO_14.out⟩, ⟨by (try simp only [hl3_1]); (try simp only [hl3_2]); (with_reducible repeat (first | apply Kd.R_alloc | apply Kd.R_drewN | apply Kd.R_drew)); exact HO_21.out⟩, ⟨by (try simp only [hl3_1]); (try simp only [hl3_2]); (with_reducible repeat (first | refine blk_drewN ?_ _ | refine blk_drew ?_ | refine blk_alloc ?_ _)); exact BK188.out⟩, ⟨by repeat (first | (with_reducible first | exact HB.out | apply below_alloc | apply pw_below_drewN | apply below_drew1 | refine below_set ?_ GE188.out) | exact HB.out)⟩⟩
               ·rw [if_neg c23] at H
                exact absurd H (by simp)
              ·rw [if_neg c22] at H
               exact absurd H (by simp)
             ·rw [if_neg c21] at H
              exact absurd H (by simp)
            ·rw [if_neg c20] at H
             exact absurd H (by simp)
           ·rw [if_neg c19] at H
            have c19b0 : decide (x23_2 < ((rd_L2 t193 x16_1).length : Int)) = false := decide_eq_false c19
            clear c19
            have H' := Aside0.mk H
            clear H
            go_wp2
            (try simp only [← hl3_1, ← hl3_2])
            go_roundg k2
            case measure => have := HK1.out; have := HK2.out; omega
            case rel => exact ⟨(x3_2), (wrap64 (x16_1 + 1)), zT, H', ⟨by have := HK1.out; have := HK2.out; omega⟩, ⟨by (try simp only [hl3_1]); (try simp only [hl3_2]); (with_reducible repeat (first | apply Kd.R_alloc | apply Kd.R_drewN | apply Kd.R_drew)); exact HO_3.out⟩, ⟨by (try simp only [hl3_1]); (try simp only [hl3_2]); (with_reducible repeat (first | apply Kd.S_alloc | apply Kd.S_drewN | apply Kd.S_drew)); exact HO_14.out⟩, ⟨by (try simp only [hl3_1]); (try simp only [hl3_2]); (with_reducible repeat (first | refine blk_drewN ?_ _ | refine blk_drew ?_ | refine blk_alloc ?_ _)); exact BK188.out⟩, ⟨by repeat (first | (with_reducible first | exact HB.out | apply below_alloc | apply pw_below_drewN | apply below_drew1 | refine below_set ?_ GE188.out) | exact HB.out)⟩⟩
        ·rw [if_neg c18] at H
         exact absurd H (by simp)
       ·rw [if_neg c17] at H
        exact absurd H (by simp)
      ·rw [if_neg c16] at H
       have c16b0 : decide (x16_1 < (t193.length : Int)) = false := decide_eq_false c16
       clear c16
       obtain rfl := Option.some.inj H
       go_wp2
       go_ret
       exact ⟨_, by first | rfl | (simp [errW_none, errW_some] <;> rfl) | (simp [*, errW_none, errW_some] <;> rfl), by (with_reducible repeat (first | apply Kd.R_alloc | apply Kd.R_drewN | apply Kd.R_drew)); exact HO_3.out, by repeat (first | (with_reducible first | exact HB.out | apply below_alloc | apply pw_below_drewN | apply below_drew1 | refine below_set ?_ GE188.out) | exact HB.out)⟩
   ·rw [if_neg c4] at H
    exact absurd H (by simp)
  ·rw [if_neg c3] at H
   exact absurd H (by simp)
 ·rw [if_neg c2] at H
  exact absurd H (by simp)
/-! ### dag_Cut: function 30 -/
def dag_Cut.l0 : Nat → List Int → List Bool → Int → Int → Option (List Int × Int)
 | 0, _, _, _, _ => none
 | k + 1, x6, x22, x23, x24 => if x24 < x23 then (if 0 ≤ x24 then (if x24 < (x22.length : Int) then (if rdOf false x22 x24 = true then (if x6.length < 17592186044416 then (dag_Cut.l0 k (x6 ++ [x24]) x22 x23 (wrap64 (x24 + 1))) else (none)) else (dag_Cut.l0 k x6 x22 x23 (wrap64 (x24 + 1)))) else (none)) else (none)) else (some (x6, 0))
def dag_Cut.f (k : Nat) (a0_0 : Int) (l0_1 : List (S69)) : Option (List Int × Int) := (dag_Valid.f k a0_0 l0_1).bind fun t202 => (if t202 = 0 then ((dag_reached.f k a0_0 l0_1).bind fun t203 => (if 0 ≤ (wrap64 (a0_0 - 1)) then (if (wrap64 (a0_0 - 1)) < (t203.length : Int) then (if rdOf false t203 (wrap64 (a0_0 - 1)) = true then (some (([] : List Int), 11)) else (dag_Cut.l0 k ([] : List Int) t203 (t203.length : Int) 0)) else (none)) else (none))) else (some (([] : List Int), t202)))
theorem dag_Cut.mono_l : ∀ k, (∀ y0 y1 y2 y3, LeO (dag_Cut.l0 k y0 y1 y2 y3) (dag_Cut.l0 (k + 1) y0 y1 y2 y3))
 | 0 => fun _ _ _ _ r h => by simp [dag_Cut.l0] at h
 | k + 1 => by
  have ih0 := dag_Cut.mono_l k
  ·intro y0 y1 y2 y3
   unfold dag_Cut.l0
   repeat' first
   | (with_reducible exact ih0 _ _ _ _)
   | (with_reducible exact dag_Valid.mono _ _ _)
   | (with_reducible exact dag_reached.mono _ _ _)
   | (with_reducible exact LeO.refl _)
   | (with_reducible exact LeO.none _)
   | (with_reducible refine LeO.ite ?_ ?_)
   | (with_reducible refine LeO.bind ?_ (fun _ => ?_))
   | exact ih0 _ _ _ _
   | exact dag_Valid.mono _ _ _
   | exact dag_reached.mono _ _ _
   | exact LeO.none _
   | refine LeO.ite ?_ ?_
   | refine LeO.bind ?_ (fun _ => ?_)
theorem dag_Cut.mono : ∀ a0 a1 k, LeO (dag_Cut.f k a0 a1) (dag_Cut.f (k + 1) a0 a1) := by
 intro a0 a1 k
 have ih0 := dag_Cut.mono_l k
 unfold dag_Cut.f
 repeat' first
   | (with_reducible exact ih0 _ _ _ _)
   | (with_reducible exact dag_Valid.mono _ _ _)
   | (with_reducible exact dag_reached.mono _ _ _)
   | (with_reducible exact LeO.refl _)
   | (with_reducible exact LeO.none _)
   | (with_reducible refine LeO.ite ?_ ?_)
   | (with_reducible refine LeO.bind ?_ (fun _ => ?_))
   | exact ih0 _ _ _ _
   | exact dag_Valid.mono _ _ _
   | exact dag_reached.mono _ _ _
   | exact LeO.none _
   | refine LeO.ite ?_ ?_
   | refine LeO.bind ?_ (fun _ => ?_)
set_option maxHeartbeats 8000000 in
set_option maxRecDepth 100000 in
theorem dag_Cut.calls (k : Nat) (a0_0 : Int) (A0_1 : Option Addr) (c0_1 : Nat) (l0_1 : List (S69)) (r1 : List Int) (r2 : Int) (w : World) (hr0_1 : Kd.C k69 w A0_1 l0_1.length l0_1) (hc0_1 : l0_1.length ≤ c0_1) (h : dag_Cut.f k a0_0 l0_1 = some (r1, r2)) :
  Calls Try.prog 30 #[.agg #[.int .i64 a0_0, .slice A0_1 l0_1.length c0_1]] w fun e w' => ∃ v0_ : Value, e = .returned (.tuple #[v0_, .int .i64 r2]) ∧ Kd.R (Kd.int .i64) 3 w' w.heap.size (fun _ => True) v0_ r1 ∧ Below w.heap.size w w' := by
 have hu24 := Try.underlying24
 have hu3 := Try.underlying3
 have hu4 := Try.underlying4
 have HR0_1 := Aside0.mk hr0_1
 have HC0_1 := Aside0.mk hc0_1
 clear hr0_1 hc0_1
 have HB := Aside0.mk (Below.refl w.heap.size w)
 have H : ((dag_Valid.f k a0_0 l0_1).bind fun t202 => (if t202 = 0 then ((dag_reached.f k a0_0 l0_1).bind fun t203 => (if 0 ≤ (wrap64 (a0_0 - 1)) then (if (wrap64 (a0_0 - 1)) < (t203.length : Int) then (if rdOf false t203 (wrap64 (a0_0 - 1)) = true then (some (([] : List Int), 11)) else (dag_Cut.l0 k ([] : List Int) t203 (t203.length : Int) 0)) else (none)) else (none))) else (some (([] : List Int), t202)))) = some (r1, r2) := h
 clear h
 replace H := Option.bind_eq_some_iff.mp H
 obtain ⟨t202, A20, H⟩ := H
 replace H : (if t202 = 0 then ((dag_reached.f k a0_0 l0_1).bind fun t203 => (if 0 ≤ (wrap64 (a0_0 - 1)) then (if (wrap64 (a0_0 - 1)) < (t203.length : Int) then (if rdOf false t203 (wrap64 (a0_0 - 1)) = true then (some (([] : List Int), 11)) else (dag_Cut.l0 k ([] : List Int) t203 (t203.length : Int) 0)) else (none)) else (none))) else (some (([] : List Int), t202))) = some (r1, r2) := H
 have A2 := Aside0.mk A20
 clear A20
 have HC3 := Aside0.mk H
 clear H
 go_enter Try.func30, Try.ntmps30
 go_upto_if 12 with (first | ((with_reducible refine gate_dst (N := 1) rfl ?_); refine box_event ?hg (N := 1) ?hd (cs := #[.int .i64 a0_0, .slice A0_1 l0_1.length c0_1]) (t := 24) ?hr ?_; (case hd => rfl); (case hg => rfl); (case hr => first | (go_simp; done) | (go_simp; rfl)); intro gb201 hg w4 hbox hb; have n0_ := Aside0.mk (below_step zB hb); have n1_ := Aside0.mk (hbox); have n2_ := Aside0.mk ((by rw [hg]; exact (below_size zB) : w.heap.size ≤ gb201)); have n3_ := Aside0.mk ((by rw [hg]; exact (below_size zB) : w.heap.size ≤ gb201)); clear HB; have HB := n0_; have BK201 := n1_; have GW201 := n2_; have GE201 := n3_; clear n0_ n1_ n2_ n3_; clear hb hbox hg; have hcz5_0 : w4.cell? ⟨gb201, 0, none⟩ = some (.int .i64 a0_0) := (blk_cell BK201.out 0).trans rfl; have hcz5_1 : w4.cell? ⟨gb201, 1, none⟩ = some (.slice A0_1 l0_1.length c0_1) := (blk_cell BK201.out 1).trans rfl; have hfz5_0 := blk_frozen BK201.out 0; have hfz5_1 := blk_frozen BK201.out 1) | ((with_reducible refine gate_callee (f := 27) rfl ?_); refine goesL_ (some 10) rfl rfl Try.func27 zK rfl #[.agg #[.int .i64 a0_0, .slice A0_1 l0_1.length c0_1]] rfl zM ?_; (with_reducible refine (dag_Valid.calls k a0_0 _ _ l0_1 t202 _ ?side1 ?side2 A2.out).mono ?_); (case side1 => repeat (first | exact (Kd.C_below HR0_1.out HB.out) | (with_reducible refine Kd.C_alloc ?_ _) | (with_reducible refine Kd.C_drewN ?_ _) | (with_reducible refine Kd.C_drew ?_))); (case side2 => exact HC0_1.out); rintro e w6 ⟨rfl, hb⟩; refine ⟨_, rfl, ?_⟩; have n0_ := Aside0.mk (blk_below (g := gb201) (o := .cells #[.int .i64 a0_0, .slice A0_1 l0_1.length c0_1] 24 (0, 0)) (zk BK201) hb); have n1_ := Aside0.mk (below_step zB hb); clear BK201; clear HB; have BK201 := n0_; have HB := n1_; clear n0_ n1_; (try clear hb); (try clear hb2); (try clear hk); (try clear hi)))
 (try simp only [Act.put, List.setIfInBounds_toArray, List.set_cons_zero, List.set_cons_succ])
 have H := HC3.out
 clear HC3
 by_cases c7 : t202 = 0
 ·rw [if_pos c7] at H
  have c7b0 : (t202 == 0) = true := beq_iff_eq.mpr c7
  have c7b1 : (t202 != 0) = false := bne_eq_false_iff_eq.mpr c7
  clear c7
  (first | rw [c7b0] | (simp only [i64_w, i32_w]; rw [c7b0]) | skip)
  (try rw [c7b1])
  replace H := Option.bind_eq_some_iff.mp H
  obtain ⟨t203, A80, H⟩ := H
  replace H : (if 0 ≤ (wrap64 (a0_0 - 1)) then (if (wrap64 (a0_0 - 1)) < (t203.length : Int) then (if rdOf false t203 (wrap64 (a0_0 - 1)) = true then (some (([] : List Int), 11)) else (dag_Cut.l0 k ([] : List Int) t203 (t203.length : Int) 0)) else (none)) else (none)) = some (r1, r2) := H
  have A8 := Aside0.mk A80
  clear A80
  obtain ⟨ji9, hji9⟩ : ∃ j_ : Int, (wrap64 (a0_0 - 1)) = j_ := ⟨_, rfl⟩
  replace H : (if 0 ≤ (ji9) then (if (ji9) < (t203.length : Int) then (if rdOf false t203 (ji9) = true then (some (([] : List Int), 11)) else (dag_Cut.l0 k ([] : List Int) t203 (t203.length : Int) 0)) else (none)) else (none)) = some (r1, r2) := by first | (rw [hji9] at H; exact H) | (simp only [hji9] at H ⊢; exact H)
  (try rw [hji9] at A8)
  have hji9w : (IntKind.i64.wrap (a0_0 - 1)) = ji9 := (i64_w _).trans hji9
  by_cases c10 : 0 ≤ (ji9)
  ·rw [if_pos c10] at H
   have c10b0 : decide (0 ≤ (ji9)) = true := decide_eq_true c10
   clear c10
   by_cases c11 : (ji9) < (t203.length : Int)
   ·rw [if_pos c11] at H
    have c11b0 : decide ((ji9) < (t203.length : Int)) = true := decide_eq_true c11
    clear c11
    have HC12 := Aside0.mk H
    clear H
    have hcz13_0 : w6.cell? ⟨gb201, 0, none⟩ = some (.int .i64 a0_0) := (blk_cell BK201.out 0).trans rfl
    have hcz13_1 : w6.cell? ⟨gb201, 1, none⟩ = some (.slice A0_1 l0_1.length c0_1) := (blk_cell BK201.out 1).trans rfl
    have hfz13_0 := blk_frozen BK201.out 0
    have hfz13_1 := blk_frozen BK201.out 1
    go_upto_if 21 with (first | ((with_reducible refine gate_callee (f := 65) rfl ?_); refine goesL_ (some 15) rfl rfl Try.func65 zK rfl #[.agg #[.int .i64 a0_0, .slice A0_1 l0_1.length c0_1]] rfl zM ?_; (with_reducible refine (dag_reached.calls k a0_0 _ _ l0_1 t203 _ ?side1 ?side2 A8.out).mono ?_); (case side1 => repeat (first | exact (Kd.C_below HR0_1.out HB.out) | (with_reducible refine Kd.C_alloc ?_ _) | (with_reducible refine Kd.C_drewN ?_ _) | (with_reducible refine Kd.C_drew ?_))); (case side2 => exact HC0_1.out); rintro e w14 ⟨v204, rfl, ho0, hb⟩; refine ⟨_, rfl, ?_⟩; have n0_ := Aside0.mk (Kd.R_lower ho0 (below_size zB)); have n1_ := Aside0.mk (blk_below (g := gb201) (o := .cells #[.int .i64 a0_0, .slice A0_1 l0_1.length c0_1] 24 (0, 0)) (zk BK201) hb); have n2_ := Aside0.mk (below_step zB hb); clear BK201; clear HB; have HO205 := n0_; have BK201 := n1_; have HB := n2_; clear n0_ n1_ n2_; (try clear hb); (try clear hb2); (try clear hk); (try clear hi); (try clear ho0); have hcz15_0 : w14.cell? ⟨gb201, 0, none⟩ = some (.int .i64 a0_0) := (blk_cell BK201.out 0).trans rfl; have hcz15_1 : w14.cell? ⟨gb201, 1, none⟩ = some (.slice A0_1 l0_1.length c0_1) := (blk_cell BK201.out 1).trans rfl; have hfz15_0 := blk_frozen BK201.out 0; have hfz15_1 := blk_frozen BK201.out 1; obtain ⟨Ao16, co16, eo16⟩ := Kd.R_slice HO205.out; subst eo16; have p206 : 0 ≤ ((ji9) : Int) := of_decide_eq_true zh; have q206 : (ji9) < (t203.length : Int) := of_decide_eq_true zh; obtain ⟨ad206, e206, hx206_0⟩ := Kd.at_bool (Kd.R_reads' HO205.out).2.2 (ji9) p206 q206; cases e206; replace p206 := eq_true p206; replace q206 := eq_true q206))
    (try simp only [Act.put, List.setIfInBounds_toArray, List.set_cons_zero, List.set_cons_succ])
    have H := HC12.out
    clear HC12
    obtain ⟨bq17, hbq17⟩ : ∃ b_ : Bool, b_ = (rdOf false t203 (ji9)) := ⟨_, rfl⟩
    replace H : (if bq17 = true then (some (([] : List Int), 11)) else (dag_Cut.l0 k ([] : List Int) t203 (t203.length : Int) 0)) = some (r1, r2) := by rw [← hbq17] at H; exact H
    have Nbq17 := Aside0.mk hbq17
    clear hbq17
    (try rw [← Nbq17.out])
    by_cases c18 : bq17 = true
    ·subst c18
     have H1 : (some (([] : List Int), 11)) = some (r1, r2) := by rw [if_pos rfl] at H; exact H
     clear H
     have H := H1
     clear H1
     simp only [Option.some.injEq, Prod.mk.injEq] at H
     obtain ⟨rfl, rfl⟩ := H
     go_wp2
     go_ret2
     exact ⟨_, by first | rfl | (simp [errW_none, errW_some] <;> rfl) | (simp only [← hji9]; first | rfl | (simp [errW_none, errW_some] <;> rfl)) | (simp [*, errW_none, errW_some] <;> rfl), by first | exact Kd.R_nil _ _ _ _ _ | exact Kd.N_nil _ _ _ _ _ | exact Kd.V_nil _ _ _ _ _ | exact Kd.Q_nil _ _ _ _ _ | exact Kd.S_nil _ _ _ _ _, by repeat (first | (with_reducible first | exact HB.out | apply below_alloc | apply pw_below_drewN | apply below_drew1 | refine below_set ?_ GE201.out) | exact HB.out)⟩
    ·replace c18 := Bool.eq_false_iff.mpr c18
     subst c18
     have H1 : (dag_Cut.l0 k ([] : List Int) t203 (t203.length : Int) 0) = some (r1, r2) := by rw [if_neg (show ¬ (false = true) by decide)] at H; exact H
     clear H
     have H := H1
     clear H1
     have H' := Aside0.mk H
     clear H
     go_wp2
     go_loopg [6, 24] k (fun kq v6 v24 w' => ∃ (x6_1 : List Int) (x24_1 : Int), v24 = .int .i64 x24_1 ∧ Aside0 (dag_Cut.l0 kq x6_1 t203 (t203.length : Int) x24_1 = some (r1, r2)) ∧ Aside0 (kq ≤ k) ∧ Aside0 (Kd.R (Kd.int .i64) 3 w' w.heap.size (fun _ => True) v6 x6_1) ∧ Aside0 (Kd.R Kd.bool 4 w' w.heap.size (fun _ => True) (.slice (some ad206) t203.length co16) t203) ∧ Aside0 (w'.heap[gb201]? = some (.cells #[.int .i64 a0_0, (.slice A0_1 l0_1.length c0_1)] 24 (0, 0))) ∧ Aside0 (Below w.heap.size w w'))
     case atStart => exact ⟨(([] : List Int)), (0), zT, H', ⟨Nat.le_refl _⟩, ⟨by first | exact Kd.R_nil _ _ _ _ _ | exact Kd.N_nil _ _ _ _ _ | exact Kd.V_nil _ _ _ _ _ | exact Kd.Q_nil _ _ _ _ _ | exact Kd.S_nil _ _ _ _ _⟩, ⟨by (with_reducible repeat (first | apply Kd.R_alloc | apply Kd.R_drewN | apply Kd.R_drew)); exact HO205.out⟩, ⟨by (with_reducible repeat (first | refine blk_drewN ?_ _ | refine blk_drew ?_ | refine blk_alloc ?_ _)); exact BK201.out⟩, ⟨by repeat (first | (with_reducible first | exact HB.out | apply below_alloc | apply pw_below_drewN | apply below_drew1 | refine below_set ?_ GE201.out) | exact HB.out)⟩⟩
     case round =>
      clear H'
      try clear c7
      try clear c7b0
      try clear c7b1
      try clear c10
      try clear c10b0
      try clear c11
      try clear c11b0
      try clear c18
      try clear hcz13_0
      try clear hcz13_1
      try clear hcz15_0
      try clear hcz15_1
      try clear hcz5_0
      try clear hcz5_1
      try clear hfz13_0
      try clear hfz13_1
      try clear hfz15_0
      try clear hfz15_1
      try clear hfz5_0
      try clear hfz5_1
      try clear hx206_0
      try clear p206
      try clear q206
      obtain ⟨x6_1, x24_1, rfl, HA, HK1, HO_6, HO_22, BK201, HB⟩ := hrel
      cases gk with
      | zero => exact absurd HA.out (by simp [dag_Cut.l0])
      | succ k1 =>
       have H := HA.out
       clear HA
       simp only [dag_Cut.l0] at H
       by_cases c19 : x24_1 < (t203.length : Int)
       ·rw [if_pos c19] at H
        have c19b0 : decide (x24_1 < (t203.length : Int)) = true := decide_eq_true c19
        clear c19
        by_cases c20 : 0 ≤ x24_1
        ·rw [if_pos c20] at H
         have c20b0 : decide (0 ≤ x24_1) = true := decide_eq_true c20
         clear c20
         by_cases c21 : x24_1 < (t203.length : Int)
         ·rw [if_pos c21] at H
          have c21b0 : decide (x24_1 < (t203.length : Int)) = true := decide_eq_true c21
          clear c21
          obtain ⟨bq22, hbq22⟩ : ∃ b_ : Bool, b_ = (rdOf false t203 x24_1) := ⟨_, rfl⟩
          replace H : (if bq22 = true then (if x6_1.length < 17592186044416 then (dag_Cut.l0 k1 (x6_1 ++ [x24_1]) t203 (t203.length : Int) (wrap64 (x24_1 + 1))) else (none)) else (dag_Cut.l0 k1 x6_1 t203 (t203.length : Int) (wrap64 (x24_1 + 1)))) = some (r1, r2) := by rw [← hbq22] at H; exact H
          have Nbq22 := Aside0.mk hbq22
          clear hbq22
          by_cases c23 : bq22 = true
          ·subst c23
           have H1 : (if x6_1.length < 17592186044416 then (dag_Cut.l0 k1 (x6_1 ++ [x24_1]) t203 (t203.length : Int) (wrap64 (x24_1 + 1))) else (none)) = some (r1, r2) := by rw [if_pos rfl] at H; exact H
           clear H
           have H := H1
           clear H1
           by_cases c24 : x6_1.length < 17592186044416
           ·rw [if_pos c24] at H
            have LMc24 := Aside0.mk c24
            clear c24
            obtain ⟨y208, hy208⟩ : ∃ y_ : List Int, y_ = (x6_1 ++ [x24_1]) := ⟨_, rfl⟩
            replace H : (dag_Cut.l0 k1 y208 t203 (t203.length : Int) (wrap64 (x24_1 + 1))) = some (r1, r2) := by first | (rw [hy208]; with_reducible exact H) | (have H2_ := (Option.bind_some _ _).symm.trans H; rw [hy208]; with_reducible exact H2_) | (have H2_ := (Option.bind_some _ _).symm.trans H; with_reducible exact H2_) | with_reducible exact H | (rw [hy208]; exact H) | exact H
            have Ny208 := Aside0.mk hy208
            clear hy208
            have H' := Aside0.mk H
            clear H
            have p207 : 0 ≤ (x24_1 : Int) := of_decide_eq_true zh
            have q207 : x24_1 < (t203.length : Int) := of_decide_eq_true zh
            obtain ⟨ad207, e207, hx207_0⟩ := Kd.at_bool (Kd.R_reads' HO_22.out).2.2 x24_1 p207 q207
            (try rw [← Nbq17.out] at hx207_0)
            (try rw [← Nbq22.out] at hx207_0)
            obtain rfl : ad206 = ad207 := (by injection e207)
            replace p207 := eq_true p207
            replace q207 := eq_true q207
            go_wp2_with (first | ((with_reducible refine gate_builtin (b := .append) (xs := #[.tmp 30, .tmp 32]) rfl ?_); at_builtin; refine Kd.R_append (Kd.int .i64) (w0 := w) w.heap.size rfl (.tmp 30) (.tmp 32) 25 3 (.int .i64 0) 8 rfl Try.underlying25 info3 rfl (by decide) (by omega) u6 x6_1 x24_1 [.int .i64 x24_1] (fun _ => True) (fun _ => False) rfl rfl ?aP (fun _ hk => hk.elim) ?aF ?aO ?aB ?aS ?aL ?_; (case aP => exact rfl); (case aB => exact zB); (case aF => exact (fun _ _ => trivial)); (case aO => exact (zR HO_6)); (case aS => exact (below_size zB)); (case aL => have := LMc24.out; omega); intro v209 w25 ho hb hg hat; rw [← Ny208.out] at ho; have n0_ := Aside0.mk (Kd.R_over' (zR HO_22) (Kd.R_typed (zR HO_6)) (by decide) hg); have n1_ := Aside0.mk (blk_grown (g := gb201) (o := .cells #[.int .i64 a0_0, .slice A0_1 l0_1.length c0_1] 24 (0, 0)) (zk BK201) hg (Kd.R_ne HO_6.out BK201.out (by decide))); have n2_ := Aside0.mk (hb); have n3_ := Aside0.mk (ho); clear HO_22; clear BK201; clear HB; clear HO_6; have HO_22 := n0_; have BK201 := n1_; have HB := n2_; have HO210 := n3_; clear n0_ n1_ n2_ n3_; clear ho hb hg hat))
            go_roundg k1
            case measure => have := HK1.out; omega
            case rel => exact ⟨(y208), (wrap64 (x24_1 + 1)), zT, H', ⟨by have := HK1.out; omega⟩, ⟨by (with_reducible repeat (first | apply Kd.R_alloc | apply Kd.R_drewN | apply Kd.R_drew)); exact HO210.out⟩, ⟨by (with_reducible repeat (first | apply Kd.R_alloc | apply Kd.R_drewN | apply Kd.R_drew)); exact HO_22.out⟩, ⟨by (with_reducible repeat (first | refine blk_drewN ?_ _ | refine blk_drew ?_ | refine blk_alloc ?_ _)); exact BK201.out⟩, ⟨by repeat (first | (with_reducible first | exact HB.out | apply below_alloc | apply pw_below_drewN | apply below_drew1 | refine below_set ?_ GE201.out) | exact HB.out)⟩⟩
           ·rw [if_neg c24] at H
            exact absurd H (by simp)
          ·replace c23 := Bool.eq_false_iff.mpr c23
           subst c23
           have H1 : (dag_Cut.l0 k1 x6_1 t203 (t203.length : Int) (wrap64 (x24_1 + 1))) = some (r1, r2) := by rw [if_neg (show ¬ (false = true) by decide)] at H; exact H
           clear H
           have H := H1
           clear H1
           have H' := Aside0.mk H
           clear H
           have p207 : 0 ≤ (x24_1 : Int) := of_decide_eq_true zh
           have q207 : x24_1 < (t203.length : Int) := of_decide_eq_true zh
           obtain ⟨ad207, e207, hx207_0⟩ := Kd.at_bool (Kd.R_reads' HO_22.out).2.2 x24_1 p207 q207
           (try rw [← Nbq17.out] at hx207_0)
           (try rw [← Nbq22.out] at hx207_0)
           obtain rfl : ad206 = ad207 := (by injection e207)
           replace p207 := eq_true p207
           replace q207 := eq_true q207
           go_wp2
           go_roundg k1
           case measure => have := HK1.out; omega
           case rel => exact ⟨(x6_1), (wrap64 (x24_1 + 1)), zT, H', ⟨by have := HK1.out; omega⟩, ⟨by (with_reducible repeat (first | apply Kd.R_alloc | apply Kd.R_drewN | apply Kd.R_drew)); exact HO_6.out⟩, ⟨by (with_reducible repeat (first | apply Kd.R_alloc | apply Kd.R_drewN | apply Kd.R_drew)); exact HO_22.out⟩, ⟨by (with_reducible repeat (first | refine blk_drewN ?_ _ | refine blk_drew ?_ | refine blk_alloc ?_ _)); exact BK201.out⟩, ⟨by repeat (first | (with_reducible first | exact HB.out | apply below_alloc | apply pw_below_drewN | apply below_drew1 | refine below_set ?_ GE201.out) | exact HB.out)⟩⟩
         ·rw [if_neg c21] at H
          exact absurd H (by simp)
        ·rw [if_neg c20] at H
         exact absurd H (by simp)
       ·rw [if_neg c19] at H
        have c19b0 : decide (x24_1 < (t203.length : Int)) = false := decide_eq_false c19
        clear c19
        simp only [Option.some.injEq, Prod.mk.injEq] at H
        obtain ⟨rfl, rfl⟩ := H
        go_wp2
        go_ret2
        exact ⟨_, by first | rfl | (simp [errW_none, errW_some] <;> rfl) | (simp only [← hji9]; first | rfl | (simp [errW_none, errW_some] <;> rfl)) | (simp [*, errW_none, errW_some] <;> rfl), by (with_reducible repeat (first | apply Kd.R_alloc | apply Kd.R_drewN | apply Kd.R_drew)); exact HO_6.out, by repeat (first | (with_reducible first | exact HB.out | apply below_alloc | apply pw_below_drewN | apply below_drew1 | refine below_set ?_ GE201.out) | exact HB.out)⟩
   ·rw [if_neg c11] at H
    exact absurd H (by simp)
  ·rw [if_neg c10] at H
   exact absurd H (by simp)
 ·rw [if_neg c7] at H
  have c7b0 : (t202 == 0) = false := beq_eq_false_iff_ne.mpr c7
  have c7b1 : (t202 != 0) = true := bne_iff_ne.mpr c7
  (first | rw [c7b0] | (simp only [i64_w, i32_w]; rw [c7b0]) | skip)
  (try rw [c7b1])
  simp only [Option.some.injEq, Prod.mk.injEq] at H
  obtain ⟨rfl, rfl⟩ := H
  go_wp2
  go_ret2
  exact ⟨_, by first | rfl | (simp [errW_none, errW_some] <;> rfl) | (simp [*, errW_none, errW_some] <;> rfl), by first | exact Kd.R_nil _ _ _ _ _ | exact Kd.N_nil _ _ _ _ _ | exact Kd.V_nil _ _ _ _ _ | exact Kd.Q_nil _ _ _ _ _ | exact Kd.S_nil _ _ _ _ _, by repeat (first | (with_reducible first | exact HB.out | apply below_alloc | apply pw_below_drewN | apply below_drew1 | refine below_set ?_ GE201.out) | exact HB.out)⟩
/-! ### slices_Equal_int_int: function 32 -/
def slices_Equal_int_int.l0 : Nat → List Int → List Int → Int → Int → Option (Bool)
 | 0, _, _, _, _ => none
 | k + 1, x0, x1, x12, x13 => if x13 < x12 then (if 0 ≤ x13 then (if x13 < (x0.length : Int) then (if x13 < (x1.length : Int) then (if (rd x0 x13) = (rd x1 x13) then (slices_Equal_int_int.l0 k x0 x1 x12 (wrap64 (x13 + 1))) else (some false)) else (none)) else (none)) else (none)) else (some true)
def slices_Equal_int_int.f (k : Nat) (l0 : List Int) (l1 : List Int) : Option (Bool) := if (l0.length : Int) = (l1.length : Int) then (slices_Equal_int_int.l0 k l0 l1 (l0.length : Int) 0) else (some false)
theorem slices_Equal_int_int.mono_l : ∀ k, (∀ y0 y1 y2 y3, LeO (slices_Equal_int_int.l0 k y0 y1 y2 y3) (slices_Equal_int_int.l0 (k + 1) y0 y1 y2 y3))
 | 0 => fun _ _ _ _ r h => by simp [slices_Equal_int_int.l0] at h
 | k + 1 => by
  have ih0 := slices_Equal_int_int.mono_l k
  ·intro y0 y1 y2 y3
   unfold slices_Equal_int_int.l0
   repeat' first
   | (with_reducible exact ih0 _ _ _ _)
   | (with_reducible exact LeO.refl _)
   | (with_reducible exact LeO.none _)
   | (with_reducible refine LeO.ite ?_ ?_)
   | (with_reducible refine LeO.bind ?_ (fun _ => ?_))
   | exact ih0 _ _ _ _
   | exact LeO.none _
   | refine LeO.ite ?_ ?_
   | refine LeO.bind ?_ (fun _ => ?_)
theorem slices_Equal_int_int.mono : ∀ a0 a1 k, LeO (slices_Equal_int_int.f k a0 a1) (slices_Equal_int_int.f (k + 1) a0 a1) := by
 intro a0 a1 k
 have ih0 := slices_Equal_int_int.mono_l k
 unfold slices_Equal_int_int.f
 repeat' first
   | (with_reducible exact ih0 _ _ _ _)
   | (with_reducible exact LeO.refl _)
   | (with_reducible exact LeO.none _)
   | (with_reducible refine LeO.ite ?_ ?_)
   | (with_reducible refine LeO.bind ?_ (fun _ => ?_))
   | exact ih0 _ _ _ _
   | exact LeO.none _
   | refine LeO.ite ?_ ?_
   | refine LeO.bind ?_ (fun _ => ?_)
set_option maxHeartbeats 8000000 in
set_option maxRecDepth 100000 in
theorem slices_Equal_int_int.calls (k : Nat) (A0 : Option Addr) (c0 : Nat) (l0 : List Int) (A1 : Option Addr) (c1 : Nat) (l1 : List Int) (r : Bool) (w : World) (hr0 : Kd.C (Kd.int .i64) w A0 l0.length l0) (hc0 : l0.length ≤ c0) (hr1 : Kd.C (Kd.int .i64) w A1 l1.length l1) (hc1 : l1.length ≤ c1) (h : slices_Equal_int_int.f k l0 l1 = some r) :
  Calls Try.prog 32 #[.slice A0 l0.length c0, .slice A1 l1.length c1] w fun e w' => e = .returned (.bool r) ∧ Drawn0 w w' := by
 have hu3 := Try.underlying3
 have HR0 := Aside0.mk hr0
 have HC0 := Aside0.mk hc0
 clear hr0 hc0
 have HR1 := Aside0.mk hr1
 have HC1 := Aside0.mk hc1
 clear hr1 hc1
 have H : (if (l0.length : Int) = (l1.length : Int) then (slices_Equal_int_int.l0 k l0 l1 (l0.length : Int) 0) else (some false)) = some r := h
 clear h
 by_cases c3 : (l0.length : Int) = (l1.length : Int)
 ·rw [if_pos c3] at H
  have c3b0 : ((l0.length : Int) == (l1.length : Int)) = true := beq_iff_eq.mpr c3
  have c3b1 : ((l0.length : Int) != (l1.length : Int)) = false := bne_eq_false_iff_eq.mpr c3
  have c3b2 : (l0.length == l1.length) = true := by first | simpa using c3 | (simp at c3 ⊢; omega)
  clear c3
  have H' := Aside0.mk H
  clear H
  go_enter Try.func32, Try.ntmps32
  go_wp2
  repeat (go_quiet (fail); try go_wp2)
  go_loopg [13] k (fun kq v13 w' => ∃ (x13_1 : Int), v13 = .int .i64 x13_1 ∧ Aside0 (slices_Equal_int_int.l0 kq l0 l1 (l0.length : Int) x13_1 = some r) ∧ Aside0 (kq ≤ k) ∧ Drawn0 w w')
  case atStart => exact ⟨(0), zT, H', ⟨Nat.le_refl _⟩, by repeat (first | exact Drawn0.refl _ | apply Drawn0.step)⟩
  case round =>
   clear H'
   try clear c3
   try clear c3b0
   try clear c3b1
   try clear c3b2
   obtain ⟨x13_1, rfl, HA, HK1, ⟨m1, rfl⟩⟩ := hrel
   cases gk with
   | zero => exact absurd HA.out (by simp [slices_Equal_int_int.l0])
   | succ k1 =>
    have H := HA.out
    clear HA
    simp only [slices_Equal_int_int.l0] at H
    by_cases c4 : x13_1 < (l0.length : Int)
    ·rw [if_pos c4] at H
     have c4b0 : decide (x13_1 < (l0.length : Int)) = true := decide_eq_true c4
     clear c4
     by_cases c5 : 0 ≤ x13_1
     ·rw [if_pos c5] at H
      have c5b0 : decide (0 ≤ x13_1) = true := decide_eq_true c5
      clear c5
      by_cases c6 : x13_1 < (l0.length : Int)
      ·rw [if_pos c6] at H
       have c6b0 : decide (x13_1 < (l0.length : Int)) = true := decide_eq_true c6
       clear c6
       by_cases c7 : x13_1 < (l1.length : Int)
       ·rw [if_pos c7] at H
        have c7b0 : decide (x13_1 < (l1.length : Int)) = true := decide_eq_true c7
        clear c7
        by_cases c8 : (rd l0 x13_1) = (rd l1 x13_1)
        ·rw [if_pos c8] at H
         have c8b0 : ((rd l0 x13_1) == (rd l1 x13_1)) = true := beq_iff_eq.mpr c8
         have c8b1 : ((rd l0 x13_1) != (rd l1 x13_1)) = false := bne_eq_false_iff_eq.mpr c8
         clear c8
         have H' := Aside0.mk H
         clear H
         have p211 : 0 ≤ (x13_1 : Int) := of_decide_eq_true zh
         have q211 : x13_1 < (l0.length : Int) := of_decide_eq_true zh
         obtain ⟨ad211, e211, hx211_0⟩ := Kd.at_int HR0.out x13_1 p211 q211
         cases e211
         replace p211 := eq_true p211
         replace q211 := eq_true q211
         have p212 : 0 ≤ (x13_1 : Int) := of_decide_eq_true zh
         have q212 : x13_1 < (l1.length : Int) := of_decide_eq_true zh
         obtain ⟨ad212, e212, hx212_0⟩ := Kd.at_int HR1.out x13_1 p212 q212
         cases e212
         replace p212 := eq_true p212
         replace q212 := eq_true q212
         go_wp2
         repeat (go_quiet (fail); try go_wp2)
         go_roundg k1
         case measure => have := HK1.out; omega
         case rel => exact ⟨(wrap64 (x13_1 + 1)), zT, H', ⟨by have := HK1.out; omega⟩, by repeat (first | exact Drawn0.refl _ | apply Drawn0.step)⟩
        ·rw [if_neg c8] at H
         have c8b0 : ((rd l0 x13_1) == (rd l1 x13_1)) = false := beq_eq_false_iff_ne.mpr c8
         have c8b1 : ((rd l0 x13_1) != (rd l1 x13_1)) = true := bne_iff_ne.mpr c8
         obtain rfl := Option.some.inj H
         have p211 : 0 ≤ (x13_1 : Int) := of_decide_eq_true zh
         have q211 : x13_1 < (l0.length : Int) := of_decide_eq_true zh
         obtain ⟨ad211, e211, hx211_0⟩ := Kd.at_int HR0.out x13_1 p211 q211
         cases e211
         replace p211 := eq_true p211
         replace q211 := eq_true q211
         have p212 : 0 ≤ (x13_1 : Int) := of_decide_eq_true zh
         have q212 : x13_1 < (l1.length : Int) := of_decide_eq_true zh
         obtain ⟨ad212, e212, hx212_0⟩ := Kd.at_int HR1.out x13_1 p212 q212
         cases e212
         replace p212 := eq_true p212
         replace q212 := eq_true q212
         go_wp2
         repeat (go_quiet (fail); try go_wp2)
         go_ret
         exact ⟨by first | rfl | (simp; done) | (simp [*]; done), by repeat (first | exact Drawn0.refl _ | apply Drawn0.step)⟩
       ·rw [if_neg c7] at H
        exact absurd H (by simp)
      ·rw [if_neg c6] at H
       exact absurd H (by simp)
     ·rw [if_neg c5] at H
      exact absurd H (by simp)
    ·rw [if_neg c4] at H
     have c4b0 : decide (x13_1 < (l0.length : Int)) = false := decide_eq_false c4
     clear c4
     obtain rfl := Option.some.inj H
     go_wp2
     repeat (go_quiet (fail); try go_wp2)
     go_ret
     exact ⟨by first | rfl | (simp; done) | (simp [*]; done), by repeat (first | exact Drawn0.refl _ | apply Drawn0.step)⟩
 ·rw [if_neg c3] at H
  have c3b0 : ((l0.length : Int) == (l1.length : Int)) = false := beq_eq_false_iff_ne.mpr c3
  have c3b1 : ((l0.length : Int) != (l1.length : Int)) = true := bne_iff_ne.mpr c3
  have c3b2 : (l0.length == l1.length) = false := by first | simpa using c3 | (simp at c3 ⊢; omega)
  obtain rfl := Option.some.inj H
  go_enter Try.func32, Try.ntmps32
  go_wp2
  repeat (go_quiet (fail); try go_wp2)
  go_ret
  exact ⟨by first | rfl | (simp; done) | (simp [*]; done), by repeat (first | exact Drawn0.refl _ | apply Drawn0.step)⟩
end Go.Proofs.Ytanbffoilianhaa.F
