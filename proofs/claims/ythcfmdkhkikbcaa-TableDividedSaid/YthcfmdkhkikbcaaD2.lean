-- Written by wip/tools/myprint.py, a program of this session's.
import Derived.Test.YthcfmdkhkikbcaaD0
import Derived.Test.YthcfmdkhkikbcaaD1
namespace Go.Proofs.Ythcfmdkhkikbcaa.D
open Go.RowKit Go.Proofs.YthcfmdkhkikbcaaW.PrintWords Go.Proofs.YthcfmdkhkikbcaaW.PrintLast Go.Proofs.YthcfmdkhkikbcaaW.PrintMore
attribute [local go_sem] max2_int min2_int max_two min_two max_three min_three max_four min_four   -- for this text's walks alone
set_option linter.unusedVariables false
set_option linter.unusedSimpArgs false
/-! ### table_over_table_combine_1_table_Join_1: function 1000059 -/
def table_over_table_combine_1_table_Join_1.l0 : Nat → List Int → Int → Int → List Int → List Int → List Int → List Int → List Int → List Int → Option (List Int × List Int)
 | 0, _, _, _, _, _, _, _, _, _ => none
 | k + 1, x0, x12, x13, x267000, x267001, x268000, x268001, x273000, x273001 => if x13 < x12 then ((table_assignment.f k x0 x13).bind fun t273 => ((table_combine_1_table_Join_1.f k t273 x267000 x267001 x268000 x268001).bind fun t274 => (if t274 = true then (if x273001.length < 17592186044416 then (table_over_table_combine_1_table_Join_1.l0 k x0 x12 (wrap64 (x13 + 1)) x267000 x267001 x268000 x268001 x273000 (x273001 ++ [x13])) else (none)) else (table_over_table_combine_1_table_Join_1.l0 k x0 x12 (wrap64 (x13 + 1)) x267000 x267001 x268000 x268001 x273000 x273001)))) else (some (x273000, x273001))
def table_over_table_combine_1_table_Join_1.f (k : Nat) (l0 : List Int) (l1_0 : List Int) (l1_1 : List Int) (l1_2 : List Int) (l1_3 : List Int) : Option (List Int × List Int) := (slices_Clone_int_int.f l0).bind fun t269 => (table_over_table_combine_1_table_Join_1.l0 k l0 (shl .i64 1 (l0.length : Int)) 0 l1_0 l1_1 l1_2 l1_3 t269 ([] : List Int))
theorem table_over_table_combine_1_table_Join_1.mono_l : ∀ k, (∀ y0 y1 y2 y3 y4 y5 y6 y7 y8, LeO (table_over_table_combine_1_table_Join_1.l0 k y0 y1 y2 y3 y4 y5 y6 y7 y8) (table_over_table_combine_1_table_Join_1.l0 (k + 1) y0 y1 y2 y3 y4 y5 y6 y7 y8))
 | 0 => fun _ _ _ _ _ _ _ _ _ r h => by simp [table_over_table_combine_1_table_Join_1.l0] at h
 | k + 1 => by
  have ih0 := table_over_table_combine_1_table_Join_1.mono_l k
  ·intro y0 y1 y2 y3 y4 y5 y6 y7 y8
   unfold table_over_table_combine_1_table_Join_1.l0
   repeat' first
   | (with_reducible exact ih0 _ _ _ _ _ _ _ _ _)
   | (with_reducible exact table_assignment.mono _ _ _)
   | (with_reducible exact table_combine_1_table_Join_1.mono _ _ _ _ _ _)
   | (with_reducible exact LeO.refl _)
   | (with_reducible exact LeO.none _)
   | (with_reducible refine LeO.ite ?_ ?_)
   | (with_reducible refine LeO.bind ?_ (fun _ => ?_))
   | exact ih0 _ _ _ _ _ _ _ _ _
   | exact table_assignment.mono _ _ _
   | exact table_combine_1_table_Join_1.mono _ _ _ _ _ _
   | exact LeO.none _
   | refine LeO.ite ?_ ?_
   | refine LeO.bind ?_ (fun _ => ?_)
theorem table_over_table_combine_1_table_Join_1.mono : ∀ a0 a1 a2 a3 a4 k, LeO (table_over_table_combine_1_table_Join_1.f k a0 a1 a2 a3 a4) (table_over_table_combine_1_table_Join_1.f (k + 1) a0 a1 a2 a3 a4) := by
 intro a0 a1 a2 a3 a4 k
 have ih0 := table_over_table_combine_1_table_Join_1.mono_l k
 unfold table_over_table_combine_1_table_Join_1.f
 repeat' first
   | (with_reducible exact ih0 _ _ _ _ _ _ _ _ _)
   | (with_reducible exact table_assignment.mono _ _ _)
   | (with_reducible exact table_combine_1_table_Join_1.mono _ _ _ _ _ _)
   | (with_reducible exact LeO.refl _)
   | (with_reducible exact LeO.none _)
   | (with_reducible refine LeO.ite ?_ ?_)
   | (with_reducible refine LeO.bind ?_ (fun _ => ?_))
   | exact ih0 _ _ _ _ _ _ _ _ _
   | exact table_assignment.mono _ _ _
   | exact table_combine_1_table_Join_1.mono _ _ _ _ _ _
   | exact LeO.none _
   | refine LeO.ite ?_ ?_
   | refine LeO.bind ?_ (fun _ => ?_)
set_option maxHeartbeats 8000000 in
set_option maxRecDepth 100000 in
theorem table_over_table_combine_1_table_Join_1.calls (k : Nat) (A0 : Option Addr) (c0 : Nat) (l0 : List Int) (gp1_0 : Nat) (gp1_1 : Nat) (gp1_2 : Nat) (A1_0 : Option Addr) (c1_0 : Nat) (l1_0 : List Int) (A1_1 : Option Addr) (c1_1 : Nat) (l1_1 : List Int) (A1_2 : Option Addr) (c1_2 : Nat) (l1_2 : List Int) (A1_3 : Option Addr) (c1_3 : Nat) (l1_3 : List Int) (r1 : List Int) (r2 : List Int) (w : World) (hr0 : Kd.C (Kd.int .i64) w A0 l0.length l0) (hc0 : l0.length ≤ c0) (hr1_0 : Kd.C (Kd.int .i64) w A1_0 l1_0.length l1_0) (hc1_0 : l1_0.length ≤ c1_0) (hr1_1 : Kd.C (Kd.int .i64) w A1_1 l1_1.length l1_1) (hc1_1 : l1_1.length ≤ c1_1) (hr1_2 : Kd.C (Kd.int .i64) w A1_2 l1_2.length l1_2) (hc1_2 : l1_2.length ≤ c1_2) (hr1_3 : Kd.C (Kd.int .i64) w A1_3 l1_3.length l1_3) (hc1_3 : l1_3.length ≤ c1_3) (hb_gp1_0 : w.heap[gp1_0]? = some (.cells #[.func (.func 47) #[] #[]] 60 (0, 0))) (hb_gp1_1 : w.heap[gp1_1]? = some (.cells #[.slice A1_0 l1_0.length c1_0, .slice A1_1 l1_1.length c1_1] 29 (0, 0))) (hb_gp1_2 : w.heap[gp1_2]? = some (.cells #[.slice A1_2 l1_2.length c1_2, .slice A1_3 l1_3.length c1_3] 29 (0, 0))) (h : table_over_table_combine_1_table_Join_1.f k l0 l1_0 l1_1 l1_2 l1_3 = some (r1, r2)) :
  Calls Try.prog 59 #[.slice A0 l0.length c0, .func (.func 73) #[] #[.pointer (some ⟨gp1_0, 0, none⟩), .pointer (some ⟨gp1_1, 0, none⟩), .pointer (some ⟨gp1_2, 0, none⟩)]] w fun e w' => ∃ v0_ v1_ : Value, e = .returned (.agg #[v0_, v1_]) ∧ Kd.R (Kd.int .i64) 3 w' w.heap.size (fun k_ => some k_ ≠ (v1_ : Value).ownBlock) v0_ r1 ∧ Kd.R (Kd.int .i64) 3 w' w.heap.size (fun k_ => some k_ ≠ (v0_ : Value).ownBlock) v1_ r2 ∧ Below w.heap.size w w' := by
 have hu29 := Try.underlying29
 have hu27 := Try.underlying27
 have HR0 := Aside0.mk hr0
 have HC0 := Aside0.mk hc0
 clear hr0 hc0
 have HR1_0 := Aside0.mk hr1_0
 have HC1_0 := Aside0.mk hc1_0
 clear hr1_0 hc1_0
 have HR1_1 := Aside0.mk hr1_1
 have HC1_1 := Aside0.mk hc1_1
 clear hr1_1 hc1_1
 have HR1_2 := Aside0.mk hr1_2
 have HC1_2 := Aside0.mk hc1_2
 clear hr1_2 hc1_2
 have HR1_3 := Aside0.mk hr1_3
 have HC1_3 := Aside0.mk hc1_3
 clear hr1_3 hc1_3
 have BK265 := Aside0.mk hb_gp1_0
 clear hb_gp1_0
 have BK266 := Aside0.mk hb_gp1_1
 clear hb_gp1_1
 have BK267 := Aside0.mk hb_gp1_2
 clear hb_gp1_2
 have HB := Aside0.mk (Below.refl w.heap.size w)
 have H : ((slices_Clone_int_int.f l0).bind fun t269 => (table_over_table_combine_1_table_Join_1.l0 k l0 (shl .i64 1 (l0.length : Int)) 0 l1_0 l1_1 l1_2 l1_3 t269 ([] : List Int))) = some (r1, r2) := h
 clear h
 replace H := Option.bind_eq_some_iff.mp H
 obtain ⟨t269, A30, H⟩ := H
 replace H : (table_over_table_combine_1_table_Join_1.l0 k l0 (shl .i64 1 (l0.length : Int)) 0 l1_0 l1_1 l1_2 l1_3 t269 ([] : List Int)) = some (r1, r2) := H
 have A3 := Aside0.mk A30
 clear A30
 obtain ⟨ji4, hji4⟩ : ∃ j_ : Int, (shl .i64 1 (l0.length : Int)) = j_ := ⟨_, rfl⟩
 replace H : (table_over_table_combine_1_table_Join_1.l0 k l0 ji4 0 l1_0 l1_1 l1_2 l1_3 t269 ([] : List Int)) = some (r1, r2) := by first | (rw [hji4] at H; exact H) | (simp only [hji4] at H ⊢; exact H)
 (try rw [hji4] at A3)
 have hji4_ : (IntKind.i64.wrap (1 * 2 ^ min (l0.length : Int).toNat 64)) = ji4 := hji4
 have hji4z : (l0.length : Int) ≤ 64 → (IntKind.i64.wrap (1 * 2 ^ (l0.length : Int).toNat)) = ji4 := shl_small hji4
 have hji4p : (IntKind.i64.wrap (1 * 2 ^ min l0.length 64)) = ji4 := hji4_
 have hji4q : (l0.length : Int) ≤ 64 → (IntKind.i64.wrap (1 * 2 ^ l0.length)) = ji4 := hji4z
 have hji4r : (IntKind.i64.wrap (2 ^ min l0.length 64)) = ji4 := by have h_ := hji4p; rw [Int.one_mul] at h_; exact h_
 have hji4s : (l0.length : Int) ≤ 64 → (IntKind.i64.wrap (2 ^ l0.length)) = ji4 := fun hle_ => by have h_ := hji4q hle_; rw [Int.one_mul] at h_; exact h_
 have hji4u : (IntKind.i64.wrap (2 ^ min (l0.length : Int).toNat 64)) = ji4 := by have h_ := hji4_; rw [Int.one_mul] at h_; exact h_
 have hji4v : (l0.length : Int) ≤ 64 → (IntKind.i64.wrap (2 ^ (l0.length : Int).toNat)) = ji4 := fun hle_ => by have h_ := hji4z hle_; rw [Int.one_mul] at h_; exact h_
 have hji4y : (wrap64 (1 * 2 ^ min (l0.length : Int).toNat 64)) = ji4 := (i64_w _).symm.trans hji4_
 have hji4x : (l0.length : Int) ≤ 64 → (wrap64 (1 * 2 ^ (l0.length : Int).toNat)) = ji4 := fun h_ => (i64_w _).symm.trans (hji4z h_)
 have H' := Aside0.mk H
 clear H
 go_enter Try.func59, Try.ntmps59
 go_wp2_with (first | ((with_reducible refine gate_dst (N := 4) rfl ?_); refine box_event ?hg (N := 4) ?hd (cs := #[.slice none 0 0, .slice none 0 0]) (t := 29) ?hr ?_; (case hd => rfl); (case hg => rfl); (case hr => first | (go_simp; done) | (go_simp; rfl)); intro gb268 hg w5 hbox hb; have n0_ := Aside0.mk (blk_below (g := gp1_0) (o := .cells #[.func (.func 47) #[] #[]] 60 (0, 0)) (zk BK265) hb); have n1_ := Aside0.mk (blk_below (g := gp1_1) (o := .cells #[.slice A1_0 l1_0.length c1_0, .slice A1_1 l1_1.length c1_1] 29 (0, 0)) (zk BK266) hb); have n2_ := Aside0.mk (blk_below (g := gp1_2) (o := .cells #[.slice A1_2 l1_2.length c1_2, .slice A1_3 l1_3.length c1_3] 29 (0, 0)) (zk BK267) hb); have n3_ := Aside0.mk (below_step zB hb); have n4_ := Aside0.mk (hbox); have n5_ := Aside0.mk ((by rw [hg]; exact (below_size zB) : w.heap.size ≤ gb268)); have n6_ := Aside0.mk ((by rw [hg]; exact (below_size zB) : w.heap.size ≤ gb268)); have n7_ := Aside0.mk ((by rw [hg]; exact Nat.ne_of_lt (blk_lt (g := gp1_0) (o := .cells #[.func (.func 47) #[] #[]] 60 (0, 0)) (zk BK265)) : gp1_0 ≠ gb268)); have n8_ := Aside0.mk ((by rw [hg]; exact Nat.ne_of_gt (blk_lt (g := gp1_0) (o := .cells #[.func (.func 47) #[] #[]] 60 (0, 0)) (zk BK265)) : gb268 ≠ gp1_0)); have n9_ := Aside0.mk ((by rw [hg]; exact Nat.ne_of_lt (blk_lt (g := gp1_1) (o := .cells #[.slice A1_0 l1_0.length c1_0, .slice A1_1 l1_1.length c1_1] 29 (0, 0)) (zk BK266)) : gp1_1 ≠ gb268)); have n10_ := Aside0.mk ((by rw [hg]; exact Nat.ne_of_gt (blk_lt (g := gp1_1) (o := .cells #[.slice A1_0 l1_0.length c1_0, .slice A1_1 l1_1.length c1_1] 29 (0, 0)) (zk BK266)) : gb268 ≠ gp1_1)); have n11_ := Aside0.mk ((by rw [hg]; exact Nat.ne_of_lt (blk_lt (g := gp1_2) (o := .cells #[.slice A1_2 l1_2.length c1_2, .slice A1_3 l1_3.length c1_3] 29 (0, 0)) (zk BK267)) : gp1_2 ≠ gb268)); have n12_ := Aside0.mk ((by rw [hg]; exact Nat.ne_of_gt (blk_lt (g := gp1_2) (o := .cells #[.slice A1_2 l1_2.length c1_2, .slice A1_3 l1_3.length c1_3] 29 (0, 0)) (zk BK267)) : gb268 ≠ gp1_2)); clear BK265; clear BK266; clear BK267; clear HB; have BK265 := n0_; have BK266 := n1_; have BK267 := n2_; have HB := n3_; have BK268 := n4_; have GW268 := n5_; have GE268 := n6_; have NB265_268 := n7_; have NB268_265 := n8_; have NB266_268 := n9_; have NB268_266 := n10_; have NB267_268 := n11_; have NB268_267 := n12_; clear n0_ n1_ n2_ n3_ n4_ n5_ n6_ n7_ n8_ n9_ n10_ n11_ n12_; clear hb hbox hg) | ((with_reducible refine gate_callee (f := 42) rfl ?_); refine goesL_ (some 8) rfl rfl Try.func42 zK rfl #[.slice A0 l0.length c0] rfl zM ?_; (with_reducible refine (slices_Clone_int_int.calls _ _ l0 t269 _ ?side1 ?side2 A3.out).mono ?_); (case side1 => repeat (first | exact (Kd.C_below HR0.out HB.out) | (with_reducible refine Kd.C_alloc ?_ _) | (with_reducible refine Kd.C_drewN ?_ _) | (with_reducible refine Kd.C_drew ?_))); (case side2 => exact HC0.out); rintro e w6 ⟨v270, rfl, ho0, hb⟩; refine ⟨_, rfl, ?_⟩; have n0_ := Aside0.mk (Kd.R_lower ho0 (below_size zB)); have n1_ := Aside0.mk (blk_below (g := gp1_0) (o := .cells #[.func (.func 47) #[] #[]] 60 (0, 0)) (zk BK265) hb); have n2_ := Aside0.mk (blk_below (g := gp1_1) (o := .cells #[.slice A1_0 l1_0.length c1_0, .slice A1_1 l1_1.length c1_1] 29 (0, 0)) (zk BK266) hb); have n3_ := Aside0.mk (blk_below (g := gp1_2) (o := .cells #[.slice A1_2 l1_2.length c1_2, .slice A1_3 l1_3.length c1_3] 29 (0, 0)) (zk BK267) hb); have n4_ := Aside0.mk (blk_below (g := gb268) (o := .cells #[.slice none 0 0, .slice none 0 0] 29 (0, 0)) (zk BK268) hb); have n5_ := Aside0.mk (below_step zB hb); clear BK265; clear BK266; clear BK267; clear BK268; clear HB; have HO271 := n0_; have BK265 := n1_; have BK266 := n2_; have BK267 := n3_; have BK268 := n4_; have HB := n5_; clear n0_ n1_ n2_ n3_ n4_ n5_; (try clear hb); (try clear hb2); (try clear hk); (try clear hi); (try clear ho0); obtain ⟨Ao7, co7, eo7⟩ := Kd.R_slice HO271.out; subst eo7) | ((with_reducible refine gate_dst (N := 5) rfl ?_); refine box_event ?hg (N := 5) ?hd (cs := #[.slice none 0 0, .slice none 0 0]) (t := 29) ?hr ?_; (case hd => rfl); (case hg => rfl); (case hr => first | (go_simp; done) | (go_simp; rfl)); intro gb272 hg w8 hbox hb; have n0_ := Aside0.mk (Kd.R_below (zR HO271) hb); have n1_ := Aside0.mk (blk_below (g := gp1_0) (o := .cells #[.func (.func 47) #[] #[]] 60 (0, 0)) (zk BK265) hb); have n2_ := Aside0.mk (blk_below (g := gp1_1) (o := .cells #[.slice A1_0 l1_0.length c1_0, .slice A1_1 l1_1.length c1_1] 29 (0, 0)) (zk BK266) hb); have n3_ := Aside0.mk (blk_below (g := gp1_2) (o := .cells #[.slice A1_2 l1_2.length c1_2, .slice A1_3 l1_3.length c1_3] 29 (0, 0)) (zk BK267) hb); have n4_ := Aside0.mk (blk_below (g := gb268) (o := .cells #[.slice none 0 0, .slice none 0 0] 29 (0, 0)) (zk BK268) hb); have n5_ := Aside0.mk (below_step zB hb); have n6_ := Aside0.mk (hbox); have n7_ := Aside0.mk ((by rw [hg]; exact (below_size zB) : w.heap.size ≤ gb272)); have n8_ := Aside0.mk ((by rw [hg]; exact (below_size zB) : w.heap.size ≤ gb272)); have n9_ := Aside0.mk ((by rw [hg]; exact Nat.ne_of_lt (blk_lt (g := gp1_0) (o := .cells #[.func (.func 47) #[] #[]] 60 (0, 0)) (zk BK265)) : gp1_0 ≠ gb272)); have n10_ := Aside0.mk ((by rw [hg]; exact Nat.ne_of_gt (blk_lt (g := gp1_0) (o := .cells #[.func (.func 47) #[] #[]] 60 (0, 0)) (zk BK265)) : gb272 ≠ gp1_0)); have n11_ := Aside0.mk ((by rw [hg]; exact Nat.ne_of_lt (blk_lt (g := gp1_1) (o := .cells #[.slice A1_0 l1_0.length c1_0, .slice A1_1 l1_1.length c1_1] 29 (0, 0)) (zk BK266)) : gp1_1 ≠ gb272)); have n12_ := Aside0.mk ((by rw [hg]; exact Nat.ne_of_gt (blk_lt (g := gp1_1) (o := .cells #[.slice A1_0 l1_0.length c1_0, .slice A1_1 l1_1.length c1_1] 29 (0, 0)) (zk BK266)) : gb272 ≠ gp1_1)); have n13_ := Aside0.mk ((by rw [hg]; exact Nat.ne_of_lt (blk_lt (g := gp1_2) (o := .cells #[.slice A1_2 l1_2.length c1_2, .slice A1_3 l1_3.length c1_3] 29 (0, 0)) (zk BK267)) : gp1_2 ≠ gb272)); have n14_ := Aside0.mk ((by rw [hg]; exact Nat.ne_of_gt (blk_lt (g := gp1_2) (o := .cells #[.slice A1_2 l1_2.length c1_2, .slice A1_3 l1_3.length c1_3] 29 (0, 0)) (zk BK267)) : gb272 ≠ gp1_2)); have n15_ := Aside0.mk ((by rw [hg]; exact Nat.ne_of_lt (blk_lt (g := gb268) (o := .cells #[.slice none 0 0, .slice none 0 0] 29 (0, 0)) (zk BK268)) : gb268 ≠ gb272)); have n16_ := Aside0.mk ((by rw [hg]; exact Nat.ne_of_gt (blk_lt (g := gb268) (o := .cells #[.slice none 0 0, .slice none 0 0] 29 (0, 0)) (zk BK268)) : gb272 ≠ gb268)); clear HO271; clear BK265; clear BK266; clear BK267; clear BK268; clear HB; have HO271 := n0_; have BK265 := n1_; have BK266 := n2_; have BK267 := n3_; have BK268 := n4_; have HB := n5_; have BK272 := n6_; have GW272 := n7_; have GE272 := n8_; have NB265_272 := n9_; have NB272_265 := n10_; have NB266_272 := n11_; have NB272_266 := n12_; have NB267_272 := n13_; have NB272_267 := n14_; have NB268_272 := n15_; have NB272_268 := n16_; clear n0_ n1_ n2_ n3_ n4_ n5_ n6_ n7_ n8_ n9_ n10_ n11_ n12_ n13_ n14_ n15_ n16_; clear hb hbox hg; have hnb9 := NB272_265.out; have hnc9 := NB265_272.out; have hnb10 := NB272_266.out; have hnc10 := NB266_272.out; have hnb11 := NB272_267.out; have hnc11 := NB267_272.out; have hnb12 := NB272_268.out; have hnc12 := NB268_272.out; have hcz13_0 : w8.cell? ⟨gb272, 0, none⟩ = some (.slice none 0 0) := (blk_cell BK272.out 0).trans rfl; have hcz13_1 : w8.cell? ⟨gb272, 1, none⟩ = some (.slice none 0 0) := (blk_cell BK272.out 1).trans rfl; have hfz13_0 := blk_frozen BK272.out 0; have hfz13_1 := blk_frozen BK272.out 1))
 go_loopg [13] k (fun kq v13 w' => ∃ (x13_1 : Int) (x273001_1 : List Int) (u273001 : Value), v13 = .int .i64 x13_1 ∧ Aside0 (table_over_table_combine_1_table_Join_1.l0 kq l0 ji4 x13_1 l1_0 l1_1 l1_2 l1_3 t269 x273001_1 = some (r1, r2)) ∧ Aside0 (kq ≤ k) ∧ Aside0 (Kd.R (Kd.int .i64) 3 w' w.heap.size (fun k_ => some k_ ≠ (u273001 : Value).ownBlock) (.slice Ao7 t269.length co7) t269) ∧ Aside0 (Kd.R (Kd.int .i64) 3 w' w.heap.size (fun k_ => some k_ ≠ ((.slice Ao7 t269.length co7) : Value).ownBlock) u273001 x273001_1) ∧ Aside0 (w'.heap[gp1_0]? = some (.cells #[.func (.func 47) #[] #[]] 60 (0, 0))) ∧ Aside0 (w'.heap[gp1_1]? = some (.cells #[(.slice A1_0 l1_0.length c1_0), (.slice A1_1 l1_1.length c1_1)] 29 (0, 0))) ∧ Aside0 (w'.heap[gp1_2]? = some (.cells #[(.slice A1_2 l1_2.length c1_2), (.slice A1_3 l1_3.length c1_3)] 29 (0, 0))) ∧ Aside0 (w'.heap[gb268]? = some (.cells #[(.slice none 0 0), (.slice none 0 0)] 29 (0, 0))) ∧ Aside0 (w'.heap[gb272]? = some (.cells #[(.slice Ao7 t269.length co7), u273001] 29 (0, 0))) ∧ Aside0 (Below w.heap.size w w'))
 case atStart => exact ⟨(0), (([] : List Int)), (.slice none 0 0), zT, H', ⟨Nat.le_refl _⟩, ⟨by (with_reducible repeat (first | apply Kd.R_alloc | apply Kd.R_drewN | apply Kd.R_drew)); exact Kd.R_mono (Kd.R_far (p := ⟨gb272, 1, none⟩) (Kd.R_far (p := ⟨gb272, 0, none⟩) (Kd.R_types HO271.out BK272.out (by decide)) (fun _ hk => hk.2) (.slice Ao7 t269.length co7)) (fun _ hk => hk.2) (.slice none 0 0)) (fun _ hk => (by simp [Value.ownBlock]))⟩, ⟨by first | exact Kd.R_nil _ _ _ _ _ | exact Kd.N_nil _ _ _ _ _ | exact Kd.V_nil _ _ _ _ _ | exact Kd.Q_nil _ _ _ _ _ | exact Kd.S_nil _ _ _ _ _⟩, ⟨by (with_reducible repeat (first | refine blk_drewN ?_ _ | refine blk_drew ?_ | refine blk_alloc ?_ _)); refine blk_far ?_ NB265_272.out _; (with_reducible repeat (first | refine blk_drewN ?_ _ | refine blk_drew ?_ | refine blk_alloc ?_ _)); refine blk_far ?_ NB265_272.out _; (with_reducible repeat (first | refine blk_drewN ?_ _ | refine blk_drew ?_ | refine blk_alloc ?_ _)); exact BK265.out⟩, ⟨by (with_reducible repeat (first | refine blk_drewN ?_ _ | refine blk_drew ?_ | refine blk_alloc ?_ _)); refine blk_far ?_ NB266_272.out _; (with_reducible repeat (first | refine blk_drewN ?_ _ | refine blk_drew ?_ | refine blk_alloc ?_ _)); refine blk_far ?_ NB266_272.out _; (with_reducible repeat (first | refine blk_drewN ?_ _ | refine blk_drew ?_ | refine blk_alloc ?_ _)); exact BK266.out⟩, ⟨by (with_reducible repeat (first | refine blk_drewN ?_ _ | refine blk_drew ?_ | refine blk_alloc ?_ _)); refine blk_far ?_ NB267_272.out _; (with_reducible repeat (first | refine blk_drewN ?_ _ | refine blk_drew ?_ | refine blk_alloc ?_ _)); refine blk_far ?_ NB267_272.out _; (with_reducible repeat (first | refine blk_drewN ?_ _ | refine blk_drew ?_ | refine blk_alloc ?_ _)); exact BK267.out⟩, ⟨by (with_reducible repeat (first | refine blk_drewN ?_ _ | refine blk_drew ?_ | refine blk_alloc ?_ _)); refine blk_far ?_ NB268_272.out _; (with_reducible repeat (first | refine blk_drewN ?_ _ | refine blk_drew ?_ | refine blk_alloc ?_ _)); refine blk_far ?_ NB268_272.out _; (with_reducible repeat (first | refine blk_drewN ?_ _ | refine blk_drew ?_ | refine blk_alloc ?_ _)); exact BK268.out⟩, ⟨by (with_reducible repeat (first | refine blk_drewN ?_ _ | refine blk_drew ?_ | refine blk_alloc ?_ _)); refine blk_put (cs := #[.slice Ao7 t269.length co7, .slice none 0 0]) ?_ 1 _ rfl; (with_reducible repeat (first | refine blk_drewN ?_ _ | refine blk_drew ?_ | refine blk_alloc ?_ _)); refine blk_put (cs := #[.slice none 0 0, .slice none 0 0]) ?_ 0 _ rfl; (with_reducible repeat (first | refine blk_drewN ?_ _ | refine blk_drew ?_ | refine blk_alloc ?_ _)); exact BK272.out⟩, ⟨by repeat (first | (with_reducible first | exact HB.out | apply below_alloc | apply pw_below_drewN | apply below_drew1 | refine below_set ?_ GE265.out | refine below_set ?_ GE266.out | refine below_set ?_ GE267.out | refine below_set ?_ GE268.out | refine below_set ?_ GE272.out) | exact HB.out)⟩⟩
 case round =>
  clear H'
  try clear hcz13_0
  try clear hcz13_1
  try clear hfz13_0
  try clear hfz13_1
  obtain ⟨x13_1, x273001_1, u273001, rfl, HA, HK1, HO_273000, HO_273001, BK265, BK266, BK267, BK268, BK272, HB⟩ := hrel
  cases gk with
  | zero => exact absurd HA.out (by simp [table_over_table_combine_1_table_Join_1.l0])
  | succ k1 =>
   have H := HA.out
   clear HA
   simp only [table_over_table_combine_1_table_Join_1.l0] at H
   by_cases c14 : x13_1 < ji4
   ·rw [if_pos c14] at H
    have c14b0 : decide (x13_1 < ji4) = true := decide_eq_true c14
    clear c14
    replace H := Option.bind_eq_some_iff.mp H
    obtain ⟨t273, A150, H⟩ := H
    replace H : ((table_combine_1_table_Join_1.f k1 t273 l1_0 l1_1 l1_2 l1_3).bind fun t274 => (if t274 = true then (if x273001_1.length < 17592186044416 then (table_over_table_combine_1_table_Join_1.l0 k1 l0 ji4 (wrap64 (x13_1 + 1)) l1_0 l1_1 l1_2 l1_3 t269 (x273001_1 ++ [x13_1])) else (none)) else (table_over_table_combine_1_table_Join_1.l0 k1 l0 ji4 (wrap64 (x13_1 + 1)) l1_0 l1_1 l1_2 l1_3 t269 x273001_1))) = some (r1, r2) := H
    have A15 := Aside0.mk A150
    clear A150
    replace H := Option.bind_eq_some_iff.mp H
    obtain ⟨t274, A160, H⟩ := H
    replace H : (if t274 = true then (if x273001_1.length < 17592186044416 then (table_over_table_combine_1_table_Join_1.l0 k1 l0 ji4 (wrap64 (x13_1 + 1)) l1_0 l1_1 l1_2 l1_3 t269 (x273001_1 ++ [x13_1])) else (none)) else (table_over_table_combine_1_table_Join_1.l0 k1 l0 ji4 (wrap64 (x13_1 + 1)) l1_0 l1_1 l1_2 l1_3 t269 x273001_1)) = some (r1, r2) := H
    have A16 := Aside0.mk A160
    clear A160
    have HC17 := Aside0.mk H
    clear H
    go_upto_if 20 with (first | ((with_reducible refine gate_callee (f := 69) rfl ?_); refine goesL_ (some 19) rfl rfl Try.func69 zK rfl #[.slice A0 l0.length c0, .int .i64 x13_1] rfl zM ?_; (with_reducible refine (table_assignment.calls k1 _ _ l0 x13_1 t273 _ ?side1 ?side2 A15.out).mono ?_); (case side1 => repeat (first | exact (Kd.C_below HR0.out HB.out) | (with_reducible refine Kd.C_alloc ?_ _) | (with_reducible refine Kd.C_drewN ?_ _) | (with_reducible refine Kd.C_drew ?_))); (case side2 => exact HC0.out); rintro e w' ⟨rfl, ⟨nd, rfl⟩⟩; refine ⟨_, rfl, ?_⟩) | (go_at_call 73; (with_reducible refine (table_combine_1_table_Join_1.calls k1 t273 gp1_0 gp1_1 A1_0 c1_0 l1_0 A1_1 c1_1 l1_1 gp1_2 A1_2 c1_2 l1_2 A1_3 c1_3 l1_3 t274 _ ?side1 ?side2 ?side3 ?side4 ?side5 ?side6 ?side7 ?side8 ?side9 ?side10 ?side11 A16.out).mono ?_); (case side1 => (with_reducible repeat (first | refine blk_drewN ?_ _ | refine blk_drew ?_ | refine blk_alloc ?_ _)); exact BK265.out); (case side2 => repeat (first | exact (Kd.C_below HR1_0.out zB) | (with_reducible refine Kd.C_alloc ?_ _) | (with_reducible refine Kd.C_drewN ?_ _) | (with_reducible refine Kd.C_drew ?_))); (case side3 => exact HC1_0.out); (case side4 => repeat (first | exact (Kd.C_below HR1_1.out zB) | (with_reducible refine Kd.C_alloc ?_ _) | (with_reducible refine Kd.C_drewN ?_ _) | (with_reducible refine Kd.C_drew ?_))); (case side5 => exact HC1_1.out); (case side6 => (with_reducible repeat (first | refine blk_drewN ?_ _ | refine blk_drew ?_ | refine blk_alloc ?_ _)); exact BK266.out); (case side7 => repeat (first | exact (Kd.C_below HR1_2.out zB) | (with_reducible refine Kd.C_alloc ?_ _) | (with_reducible refine Kd.C_drewN ?_ _) | (with_reducible refine Kd.C_drew ?_))); (case side8 => exact HC1_2.out); (case side9 => repeat (first | exact (Kd.C_below HR1_3.out zB) | (with_reducible refine Kd.C_alloc ?_ _) | (with_reducible refine Kd.C_drewN ?_ _) | (with_reducible refine Kd.C_drew ?_))); (case side10 => exact HC1_3.out); (case side11 => (with_reducible repeat (first | refine blk_drewN ?_ _ | refine blk_drew ?_ | refine blk_alloc ?_ _)); exact BK267.out); rintro e w18 ⟨rfl, hb⟩; have n0_ := Aside0.mk (Kd.R_below (zR HO_273000) hb); have n1_ := Aside0.mk (Kd.R_below (zR HO_273001) hb); have n2_ := Aside0.mk (blk_below (g := gp1_0) (o := .cells #[.func (.func 47) #[] #[]] 60 (0, 0)) (zk BK265) hb); have n3_ := Aside0.mk (blk_below (g := gp1_1) (o := .cells #[.slice A1_0 l1_0.length c1_0, .slice A1_1 l1_1.length c1_1] 29 (0, 0)) (zk BK266) hb); have n4_ := Aside0.mk (blk_below (g := gp1_2) (o := .cells #[.slice A1_2 l1_2.length c1_2, .slice A1_3 l1_3.length c1_3] 29 (0, 0)) (zk BK267) hb); have n5_ := Aside0.mk (blk_below (g := gb268) (o := .cells #[.slice none 0 0, .slice none 0 0] 29 (0, 0)) (zk BK268) hb); have n6_ := Aside0.mk (blk_below (g := gb272) (o := .cells #[.slice Ao7 t269.length co7, u273001] 29 (0, 0)) (zk BK272) hb); have n7_ := Aside0.mk (below_step zB hb); clear HO_273000; clear HO_273001; clear BK265; clear BK266; clear BK267; clear BK268; clear BK272; clear HB; have HO_273000 := n0_; have HO_273001 := n1_; have BK265 := n2_; have BK266 := n3_; have BK267 := n4_; have BK268 := n5_; have BK272 := n6_; have HB := n7_; clear n0_ n1_ n2_ n3_ n4_ n5_ n6_ n7_; (try clear hb); (try clear hb2); (try clear hk); (try clear hi)))
    (try simp only [Act.put, List.setIfInBounds_toArray, List.set_cons_zero, List.set_cons_succ])
    have H := HC17.out
    clear HC17
    by_cases c19 : t274 = true
    ·subst c19
     have H1 : (if x273001_1.length < 17592186044416 then (table_over_table_combine_1_table_Join_1.l0 k1 l0 ji4 (wrap64 (x13_1 + 1)) l1_0 l1_1 l1_2 l1_3 t269 (x273001_1 ++ [x13_1])) else (none)) = some (r1, r2) := by rw [if_pos rfl] at H; exact H
     clear H
     have H := H1
     clear H1
     by_cases c20 : x273001_1.length < 17592186044416
     ·rw [if_pos c20] at H
      have LMc20 := Aside0.mk c20
      clear c20
      obtain ⟨y275, hy275⟩ : ∃ y_ : List Int, y_ = (x273001_1 ++ [x13_1]) := ⟨_, rfl⟩
      replace H : (table_over_table_combine_1_table_Join_1.l0 k1 l0 ji4 (wrap64 (x13_1 + 1)) l1_0 l1_1 l1_2 l1_3 t269 y275) = some (r1, r2) := by first | (rw [hy275]; with_reducible exact H) | (have H2_ := (Option.bind_some _ _).symm.trans H; rw [hy275]; with_reducible exact H2_) | (have H2_ := (Option.bind_some _ _).symm.trans H; with_reducible exact H2_) | with_reducible exact H | (rw [hy275]; exact H) | exact H
      have Ny275 := Aside0.mk hy275
      clear hy275
      have H' := Aside0.mk H
      clear H
      have hnb21 := NB272_265.out
      have hnc21 := NB265_272.out
      have hnb22 := NB272_266.out
      have hnc22 := NB266_272.out
      have hnb23 := NB272_267.out
      have hnc23 := NB267_272.out
      have hnb24 := NB272_268.out
      have hnc24 := NB268_272.out
      have hcz25_0 : w18.cell? ⟨gb272, 0, none⟩ = some (.slice Ao7 t269.length co7) := (blk_cell BK272.out 0).trans rfl
      have hcz25_1 : w18.cell? ⟨gb272, 1, none⟩ = some (u273001) := (blk_cell BK272.out 1).trans rfl
      have hfz25_0 := blk_frozen BK272.out 0
      have hfz25_1 := blk_frozen BK272.out 1
      go_wp2_with (first | ((with_reducible refine gate_builtin (b := .append) (xs := #[.tmp 22, .tmp 24]) rfl ?_); at_builtin; refine Kd.R_append (Kd.int .i64) (w0 := w) w.heap.size rfl (.tmp 22) (.tmp 24) 27 3 (.int .i64 0) 8 rfl Try.underlying27 info3 rfl (by decide) (by omega) u273001 x273001_1 x13_1 [.int .i64 x13_1] (fun k_ => some k_ ≠ (.slice Ao7 t269.length co7 : Value).ownBlock) (fun _ => False) rfl rfl ?aP (fun _ hk => hk.elim) ?aF ?aO ?aB ?aS ?aL ?_; (case aP => exact rfl); (case aB => exact zB); (case aF => exact (fun k_ hk => Kd.fresh' (Kd.R_lt (zR HO_273000)) k_ hk)); (case aO => exact (zR HO_273001)); (case aS => exact (below_size zB)); (case aL => have := LMc20.out; omega); intro v276 w26 ho hb hg hat; rw [← Ny275.out] at ho; have n0_ := Aside0.mk (Kd.R_after (ok := (fun _ => True)) (by (with_reducible repeat (first | apply Kd.R_alloc | apply Kd.R_drewN | apply Kd.R_drew)); exact Kd.R_mono HO_273000.out (fun _ hk => ⟨trivial, hk⟩)) hg hat); have n1_ := Aside0.mk (blk_grown (g := gp1_0) (o := .cells #[.func (.func 47) #[] #[]] 60 (0, 0)) (zk BK265) hg (Kd.R_ne HO_273001.out BK265.out (by decide))); have n2_ := Aside0.mk (blk_grown (g := gp1_1) (o := .cells #[.slice A1_0 l1_0.length c1_0, .slice A1_1 l1_1.length c1_1] 29 (0, 0)) (zk BK266) hg (Kd.R_ne HO_273001.out BK266.out (by decide))); have n3_ := Aside0.mk (blk_grown (g := gp1_2) (o := .cells #[.slice A1_2 l1_2.length c1_2, .slice A1_3 l1_3.length c1_3] 29 (0, 0)) (zk BK267) hg (Kd.R_ne HO_273001.out BK267.out (by decide))); have n4_ := Aside0.mk (blk_grown (g := gb268) (o := .cells #[.slice none 0 0, .slice none 0 0] 29 (0, 0)) (zk BK268) hg (Kd.R_ne HO_273001.out BK268.out (by decide))); have n5_ := Aside0.mk (blk_grown (g := gb272) (o := .cells #[.slice Ao7 t269.length co7, u273001] 29 (0, 0)) (zk BK272) hg (Kd.R_ne HO_273001.out BK272.out (by decide))); have n6_ := Aside0.mk (hb); have n7_ := Aside0.mk (ho); clear HO_273000; clear BK265; clear BK266; clear BK267; clear BK268; clear BK272; clear HB; clear HO_273001; have HO_273000 := n0_; have BK265 := n1_; have BK266 := n2_; have BK267 := n3_; have BK268 := n4_; have BK272 := n5_; have HB := n6_; have HO277 := n7_; clear n0_ n1_ n2_ n3_ n4_ n5_ n6_ n7_; clear ho hb hg hat; obtain ⟨Ao27, co27, eo27⟩ := Kd.R_slice HO277.out; subst eo27; have hcz28_0 : w26.cell? ⟨gb272, 0, none⟩ = some (.slice Ao7 t269.length co7) := (blk_cell BK272.out 0).trans rfl; have hcz28_1 : w26.cell? ⟨gb272, 1, none⟩ = some (u273001) := (blk_cell BK272.out 1).trans rfl; have hfz28_0 := blk_frozen BK272.out 0; have hfz28_1 := blk_frozen BK272.out 1))
      go_roundg k1
      case measure => have := HK1.out; omega
      case rel => exact ⟨(wrap64 (x13_1 + 1)), (y275), (.slice Ao27 y275.length co27), zT, H', ⟨by have := HK1.out; omega⟩, ⟨by (with_reducible repeat (first | apply Kd.R_alloc | apply Kd.R_drewN | apply Kd.R_drew)); exact Kd.R_mono (Kd.R_far (p := ⟨gb272, 1, none⟩) (Kd.R_types HO_273000.out BK272.out (by decide)) (fun _ hk => hk.2) (.slice Ao27 y275.length co27)) (fun _ hk => hk.1.2)⟩, ⟨by (with_reducible repeat (first | apply Kd.R_alloc | apply Kd.R_drewN | apply Kd.R_drew)); exact Kd.R_mono (Kd.R_far (p := ⟨gb272, 1, none⟩) (Kd.R_types HO277.out BK272.out (by decide)) (fun _ hk => hk.2) (.slice Ao27 y275.length co27)) (fun _ hk => hk.1)⟩, ⟨by (with_reducible repeat (first | refine blk_drewN ?_ _ | refine blk_drew ?_ | refine blk_alloc ?_ _)); refine blk_far ?_ NB265_272.out _; (with_reducible repeat (first | refine blk_drewN ?_ _ | refine blk_drew ?_ | refine blk_alloc ?_ _)); exact BK265.out⟩, ⟨by (with_reducible repeat (first | refine blk_drewN ?_ _ | refine blk_drew ?_ | refine blk_alloc ?_ _)); refine blk_far ?_ NB266_272.out _; (with_reducible repeat (first | refine blk_drewN ?_ _ | refine blk_drew ?_ | refine blk_alloc ?_ _)); exact BK266.out⟩, ⟨by (with_reducible repeat (first | refine blk_drewN ?_ _ | refine blk_drew ?_ | refine blk_alloc ?_ _)); refine blk_far ?_ NB267_272.out _; (with_reducible repeat (first | refine blk_drewN ?_ _ | refine blk_drew ?_ | refine blk_alloc ?_ _)); exact BK267.out⟩, ⟨by (with_reducible repeat (first | refine blk_drewN ?_ _ | refine blk_drew ?_ | refine blk_alloc ?_ _)); refine blk_far ?_ NB268_272.out _; (with_reducible repeat (first | refine blk_drewN ?_ _ | refine blk_drew ?_ | refine blk_alloc ?_ _)); exact BK268.out⟩, ⟨by (with_reducible repeat (first | refine blk_drewN ?_ _ | refine blk_drew ?_ | refine blk_alloc ?_ _)); refine blk_put (cs := #[.slice Ao7 t269.length co7, u273001]) ?_ 1 _ rfl; (with_reducible repeat (first | refine blk_drewN ?_ _ | refine blk_drew ?_ | refine blk_alloc ?_ _)); exact BK272.out⟩, ⟨by repeat (first | (with_reducible first | exact HB.out | apply below_alloc | apply pw_below_drewN | apply below_drew1 | refine below_set ?_ GE265.out | refine below_set ?_ GE266.out | refine below_set ?_ GE267.out | refine below_set ?_ GE268.out | refine below_set ?_ GE272.out) | exact HB.out)⟩⟩
     ·rw [if_neg c20] at H
      exact absurd H (by simp)
    ·replace c19 := Bool.eq_false_iff.mpr c19
     subst c19
     have H1 : (table_over_table_combine_1_table_Join_1.l0 k1 l0 ji4 (wrap64 (x13_1 + 1)) l1_0 l1_1 l1_2 l1_3 t269 x273001_1) = some (r1, r2) := by rw [if_neg (show ¬ (false = true) by decide)] at H; exact H
     clear H
     have H := H1
     clear H1
     have H' := Aside0.mk H
     clear H
     go_wp2
     go_roundg k1
     case measure => have := HK1.out; omega
     case rel => exact ⟨(wrap64 (x13_1 + 1)), (x273001_1), (u273001), zT, H', ⟨by have := HK1.out; omega⟩, ⟨by (with_reducible repeat (first | apply Kd.R_alloc | apply Kd.R_drewN | apply Kd.R_drew)); exact HO_273000.out⟩, ⟨by (with_reducible repeat (first | apply Kd.R_alloc | apply Kd.R_drewN | apply Kd.R_drew)); exact HO_273001.out⟩, ⟨by (with_reducible repeat (first | refine blk_drewN ?_ _ | refine blk_drew ?_ | refine blk_alloc ?_ _)); exact BK265.out⟩, ⟨by (with_reducible repeat (first | refine blk_drewN ?_ _ | refine blk_drew ?_ | refine blk_alloc ?_ _)); exact BK266.out⟩, ⟨by (with_reducible repeat (first | refine blk_drewN ?_ _ | refine blk_drew ?_ | refine blk_alloc ?_ _)); exact BK267.out⟩, ⟨by (with_reducible repeat (first | refine blk_drewN ?_ _ | refine blk_drew ?_ | refine blk_alloc ?_ _)); exact BK268.out⟩, ⟨by (with_reducible repeat (first | refine blk_drewN ?_ _ | refine blk_drew ?_ | refine blk_alloc ?_ _)); exact BK272.out⟩, ⟨by repeat (first | (with_reducible first | exact HB.out | apply below_alloc | apply pw_below_drewN | apply below_drew1 | refine below_set ?_ GE265.out | refine below_set ?_ GE266.out | refine below_set ?_ GE267.out | refine below_set ?_ GE268.out | refine below_set ?_ GE272.out) | exact HB.out)⟩⟩
   ·rw [if_neg c14] at H
    have c14b0 : decide (x13_1 < ji4) = false := decide_eq_false c14
    clear c14
    simp only [Option.some.injEq, Prod.mk.injEq] at H
    obtain ⟨rfl, rfl⟩ := H
    have hnb29 := NB272_265.out
    have hnc29 := NB265_272.out
    have hnb30 := NB272_266.out
    have hnc30 := NB266_272.out
    have hnb31 := NB272_267.out
    have hnc31 := NB267_272.out
    have hnb32 := NB272_268.out
    have hnc32 := NB268_272.out
    have hcz33_0 : wr.cell? ⟨gb272, 0, none⟩ = some (.slice Ao7 t269.length co7) := (blk_cell BK272.out 0).trans rfl
    have hcz33_1 : wr.cell? ⟨gb272, 1, none⟩ = some (u273001) := (blk_cell BK272.out 1).trans rfl
    have hfz33_0 := blk_frozen BK272.out 0
    have hfz33_1 := blk_frozen BK272.out 1
    have hnb34 := NB268_265.out
    have hnc34 := NB265_268.out
    have hnb35 := NB268_266.out
    have hnc35 := NB266_268.out
    have hnb36 := NB268_267.out
    have hnc36 := NB267_268.out
    have hcz37_0 : wr.cell? ⟨gb268, 0, none⟩ = some (.slice none 0 0) := (blk_cell BK268.out 0).trans rfl
    have hcz37_1 : wr.cell? ⟨gb268, 1, none⟩ = some (.slice none 0 0) := (blk_cell BK268.out 1).trans rfl
    have hfz37_0 := blk_frozen BK268.out 0
    have hfz37_1 := blk_frozen BK268.out 1
    obtain ⟨Ao38, co38, eo38⟩ := Kd.R_slice HO_273001.out
    subst eo38
    go_wp2
    refine bodyPost_ret (results_cell_row rfl _ _ gb268 29 #[.slice Ao7 t269.length co7, .slice Ao38 x273001_1.length co38] (0, 0) _ rfl (by (with_reducible repeat (first | refine blk_drewN ?_ _ | refine blk_drew ?_ | refine blk_alloc ?_ _)); refine blk_put (cs := #[.slice Ao7 t269.length co7, .slice none 0 0]) ?_ 1 _ rfl; (with_reducible repeat (first | refine blk_drewN ?_ _ | refine blk_drew ?_ | refine blk_alloc ?_ _)); refine blk_put (cs := #[.slice none 0 0, .slice none 0 0]) ?_ 0 _ rfl; (with_reducible repeat (first | refine blk_drewN ?_ _ | refine blk_drew ?_ | refine blk_alloc ?_ _)); exact BK268.out) Try.underlying29 rfl zK) rfl ?_
    exact ⟨_, _, by first | rfl | (simp [errW_none, errW_some] <;> rfl) | (simp only [← hji4]; first | rfl | (simp [errW_none, errW_some] <;> rfl)) | (simp [*, errW_none, errW_some] <;> rfl), by (with_reducible repeat (first | apply Kd.R_alloc | apply Kd.R_drewN | apply Kd.R_drew)); exact Kd.R_mono (Kd.R_far (p := ⟨gb268, 1, none⟩) (Kd.R_far (p := ⟨gb268, 0, none⟩) (Kd.R_types HO_273000.out BK268.out (by decide)) (fun _ hk => hk.2) (.slice Ao7 t269.length co7)) (fun _ hk => hk.2) (.slice Ao38 x273001_1.length co38)) (fun _ hk => hk.1), by (with_reducible repeat (first | apply Kd.R_alloc | apply Kd.R_drewN | apply Kd.R_drew)); exact Kd.R_mono (Kd.R_far (p := ⟨gb268, 1, none⟩) (Kd.R_far (p := ⟨gb268, 0, none⟩) (Kd.R_types HO_273001.out BK268.out (by decide)) (fun _ hk => hk.2) (.slice Ao7 t269.length co7)) (fun _ hk => hk.2) (.slice Ao38 x273001_1.length co38)) (fun _ hk => hk.1), by repeat (first | (with_reducible first | exact HB.out | apply below_alloc | apply pw_below_drewN | apply below_drew1 | refine below_set ?_ GE265.out | refine below_set ?_ GE266.out | refine below_set ?_ GE267.out | refine below_set ?_ GE268.out | refine below_set ?_ GE272.out) | exact HB.out)⟩
/-! ### table_combine_table_Join_1: function 1000046 -/
def table_combine_table_Join_1.f (k : Nat) (l0_0 : List Int) (l0_1 : List Int) (l1_0 : List Int) (l1_1 : List Int)  : Option (List Int × List Int × Int) := (table_Valid.f k l0_0 l0_1).bind fun t282 => (if t282 = 0 then ((table_Valid.f k l1_0 l1_1).bind fun t283 => (if t283 = 0 then ((table_all.f k l0_0 l1_0).bind fun t284 => (if (t284.length : Int) > 10 then (some (([] : List Int), ([] : List Int), 3)) else ((table_over_table_combine_1_table_Join_1.f k t284 l0_0 l0_1 l1_0 l1_1).bind fun bt287 => (some (bt287.1, bt287.2, 0))))) else (some (([] : List Int), ([] : List Int), t283)))) else (some (([] : List Int), ([] : List Int), t282)))
theorem table_combine_table_Join_1.mono : ∀ a0 a1 a2 a3 k, LeO (table_combine_table_Join_1.f k a0 a1 a2 a3) (table_combine_table_Join_1.f (k + 1) a0 a1 a2 a3) := by
 intro a0 a1 a2 a3 k
 unfold table_combine_table_Join_1.f
 repeat' first
   | (with_reducible exact table_Valid.mono _ _ _)
   | (with_reducible exact table_all.mono _ _ _)
   | (with_reducible exact table_over_table_combine_1_table_Join_1.mono _ _ _ _ _ _)
   | (with_reducible exact LeO.refl _)
   | (with_reducible exact LeO.none _)
   | (with_reducible refine LeO.ite ?_ ?_)
   | (with_reducible refine LeO.bind ?_ (fun _ => ?_))
   | exact table_Valid.mono _ _ _
   | exact table_all.mono _ _ _
   | exact table_over_table_combine_1_table_Join_1.mono _ _ _ _ _ _
   | exact LeO.none _
   | refine LeO.ite ?_ ?_
   | refine LeO.bind ?_ (fun _ => ?_)
set_option maxHeartbeats 8000000 in
set_option maxRecDepth 100000 in
theorem table_combine_table_Join_1.calls (k : Nat) (A0_0 : Option Addr) (c0_0 : Nat) (l0_0 : List Int) (A0_1 : Option Addr) (c0_1 : Nat) (l0_1 : List Int) (A1_0 : Option Addr) (c1_0 : Nat) (l1_0 : List Int) (A1_1 : Option Addr) (c1_1 : Nat) (l1_1 : List Int)  (r1 : List Int) (r2 : List Int) (r3 : Int) (w : World) (hr0_0 : Kd.C (Kd.int .i64) w A0_0 l0_0.length l0_0) (hc0_0 : l0_0.length ≤ c0_0) (hr0_1 : Kd.C (Kd.int .i64) w A0_1 l0_1.length l0_1) (hc0_1 : l0_1.length ≤ c0_1) (hr1_0 : Kd.C (Kd.int .i64) w A1_0 l1_0.length l1_0) (hc1_0 : l1_0.length ≤ c1_0) (hr1_1 : Kd.C (Kd.int .i64) w A1_1 l1_1.length l1_1) (hc1_1 : l1_1.length ≤ c1_1) (h : table_combine_table_Join_1.f k l0_0 l0_1 l1_0 l1_1 = some (r1, r2, r3)) :
  Calls Try.prog 46 #[.agg #[.slice A0_0 l0_0.length c0_0, .slice A0_1 l0_1.length c0_1], .agg #[.slice A1_0 l1_0.length c1_0, .slice A1_1 l1_1.length c1_1], .func (.func 47) #[] #[]] w fun e w' => ∃ v0_ v1_ : Value, e = .returned (.tuple #[.agg #[v0_, v1_], .int .i64 r3]) ∧ Kd.R (Kd.int .i64) 3 w' w.heap.size (fun k_ => some k_ ≠ (v1_ : Value).ownBlock) v0_ r1 ∧ Kd.R (Kd.int .i64) 3 w' w.heap.size (fun k_ => some k_ ≠ (v0_ : Value).ownBlock) v1_ r2 ∧ Below w.heap.size w w' := by
 have hu29 := Try.underlying29
 have hu60 := Try.underlying60
 have hu27 := Try.underlying27
 have HR0_0 := Aside0.mk hr0_0
 have HC0_0 := Aside0.mk hc0_0
 clear hr0_0 hc0_0
 have HR0_1 := Aside0.mk hr0_1
 have HC0_1 := Aside0.mk hc0_1
 clear hr0_1 hc0_1
 have HR1_0 := Aside0.mk hr1_0
 have HC1_0 := Aside0.mk hc1_0
 clear hr1_0 hc1_0
 have HR1_1 := Aside0.mk hr1_1
 have HC1_1 := Aside0.mk hc1_1
 clear hr1_1 hc1_1
 have HB := Aside0.mk (Below.refl w.heap.size w)
 have H : ((table_Valid.f k l0_0 l0_1).bind fun t282 => (if t282 = 0 then ((table_Valid.f k l1_0 l1_1).bind fun t283 => (if t283 = 0 then ((table_all.f k l0_0 l1_0).bind fun t284 => (if (t284.length : Int) > 10 then (some (([] : List Int), ([] : List Int), 3)) else ((table_over_table_combine_1_table_Join_1.f k t284 l0_0 l0_1 l1_0 l1_1).bind fun bt287 => (some (bt287.1, bt287.2, 0))))) else (some (([] : List Int), ([] : List Int), t283)))) else (some (([] : List Int), ([] : List Int), t282)))) = some (r1, r2, r3) := h
 clear h
 replace H := Option.bind_eq_some_iff.mp H
 obtain ⟨t282, A40, H⟩ := H
 replace H : (if t282 = 0 then ((table_Valid.f k l1_0 l1_1).bind fun t283 => (if t283 = 0 then ((table_all.f k l0_0 l1_0).bind fun t284 => (if (t284.length : Int) > 10 then (some (([] : List Int), ([] : List Int), 3)) else ((table_over_table_combine_1_table_Join_1.f k t284 l0_0 l0_1 l1_0 l1_1).bind fun bt287 => (some (bt287.1, bt287.2, 0))))) else (some (([] : List Int), ([] : List Int), t283)))) else (some (([] : List Int), ([] : List Int), t282))) = some (r1, r2, r3) := H
 have A4 := Aside0.mk A40
 clear A40
 have HC5 := Aside0.mk H
 clear H
 go_enter Try.func46, Try.ntmps46
 go_upto_if 14 with (first | ((with_reducible refine gate_dst (N := 3) rfl ?_); refine box_event ?hg (N := 3) ?hd (cs := #[.slice A0_0 l0_0.length c0_0, .slice A0_1 l0_1.length c0_1]) (t := 29) ?hr ?_; (case hd => rfl); (case hg => rfl); (case hr => first | (go_simp; done) | (go_simp; rfl)); intro gb278 hg w6 hbox hb; have n0_ := Aside0.mk (below_step zB hb); have n1_ := Aside0.mk (hbox); have n2_ := Aside0.mk ((by rw [hg]; exact (below_size zB) : w.heap.size ≤ gb278)); have n3_ := Aside0.mk ((by rw [hg]; exact (below_size zB) : w.heap.size ≤ gb278)); clear HB; have HB := n0_; have BK278 := n1_; have GW278 := n2_; have GE278 := n3_; clear n0_ n1_ n2_ n3_; clear hb hbox hg) | ((with_reducible refine gate_dst (N := 4) rfl ?_); refine box_event ?hg (N := 4) ?hd (cs := #[.slice A1_0 l1_0.length c1_0, .slice A1_1 l1_1.length c1_1]) (t := 29) ?hr ?_; (case hd => rfl); (case hg => rfl); (case hr => first | (go_simp; done) | (go_simp; rfl)); intro gb279 hg w7 hbox hb; have n0_ := Aside0.mk (blk_below (g := gb278) (o := .cells #[.slice A0_0 l0_0.length c0_0, .slice A0_1 l0_1.length c0_1] 29 (0, 0)) (zk BK278) hb); have n1_ := Aside0.mk (below_step zB hb); have n2_ := Aside0.mk (hbox); have n3_ := Aside0.mk ((by rw [hg]; exact (below_size zB) : w.heap.size ≤ gb279)); have n4_ := Aside0.mk ((by rw [hg]; exact (below_size zB) : w.heap.size ≤ gb279)); have n5_ := Aside0.mk ((by rw [hg]; exact Nat.ne_of_lt (blk_lt (g := gb278) (o := .cells #[.slice A0_0 l0_0.length c0_0, .slice A0_1 l0_1.length c0_1] 29 (0, 0)) (zk BK278)) : gb278 ≠ gb279)); have n6_ := Aside0.mk ((by rw [hg]; exact Nat.ne_of_gt (blk_lt (g := gb278) (o := .cells #[.slice A0_0 l0_0.length c0_0, .slice A0_1 l0_1.length c0_1] 29 (0, 0)) (zk BK278)) : gb279 ≠ gb278)); clear BK278; clear HB; have BK278 := n0_; have HB := n1_; have BK279 := n2_; have GW279 := n3_; have GE279 := n4_; have NB278_279 := n5_; have NB279_278 := n6_; clear n0_ n1_ n2_ n3_ n4_ n5_ n6_; clear hb hbox hg) | ((with_reducible refine gate_dst (N := 5) rfl ?_); refine box_event ?hg (N := 5) ?hd (cs := #[.func (.func 47) #[] #[]]) (t := 60) ?hr ?_; (case hd => rfl); (case hg => rfl); (case hr => first | (go_simp; done) | (go_simp; rfl)); intro gb280 hg w8 hbox hb; have n0_ := Aside0.mk (blk_below (g := gb278) (o := .cells #[.slice A0_0 l0_0.length c0_0, .slice A0_1 l0_1.length c0_1] 29 (0, 0)) (zk BK278) hb); have n1_ := Aside0.mk (blk_below (g := gb279) (o := .cells #[.slice A1_0 l1_0.length c1_0, .slice A1_1 l1_1.length c1_1] 29 (0, 0)) (zk BK279) hb); have n2_ := Aside0.mk (below_step zB hb); have n3_ := Aside0.mk (hbox); have n4_ := Aside0.mk ((by rw [hg]; exact (below_size zB) : w.heap.size ≤ gb280)); have n5_ := Aside0.mk ((by rw [hg]; exact (below_size zB) : w.heap.size ≤ gb280)); have n6_ := Aside0.mk ((by rw [hg]; exact Nat.ne_of_lt (blk_lt (g := gb278) (o := .cells #[.slice A0_0 l0_0.length c0_0, .slice A0_1 l0_1.length c0_1] 29 (0, 0)) (zk BK278)) : gb278 ≠ gb280)); have n7_ := Aside0.mk ((by rw [hg]; exact Nat.ne_of_gt (blk_lt (g := gb278) (o := .cells #[.slice A0_0 l0_0.length c0_0, .slice A0_1 l0_1.length c0_1] 29 (0, 0)) (zk BK278)) : gb280 ≠ gb278)); have n8_ := Aside0.mk ((by rw [hg]; exact Nat.ne_of_lt (blk_lt (g := gb279) (o := .cells #[.slice A1_0 l1_0.length c1_0, .slice A1_1 l1_1.length c1_1] 29 (0, 0)) (zk BK279)) : gb279 ≠ gb280)); have n9_ := Aside0.mk ((by rw [hg]; exact Nat.ne_of_gt (blk_lt (g := gb279) (o := .cells #[.slice A1_0 l1_0.length c1_0, .slice A1_1 l1_1.length c1_1] 29 (0, 0)) (zk BK279)) : gb280 ≠ gb279)); clear BK278; clear BK279; clear HB; have BK278 := n0_; have BK279 := n1_; have HB := n2_; have BK280 := n3_; have GW280 := n4_; have GE280 := n5_; have NB278_280 := n6_; have NB280_278 := n7_; have NB279_280 := n8_; have NB280_279 := n9_; clear n0_ n1_ n2_ n3_ n4_ n5_ n6_ n7_ n8_ n9_; clear hb hbox hg) | ((with_reducible refine gate_dst (N := 6) rfl ?_); refine box_event ?hg (N := 6) ?hd (cs := #[.slice none 0 0, .slice none 0 0]) (t := 29) ?hr ?_; (case hd => rfl); (case hg => rfl); (case hr => first | (go_simp; done) | (go_simp; rfl)); intro gb281 hg w9 hbox hb; have n0_ := Aside0.mk (blk_below (g := gb278) (o := .cells #[.slice A0_0 l0_0.length c0_0, .slice A0_1 l0_1.length c0_1] 29 (0, 0)) (zk BK278) hb); have n1_ := Aside0.mk (blk_below (g := gb279) (o := .cells #[.slice A1_0 l1_0.length c1_0, .slice A1_1 l1_1.length c1_1] 29 (0, 0)) (zk BK279) hb); have n2_ := Aside0.mk (blk_below (g := gb280) (o := .cells #[.func (.func 47) #[] #[]] 60 (0, 0)) (zk BK280) hb); have n3_ := Aside0.mk (below_step zB hb); have n4_ := Aside0.mk (hbox); have n5_ := Aside0.mk ((by rw [hg]; exact (below_size zB) : w.heap.size ≤ gb281)); have n6_ := Aside0.mk ((by rw [hg]; exact (below_size zB) : w.heap.size ≤ gb281)); have n7_ := Aside0.mk ((by rw [hg]; exact Nat.ne_of_lt (blk_lt (g := gb278) (o := .cells #[.slice A0_0 l0_0.length c0_0, .slice A0_1 l0_1.length c0_1] 29 (0, 0)) (zk BK278)) : gb278 ≠ gb281)); have n8_ := Aside0.mk ((by rw [hg]; exact Nat.ne_of_gt (blk_lt (g := gb278) (o := .cells #[.slice A0_0 l0_0.length c0_0, .slice A0_1 l0_1.length c0_1] 29 (0, 0)) (zk BK278)) : gb281 ≠ gb278)); have n9_ := Aside0.mk ((by rw [hg]; exact Nat.ne_of_lt (blk_lt (g := gb279) (o := .cells #[.slice A1_0 l1_0.length c1_0, .slice A1_1 l1_1.length c1_1] 29 (0, 0)) (zk BK279)) : gb279 ≠ gb281)); have n10_ := Aside0.mk ((by rw [hg]; exact Nat.ne_of_gt (blk_lt (g := gb279) (o := .cells #[.slice A1_0 l1_0.length c1_0, .slice A1_1 l1_1.length c1_1] 29 (0, 0)) (zk BK279)) : gb281 ≠ gb279)); have n11_ := Aside0.mk ((by rw [hg]; exact Nat.ne_of_lt (blk_lt (g := gb280) (o := .cells #[.func (.func 47) #[] #[]] 60 (0, 0)) (zk BK280)) : gb280 ≠ gb281)); have n12_ := Aside0.mk ((by rw [hg]; exact Nat.ne_of_gt (blk_lt (g := gb280) (o := .cells #[.func (.func 47) #[] #[]] 60 (0, 0)) (zk BK280)) : gb281 ≠ gb280)); clear BK278; clear BK279; clear BK280; clear HB; have BK278 := n0_; have BK279 := n1_; have BK280 := n2_; have HB := n3_; have BK281 := n4_; have GW281 := n5_; have GE281 := n6_; have NB278_281 := n7_; have NB281_278 := n8_; have NB279_281 := n9_; have NB281_279 := n10_; have NB280_281 := n11_; have NB281_280 := n12_; clear n0_ n1_ n2_ n3_ n4_ n5_ n6_ n7_ n8_ n9_ n10_ n11_ n12_; clear hb hbox hg; have hnb10 := NB278_279.out; have hnc10 := NB279_278.out; have hnb11 := NB278_280.out; have hnc11 := NB280_278.out; have hnb12 := NB278_281.out; have hnc12 := NB281_278.out; have hcz13_0 : w9.cell? ⟨gb278, 0, none⟩ = some (.slice A0_0 l0_0.length c0_0) := (blk_cell BK278.out 0).trans rfl; have hcz13_1 : w9.cell? ⟨gb278, 1, none⟩ = some (.slice A0_1 l0_1.length c0_1) := (blk_cell BK278.out 1).trans rfl; have hfz13_0 := blk_frozen BK278.out 0; have hfz13_1 := blk_frozen BK278.out 1) | ((with_reducible refine gate_callee (f := 25) rfl ?_); refine goesL_ (some 12) rfl rfl Try.func25 zK rfl #[.agg #[.slice A0_0 l0_0.length c0_0, .slice A0_1 l0_1.length c0_1]] rfl zM ?_; (with_reducible refine (table_Valid.calls k _ _ l0_0 _ _ l0_1 t282 _ ?side1 ?side2 ?side3 ?side4 A4.out).mono ?_); (case side1 => repeat (first | exact (Kd.C_below HR0_0.out HB.out) | (with_reducible refine Kd.C_alloc ?_ _) | (with_reducible refine Kd.C_drewN ?_ _) | (with_reducible refine Kd.C_drew ?_))); (case side2 => exact HC0_0.out); (case side3 => repeat (first | exact (Kd.C_below HR0_1.out HB.out) | (with_reducible refine Kd.C_alloc ?_ _) | (with_reducible refine Kd.C_drewN ?_ _) | (with_reducible refine Kd.C_drew ?_))); (case side4 => exact HC0_1.out); rintro e w14 ⟨rfl, hb⟩; refine ⟨_, rfl, ?_⟩; have n0_ := Aside0.mk (blk_below (g := gb278) (o := .cells #[.slice A0_0 l0_0.length c0_0, .slice A0_1 l0_1.length c0_1] 29 (0, 0)) (zk BK278) hb); have n1_ := Aside0.mk (blk_below (g := gb279) (o := .cells #[.slice A1_0 l1_0.length c1_0, .slice A1_1 l1_1.length c1_1] 29 (0, 0)) (zk BK279) hb); have n2_ := Aside0.mk (blk_below (g := gb280) (o := .cells #[.func (.func 47) #[] #[]] 60 (0, 0)) (zk BK280) hb); have n3_ := Aside0.mk (blk_below (g := gb281) (o := .cells #[.slice none 0 0, .slice none 0 0] 29 (0, 0)) (zk BK281) hb); have n4_ := Aside0.mk (below_step zB hb); clear BK278; clear BK279; clear BK280; clear BK281; clear HB; have BK278 := n0_; have BK279 := n1_; have BK280 := n2_; have BK281 := n3_; have HB := n4_; clear n0_ n1_ n2_ n3_ n4_; (try clear hb); (try clear hb2); (try clear hk); (try clear hi)))
 (try simp only [Act.put, List.setIfInBounds_toArray, List.set_cons_zero, List.set_cons_succ])
 have H := HC5.out
 clear HC5
 by_cases c15 : t282 = 0
 ·rw [if_pos c15] at H
  have c15b0 : (t282 == 0) = true := beq_iff_eq.mpr c15
  have c15b1 : (t282 != 0) = false := bne_eq_false_iff_eq.mpr c15
  clear c15
  (first | rw [c15b0] | (simp only [i64_w, i32_w]; rw [c15b0]) | skip)
  (try rw [c15b1])
  replace H := Option.bind_eq_some_iff.mp H
  obtain ⟨t283, A160, H⟩ := H
  replace H : (if t283 = 0 then ((table_all.f k l0_0 l1_0).bind fun t284 => (if (t284.length : Int) > 10 then (some (([] : List Int), ([] : List Int), 3)) else ((table_over_table_combine_1_table_Join_1.f k t284 l0_0 l0_1 l1_0 l1_1).bind fun bt287 => (some (bt287.1, bt287.2, 0))))) else (some (([] : List Int), ([] : List Int), t283))) = some (r1, r2, r3) := H
  have A16 := Aside0.mk A160
  clear A160
  have HC17 := Aside0.mk H
  clear H
  have hnb18 := NB279_278.out
  have hnc18 := NB278_279.out
  have hnb19 := NB279_280.out
  have hnc19 := NB280_279.out
  have hnb20 := NB279_281.out
  have hnc20 := NB281_279.out
  have hcz21_0 : w14.cell? ⟨gb279, 0, none⟩ = some (.slice A1_0 l1_0.length c1_0) := (blk_cell BK279.out 0).trans rfl
  have hcz21_1 : w14.cell? ⟨gb279, 1, none⟩ = some (.slice A1_1 l1_1.length c1_1) := (blk_cell BK279.out 1).trans rfl
  have hfz21_0 := blk_frozen BK279.out 0
  have hfz21_1 := blk_frozen BK279.out 1
  go_upto_if 20 with (first | ((with_reducible refine gate_callee (f := 25) rfl ?_); refine goesL_ (some 18) rfl rfl Try.func25 zK rfl #[.agg #[.slice A1_0 l1_0.length c1_0, .slice A1_1 l1_1.length c1_1]] rfl zM ?_; (with_reducible refine (table_Valid.calls k _ _ l1_0 _ _ l1_1 t283 _ ?side1 ?side2 ?side3 ?side4 A16.out).mono ?_); (case side1 => repeat (first | exact (Kd.C_below HR1_0.out HB.out) | (with_reducible refine Kd.C_alloc ?_ _) | (with_reducible refine Kd.C_drewN ?_ _) | (with_reducible refine Kd.C_drew ?_))); (case side2 => exact HC1_0.out); (case side3 => repeat (first | exact (Kd.C_below HR1_1.out HB.out) | (with_reducible refine Kd.C_alloc ?_ _) | (with_reducible refine Kd.C_drewN ?_ _) | (with_reducible refine Kd.C_drew ?_))); (case side4 => exact HC1_1.out); rintro e w22 ⟨rfl, hb⟩; refine ⟨_, rfl, ?_⟩; have n0_ := Aside0.mk (blk_below (g := gb278) (o := .cells #[.slice A0_0 l0_0.length c0_0, .slice A0_1 l0_1.length c0_1] 29 (0, 0)) (zk BK278) hb); have n1_ := Aside0.mk (blk_below (g := gb279) (o := .cells #[.slice A1_0 l1_0.length c1_0, .slice A1_1 l1_1.length c1_1] 29 (0, 0)) (zk BK279) hb); have n2_ := Aside0.mk (blk_below (g := gb280) (o := .cells #[.func (.func 47) #[] #[]] 60 (0, 0)) (zk BK280) hb); have n3_ := Aside0.mk (blk_below (g := gb281) (o := .cells #[.slice none 0 0, .slice none 0 0] 29 (0, 0)) (zk BK281) hb); have n4_ := Aside0.mk (below_step zB hb); clear BK278; clear BK279; clear BK280; clear BK281; clear HB; have BK278 := n0_; have BK279 := n1_; have BK280 := n2_; have BK281 := n3_; have HB := n4_; clear n0_ n1_ n2_ n3_ n4_; (try clear hb); (try clear hb2); (try clear hk); (try clear hi)))
  (try simp only [Act.put, List.setIfInBounds_toArray, List.set_cons_zero, List.set_cons_succ])
  have H := HC17.out
  clear HC17
  by_cases c23 : t283 = 0
  ·rw [if_pos c23] at H
   have c23b0 : (t283 == 0) = true := beq_iff_eq.mpr c23
   have c23b1 : (t283 != 0) = false := bne_eq_false_iff_eq.mpr c23
   clear c23
   (first | rw [c23b0] | (simp only [i64_w, i32_w]; rw [c23b0]) | skip)
   (try rw [c23b1])
   replace H := Option.bind_eq_some_iff.mp H
   obtain ⟨t284, A240, H⟩ := H
   replace H : (if (t284.length : Int) > 10 then (some (([] : List Int), ([] : List Int), 3)) else ((table_over_table_combine_1_table_Join_1.f k t284 l0_0 l0_1 l1_0 l1_1).bind fun bt287 => (some (bt287.1, bt287.2, 0)))) = some (r1, r2, r3) := H
   have A24 := Aside0.mk A240
   clear A240
   have HC25 := Aside0.mk H
   clear H
   have hnb26 := NB278_279.out
   have hnc26 := NB279_278.out
   have hnb27 := NB278_280.out
   have hnc27 := NB280_278.out
   have hnb28 := NB278_281.out
   have hnc28 := NB281_278.out
   have hcz29_0 : w22.cell? ⟨gb278, 0, none⟩ = some (.slice A0_0 l0_0.length c0_0) := (blk_cell BK278.out 0).trans rfl
   have hcz29_1 : w22.cell? ⟨gb278, 1, none⟩ = some (.slice A0_1 l0_1.length c0_1) := (blk_cell BK278.out 1).trans rfl
   have hfz29_0 := blk_frozen BK278.out 0
   have hfz29_1 := blk_frozen BK278.out 1
   have hnb30 := NB279_280.out
   have hnc30 := NB280_279.out
   have hnb31 := NB279_281.out
   have hnc31 := NB281_279.out
   have hcz32_0 : w22.cell? ⟨gb279, 0, none⟩ = some (.slice A1_0 l1_0.length c1_0) := (blk_cell BK279.out 0).trans rfl
   have hcz32_1 : w22.cell? ⟨gb279, 1, none⟩ = some (.slice A1_1 l1_1.length c1_1) := (blk_cell BK279.out 1).trans rfl
   have hfz32_0 := blk_frozen BK279.out 0
   have hfz32_1 := blk_frozen BK279.out 1
   go_upto_if 30 with (first | ((with_reducible refine gate_callee (f := 64) rfl ?_); refine goesL_ (some 27) rfl rfl Try.func64 zK rfl #[.slice A0_0 l0_0.length c0_0, .slice A1_0 l1_0.length c1_0] rfl zM ?_; (with_reducible refine (table_all.calls k (fun k_ => k_ < w.heap.size) _ _ l0_0 (fun k_ => k_ < w.heap.size) _ _ l1_0 t284 _ ?side1 ?side2 A24.out).mono ?_); (case side1 => exact Kd.V_mk HC0_0.out (Kd.F_below (Kd.C_F (Kd.heap_int .i64) HR0_0.out) zB)); (case side2 => exact Kd.V_mk HC1_0.out (Kd.F_below (Kd.C_F (Kd.heap_int .i64) HR1_0.out) zB)); rintro e w33 ⟨v285, rfl, ho0, hb⟩; refine ⟨_, rfl, ?_⟩; have n0_ := Aside0.mk (Kd.R_lower (Kd.R_mono (ok' := fun k_ => True) ho0 (fun _ hk_ => trivial)) (below_size zB)); have n1_ := Aside0.mk (blk_below (g := gb278) (o := .cells #[.slice A0_0 l0_0.length c0_0, .slice A0_1 l0_1.length c0_1] 29 (0, 0)) (zk BK278) hb); have n2_ := Aside0.mk (blk_below (g := gb279) (o := .cells #[.slice A1_0 l1_0.length c1_0, .slice A1_1 l1_1.length c1_1] 29 (0, 0)) (zk BK279) hb); have n3_ := Aside0.mk (blk_below (g := gb280) (o := .cells #[.func (.func 47) #[] #[]] 60 (0, 0)) (zk BK280) hb); have n4_ := Aside0.mk (blk_below (g := gb281) (o := .cells #[.slice none 0 0, .slice none 0 0] 29 (0, 0)) (zk BK281) hb); have n5_ := Aside0.mk (below_step zB hb); clear BK278; clear BK279; clear BK280; clear BK281; clear HB; have HO286 := n0_; have BK278 := n1_; have BK279 := n2_; have BK280 := n3_; have BK281 := n4_; have HB := n5_; clear n0_ n1_ n2_ n3_ n4_ n5_; (try clear hb); (try clear hb2); (try clear hk); (try clear hi); (try clear ho0); obtain ⟨Ao34, co34, eo34⟩ := Kd.R_slice HO286.out; subst eo34))
   (try simp only [Act.put, List.setIfInBounds_toArray, List.set_cons_zero, List.set_cons_succ])
   have H := HC25.out
   clear HC25
   by_cases c35 : (t284.length : Int) > 10
   ·rw [if_pos c35] at H
    have c35b0 : decide (10 < (t284.length : Int)) = true := decide_eq_true c35
    have c35b1 : decide (10 < t284.length) = true := decide_eq_true (by omega)
    clear c35
    (first | rw [c35b0] | (simp only [i64_w, i32_w]; rw [c35b0]) | skip)
    (try rw [c35b1])
    simp only [Option.some.injEq, Prod.mk.injEq] at H
    obtain ⟨rfl, rfl, rfl⟩ := H
    have hnb36 := NB281_278.out
    have hnc36 := NB278_281.out
    have hnb37 := NB281_279.out
    have hnc37 := NB279_281.out
    have hnb38 := NB281_280.out
    have hnc38 := NB280_281.out
    have hcz39_0 : w33.cell? ⟨gb281, 0, none⟩ = some (.slice none 0 0) := (blk_cell BK281.out 0).trans rfl
    have hcz39_1 : w33.cell? ⟨gb281, 1, none⟩ = some (.slice none 0 0) := (blk_cell BK281.out 1).trans rfl
    have hfz39_0 := blk_frozen BK281.out 0
    have hfz39_1 := blk_frozen BK281.out 1
    go_wp2
    refine bodyPost_ret (results_ct rfl _ _ gb281 29 #[.slice none 0 0, .slice none 0 0] (0, 0) _ rfl (by (with_reducible repeat (first | refine blk_drewN ?_ _ | refine blk_drew ?_ | refine blk_alloc ?_ _)); refine blk_put (cs := #[.slice none 0 0, .slice none 0 0]) ?_ 1 _ rfl; (with_reducible repeat (first | refine blk_drewN ?_ _ | refine blk_drew ?_ | refine blk_alloc ?_ _)); refine blk_put (cs := #[.slice none 0 0, .slice none 0 0]) ?_ 0 _ rfl; (with_reducible repeat (first | refine blk_drewN ?_ _ | refine blk_drew ?_ | refine blk_alloc ?_ _)); exact BK281.out) Try.underlying29 rfl zK) rfl ?_
    exact ⟨_, _, by first | rfl | (simp [errW_none, errW_some] <;> rfl) | (simp [*, errW_none, errW_some] <;> rfl), by first | exact Kd.R_nil _ _ _ _ _ | exact Kd.N_nil _ _ _ _ _ | exact Kd.V_nil _ _ _ _ _ | exact Kd.Q_nil _ _ _ _ _ | exact Kd.S_nil _ _ _ _ _, by first | exact Kd.R_nil _ _ _ _ _ | exact Kd.N_nil _ _ _ _ _ | exact Kd.V_nil _ _ _ _ _ | exact Kd.Q_nil _ _ _ _ _ | exact Kd.S_nil _ _ _ _ _, by repeat (first | (with_reducible first | exact HB.out | apply below_alloc | apply pw_below_drewN | apply below_drew1 | refine below_set ?_ GE278.out | refine below_set ?_ GE279.out | refine below_set ?_ GE280.out | refine below_set ?_ GE281.out) | exact HB.out)⟩
   ·rw [if_neg c35] at H
    have c35b0 : decide (10 < (t284.length : Int)) = false := decide_eq_false c35
    have c35b1 : decide (10 < t284.length) = false := decide_eq_false (by omega)
    clear c35
    (first | rw [c35b0] | (simp only [i64_w, i32_w]; rw [c35b0]) | skip)
    (try rw [c35b1])
    replace H := Option.bind_eq_some_iff.mp H
    obtain ⟨⟨t287, t290⟩, A400, H⟩ := H
    replace H : (some (t287, t290, 0)) = some (r1, r2, r3) := H
    have A40 := Aside0.mk A400
    clear A400
    simp only [Option.some.injEq, Prod.mk.injEq] at H
    obtain ⟨rfl, rfl, rfl⟩ := H
    go_wp2_with (first | ((with_reducible refine gate_callee (f := 59) rfl ?_); refine goesL_ (some 34) rfl rfl Try.func59 zK rfl #[.slice Ao34 t284.length co34, .func (.func 73) #[] #[.pointer (some ⟨gb280, 0, none⟩), .pointer (some ⟨gb278, 0, none⟩), .pointer (some ⟨gb279, 0, none⟩)]] rfl zM ?_; (with_reducible refine (table_over_table_combine_1_table_Join_1.calls k _ _ t284 gb280 gb278 gb279 A0_0 c0_0 l0_0 A0_1 c0_1 l0_1 A1_0 c1_0 l1_0 A1_1 c1_1 l1_1 t287 t290 _ ?side1 ?side2 ?side3 ?side4 ?side5 ?side6 ?side7 ?side8 ?side9 ?side10 ?side11 ?side12 ?side13 A40.out).mono ?_); (case side1 => repeat (first | exact (Kd.R_reads' HO286.out).2.2 | (with_reducible refine Kd.C_alloc ?_ _) | (with_reducible refine Kd.C_drewN ?_ _) | (with_reducible refine Kd.C_drew ?_))); (case side2 => exact (Kd.R_reads' HO286.out).2.1); (case side3 => repeat (first | exact (Kd.C_below HR0_0.out HB.out) | (with_reducible refine Kd.C_alloc ?_ _) | (with_reducible refine Kd.C_drewN ?_ _) | (with_reducible refine Kd.C_drew ?_))); (case side4 => exact HC0_0.out); (case side5 => repeat (first | exact (Kd.C_below HR0_1.out HB.out) | (with_reducible refine Kd.C_alloc ?_ _) | (with_reducible refine Kd.C_drewN ?_ _) | (with_reducible refine Kd.C_drew ?_))); (case side6 => exact HC0_1.out); (case side7 => repeat (first | exact (Kd.C_below HR1_0.out HB.out) | (with_reducible refine Kd.C_alloc ?_ _) | (with_reducible refine Kd.C_drewN ?_ _) | (with_reducible refine Kd.C_drew ?_))); (case side8 => exact HC1_0.out); (case side9 => repeat (first | exact (Kd.C_below HR1_1.out HB.out) | (with_reducible refine Kd.C_alloc ?_ _) | (with_reducible refine Kd.C_drewN ?_ _) | (with_reducible refine Kd.C_drew ?_))); (case side10 => exact HC1_1.out); (case side11 => (with_reducible repeat (first | refine blk_drewN ?_ _ | refine blk_drew ?_ | refine blk_alloc ?_ _)); exact BK280.out); (case side12 => (with_reducible repeat (first | refine blk_drewN ?_ _ | refine blk_drew ?_ | refine blk_alloc ?_ _)); exact BK278.out); (case side13 => (with_reducible repeat (first | refine blk_drewN ?_ _ | refine blk_drew ?_ | refine blk_alloc ?_ _)); exact BK279.out); rintro e w41 ⟨v288, v291, rfl, ho0, ho1, hb⟩; refine ⟨_, rfl, ?_⟩; have n0_ := Aside0.mk (Kd.R_mono (Kd.R_told (Kd.R_told (Kd.R_old (zR HO286) hb) (Kd.R_base ho0)) (Kd.R_base ho1)) (fun _ h_ => h_.1)); have n1_ := Aside0.mk (Kd.R_lower (Kd.R_new' ho0 (Kd.R_lt (zR HO286))) (below_size zB)); have n2_ := Aside0.mk (Kd.R_lower (Kd.R_new' ho1 (Kd.R_lt (zR HO286))) (below_size zB)); have n3_ := Aside0.mk (blk_below (g := gb278) (o := .cells #[.slice A0_0 l0_0.length c0_0, .slice A0_1 l0_1.length c0_1] 29 (0, 0)) (zk BK278) hb); have n4_ := Aside0.mk (blk_below (g := gb279) (o := .cells #[.slice A1_0 l1_0.length c1_0, .slice A1_1 l1_1.length c1_1] 29 (0, 0)) (zk BK279) hb); have n5_ := Aside0.mk (blk_below (g := gb280) (o := .cells #[.func (.func 47) #[] #[]] 60 (0, 0)) (zk BK280) hb); have n6_ := Aside0.mk (blk_below (g := gb281) (o := .cells #[.slice none 0 0, .slice none 0 0] 29 (0, 0)) (zk BK281) hb); have n7_ := Aside0.mk (below_step zB hb); clear HO286; clear BK278; clear BK279; clear BK280; clear BK281; clear HB; have HO286 := n0_; have HO289 := n1_; have HO292 := n2_; have BK278 := n3_; have BK279 := n4_; have BK280 := n5_; have BK281 := n6_; have HB := n7_; clear n0_ n1_ n2_ n3_ n4_ n5_ n6_ n7_; (try clear hb); (try clear hb2); (try clear hk); (try clear hi); (try clear ho0); (try clear ho1); obtain ⟨Ao42, co42, eo42⟩ := Kd.R_slice HO289.out; subst eo42; have hnb43 := NB281_278.out; have hnc43 := NB278_281.out; have hnb44 := NB281_279.out; have hnc44 := NB279_281.out; have hnb45 := NB281_280.out; have hnc45 := NB280_281.out; have hcz46_0 : w41.cell? ⟨gb281, 0, none⟩ = some (.slice none 0 0) := (blk_cell BK281.out 0).trans rfl; have hcz46_1 : w41.cell? ⟨gb281, 1, none⟩ = some (.slice none 0 0) := (blk_cell BK281.out 1).trans rfl; have hfz46_0 := blk_frozen BK281.out 0; have hfz46_1 := blk_frozen BK281.out 1; obtain ⟨Ao47, co47, eo47⟩ := Kd.R_slice HO292.out; subst eo47))
    refine bodyPost_ret (results_ct rfl _ _ gb281 29 #[.slice Ao42 t287.length co42, .slice Ao47 t290.length co47] (0, 0) _ rfl (by (with_reducible repeat (first | refine blk_drewN ?_ _ | refine blk_drew ?_ | refine blk_alloc ?_ _)); refine blk_put (cs := #[.slice Ao42 t287.length co42, .slice none 0 0]) ?_ 1 _ rfl; (with_reducible repeat (first | refine blk_drewN ?_ _ | refine blk_drew ?_ | refine blk_alloc ?_ _)); refine blk_put (cs := #[.slice none 0 0, .slice none 0 0]) ?_ 0 _ rfl; (with_reducible repeat (first | refine blk_drewN ?_ _ | refine blk_drew ?_ | refine blk_alloc ?_ _)); exact BK281.out) Try.underlying29 rfl zK) rfl ?_
    exact ⟨_, _, by first | rfl | (simp [errW_none, errW_some] <;> rfl) | (simp [*, errW_none, errW_some] <;> rfl), by (with_reducible repeat (first | apply Kd.R_alloc | apply Kd.R_drewN | apply Kd.R_drew)); exact Kd.R_mono (Kd.R_far (p := ⟨gb281, 1, none⟩) (Kd.R_far (p := ⟨gb281, 0, none⟩) (Kd.R_types HO289.out BK281.out (by decide)) (fun _ hk => hk.2) (.slice Ao42 t287.length co42)) (fun _ hk => hk.2) (.slice Ao47 t290.length co47)) (fun _ hk => hk.1.1), by (with_reducible repeat (first | apply Kd.R_alloc | apply Kd.R_drewN | apply Kd.R_drew)); exact Kd.R_mono (Kd.R_far (p := ⟨gb281, 1, none⟩) (Kd.R_far (p := ⟨gb281, 0, none⟩) (Kd.R_types HO292.out BK281.out (by decide)) (fun _ hk => hk.2) (.slice Ao42 t287.length co42)) (fun _ hk => hk.2) (.slice Ao47 t290.length co47)) (fun _ hk => hk.1.1), by repeat (first | (with_reducible first | exact HB.out | apply below_alloc | apply pw_below_drewN | apply below_drew1 | refine below_set ?_ GE278.out | refine below_set ?_ GE279.out | refine below_set ?_ GE280.out | refine below_set ?_ GE281.out) | exact HB.out)⟩
  ·rw [if_neg c23] at H
   have c23b0 : (t283 == 0) = false := beq_eq_false_iff_ne.mpr c23
   have c23b1 : (t283 != 0) = true := bne_iff_ne.mpr c23
   (first | rw [c23b0] | (simp only [i64_w, i32_w]; rw [c23b0]) | skip)
   (try rw [c23b1])
   simp only [Option.some.injEq, Prod.mk.injEq] at H
   obtain ⟨rfl, rfl, rfl⟩ := H
   have hnb48 := NB281_278.out
   have hnc48 := NB278_281.out
   have hnb49 := NB281_279.out
   have hnc49 := NB279_281.out
   have hnb50 := NB281_280.out
   have hnc50 := NB280_281.out
   have hcz51_0 : w22.cell? ⟨gb281, 0, none⟩ = some (.slice none 0 0) := (blk_cell BK281.out 0).trans rfl
   have hcz51_1 : w22.cell? ⟨gb281, 1, none⟩ = some (.slice none 0 0) := (blk_cell BK281.out 1).trans rfl
   have hfz51_0 := blk_frozen BK281.out 0
   have hfz51_1 := blk_frozen BK281.out 1
   go_wp2
   refine bodyPost_ret (results_ct rfl _ _ gb281 29 #[.slice none 0 0, .slice none 0 0] (0, 0) _ rfl (by (with_reducible repeat (first | refine blk_drewN ?_ _ | refine blk_drew ?_ | refine blk_alloc ?_ _)); refine blk_put (cs := #[.slice none 0 0, .slice none 0 0]) ?_ 1 _ rfl; (with_reducible repeat (first | refine blk_drewN ?_ _ | refine blk_drew ?_ | refine blk_alloc ?_ _)); refine blk_put (cs := #[.slice none 0 0, .slice none 0 0]) ?_ 0 _ rfl; (with_reducible repeat (first | refine blk_drewN ?_ _ | refine blk_drew ?_ | refine blk_alloc ?_ _)); exact BK281.out) Try.underlying29 rfl zK) rfl ?_
   exact ⟨_, _, by first | rfl | (simp [errW_none, errW_some] <;> rfl) | (simp [*, errW_none, errW_some] <;> rfl), by first | exact Kd.R_nil _ _ _ _ _ | exact Kd.N_nil _ _ _ _ _ | exact Kd.V_nil _ _ _ _ _ | exact Kd.Q_nil _ _ _ _ _ | exact Kd.S_nil _ _ _ _ _, by first | exact Kd.R_nil _ _ _ _ _ | exact Kd.N_nil _ _ _ _ _ | exact Kd.V_nil _ _ _ _ _ | exact Kd.Q_nil _ _ _ _ _ | exact Kd.S_nil _ _ _ _ _, by repeat (first | (with_reducible first | exact HB.out | apply below_alloc | apply pw_below_drewN | apply below_drew1 | refine below_set ?_ GE278.out | refine below_set ?_ GE279.out | refine below_set ?_ GE280.out | refine below_set ?_ GE281.out) | exact HB.out)⟩
 ·rw [if_neg c15] at H
  have c15b0 : (t282 == 0) = false := beq_eq_false_iff_ne.mpr c15
  have c15b1 : (t282 != 0) = true := bne_iff_ne.mpr c15
  (first | rw [c15b0] | (simp only [i64_w, i32_w]; rw [c15b0]) | skip)
  (try rw [c15b1])
  simp only [Option.some.injEq, Prod.mk.injEq] at H
  obtain ⟨rfl, rfl, rfl⟩ := H
  have hnb52 := NB281_278.out
  have hnc52 := NB278_281.out
  have hnb53 := NB281_279.out
  have hnc53 := NB279_281.out
  have hnb54 := NB281_280.out
  have hnc54 := NB280_281.out
  have hcz55_0 : w14.cell? ⟨gb281, 0, none⟩ = some (.slice none 0 0) := (blk_cell BK281.out 0).trans rfl
  have hcz55_1 : w14.cell? ⟨gb281, 1, none⟩ = some (.slice none 0 0) := (blk_cell BK281.out 1).trans rfl
  have hfz55_0 := blk_frozen BK281.out 0
  have hfz55_1 := blk_frozen BK281.out 1
  go_wp2
  refine bodyPost_ret (results_ct rfl _ _ gb281 29 #[.slice none 0 0, .slice none 0 0] (0, 0) _ rfl (by (with_reducible repeat (first | refine blk_drewN ?_ _ | refine blk_drew ?_ | refine blk_alloc ?_ _)); refine blk_put (cs := #[.slice none 0 0, .slice none 0 0]) ?_ 1 _ rfl; (with_reducible repeat (first | refine blk_drewN ?_ _ | refine blk_drew ?_ | refine blk_alloc ?_ _)); refine blk_put (cs := #[.slice none 0 0, .slice none 0 0]) ?_ 0 _ rfl; (with_reducible repeat (first | refine blk_drewN ?_ _ | refine blk_drew ?_ | refine blk_alloc ?_ _)); exact BK281.out) Try.underlying29 rfl zK) rfl ?_
  exact ⟨_, _, by first | rfl | (simp [errW_none, errW_some] <;> rfl) | (simp [*, errW_none, errW_some] <;> rfl), by first | exact Kd.R_nil _ _ _ _ _ | exact Kd.N_nil _ _ _ _ _ | exact Kd.V_nil _ _ _ _ _ | exact Kd.Q_nil _ _ _ _ _ | exact Kd.S_nil _ _ _ _ _, by first | exact Kd.R_nil _ _ _ _ _ | exact Kd.N_nil _ _ _ _ _ | exact Kd.V_nil _ _ _ _ _ | exact Kd.Q_nil _ _ _ _ _ | exact Kd.S_nil _ _ _ _ _, by repeat (first | (with_reducible first | exact HB.out | apply below_alloc | apply pw_below_drewN | apply below_drew1 | refine below_set ?_ GE278.out | refine below_set ?_ GE279.out | refine below_set ?_ GE280.out | refine below_set ?_ GE281.out) | exact HB.out)⟩
/-! ### table_Join: function 15 -/
def table_Join.f (k : Nat) (l0_0 : List Int) (l0_1 : List Int) (l1_0 : List Int) (l1_1 : List Int) : Option (List Int × List Int × Int) := (table_combine_table_Join_1.f k l0_0 l0_1 l1_0 l1_1).bind fun bt296 => (some (bt296.1, bt296.2.1, bt296.2.2))
theorem table_Join.mono : ∀ a0 a1 a2 a3 k, LeO (table_Join.f k a0 a1 a2 a3) (table_Join.f (k + 1) a0 a1 a2 a3) := by
 intro a0 a1 a2 a3 k
 unfold table_Join.f
 repeat' first
   | (with_reducible exact table_combine_table_Join_1.mono _ _ _ _ _)
   | (with_reducible exact LeO.refl _)
   | (with_reducible exact LeO.none _)
   | (with_reducible refine LeO.ite ?_ ?_)
   | (with_reducible refine LeO.bind ?_ (fun _ => ?_))
   | exact table_combine_table_Join_1.mono _ _ _ _ _
   | exact LeO.none _
   | refine LeO.ite ?_ ?_
   | refine LeO.bind ?_ (fun _ => ?_)
set_option maxHeartbeats 8000000 in
set_option maxRecDepth 100000 in
theorem table_Join.calls (k : Nat) (A0_0 : Option Addr) (c0_0 : Nat) (l0_0 : List Int) (A0_1 : Option Addr) (c0_1 : Nat) (l0_1 : List Int) (A1_0 : Option Addr) (c1_0 : Nat) (l1_0 : List Int) (A1_1 : Option Addr) (c1_1 : Nat) (l1_1 : List Int) (r1 : List Int) (r2 : List Int) (r3 : Int) (w : World) (hr0_0 : Kd.C (Kd.int .i64) w A0_0 l0_0.length l0_0) (hc0_0 : l0_0.length ≤ c0_0) (hr0_1 : Kd.C (Kd.int .i64) w A0_1 l0_1.length l0_1) (hc0_1 : l0_1.length ≤ c0_1) (hr1_0 : Kd.C (Kd.int .i64) w A1_0 l1_0.length l1_0) (hc1_0 : l1_0.length ≤ c1_0) (hr1_1 : Kd.C (Kd.int .i64) w A1_1 l1_1.length l1_1) (hc1_1 : l1_1.length ≤ c1_1) (h : table_Join.f k l0_0 l0_1 l1_0 l1_1 = some (r1, r2, r3)) :
  Calls Try.prog 15 #[.agg #[.slice A0_0 l0_0.length c0_0, .slice A0_1 l0_1.length c0_1], .agg #[.slice A1_0 l1_0.length c1_0, .slice A1_1 l1_1.length c1_1]] w fun e w' => ∃ v0_ v1_ : Value, e = .returned (.tuple #[.agg #[v0_, v1_], .int .i64 r3]) ∧ Kd.R (Kd.int .i64) 3 w' w.heap.size (fun k_ => some k_ ≠ (v1_ : Value).ownBlock) v0_ r1 ∧ Kd.R (Kd.int .i64) 3 w' w.heap.size (fun k_ => some k_ ≠ (v0_ : Value).ownBlock) v1_ r2 ∧ Below w.heap.size w w' := by
 have hu29 := Try.underlying29
 have HR0_0 := Aside0.mk hr0_0
 have HC0_0 := Aside0.mk hc0_0
 clear hr0_0 hc0_0
 have HR0_1 := Aside0.mk hr0_1
 have HC0_1 := Aside0.mk hc0_1
 clear hr0_1 hc0_1
 have HR1_0 := Aside0.mk hr1_0
 have HC1_0 := Aside0.mk hc1_0
 clear hr1_0 hc1_0
 have HR1_1 := Aside0.mk hr1_1
 have HC1_1 := Aside0.mk hc1_1
 clear hr1_1 hc1_1
 have HB := Aside0.mk (Below.refl w.heap.size w)
 have H : ((table_combine_table_Join_1.f k l0_0 l0_1 l1_0 l1_1).bind fun bt296 => (some (bt296.1, bt296.2.1, bt296.2.2))) = some (r1, r2, r3) := h
 clear h
 replace H := Option.bind_eq_some_iff.mp H
 obtain ⟨⟨t296, t299, t302⟩, A30, H⟩ := H
 replace H : (some (t296, t299, t302)) = some (r1, r2, r3) := H
 have A3 := Aside0.mk A30
 clear A30
 simp only [Option.some.injEq, Prod.mk.injEq] at H
 obtain ⟨rfl, rfl, rfl⟩ := H
 go_enter Try.func15, Try.ntmps15
 go_wp2_with (first | ((with_reducible refine gate_dst (N := 2) rfl ?_); refine box_event ?hg (N := 2) ?hd (cs := #[.slice A0_0 l0_0.length c0_0, .slice A0_1 l0_1.length c0_1]) (t := 29) ?hr ?_; (case hd => rfl); (case hg => rfl); (case hr => first | (go_simp; done) | (go_simp; rfl)); intro gb293 hg w4 hbox hb; have n0_ := Aside0.mk (below_step zB hb); have n1_ := Aside0.mk (hbox); have n2_ := Aside0.mk ((by rw [hg]; exact (below_size zB) : w.heap.size ≤ gb293)); have n3_ := Aside0.mk ((by rw [hg]; exact (below_size zB) : w.heap.size ≤ gb293)); clear HB; have HB := n0_; have BK293 := n1_; have GW293 := n2_; have GE293 := n3_; clear n0_ n1_ n2_ n3_; clear hb hbox hg) | ((with_reducible refine gate_dst (N := 3) rfl ?_); refine box_event ?hg (N := 3) ?hd (cs := #[.slice A1_0 l1_0.length c1_0, .slice A1_1 l1_1.length c1_1]) (t := 29) ?hr ?_; (case hd => rfl); (case hg => rfl); (case hr => first | (go_simp; done) | (go_simp; rfl)); intro gb294 hg w5 hbox hb; have n0_ := Aside0.mk (blk_below (g := gb293) (o := .cells #[.slice A0_0 l0_0.length c0_0, .slice A0_1 l0_1.length c0_1] 29 (0, 0)) (zk BK293) hb); have n1_ := Aside0.mk (below_step zB hb); have n2_ := Aside0.mk (hbox); have n3_ := Aside0.mk ((by rw [hg]; exact (below_size zB) : w.heap.size ≤ gb294)); have n4_ := Aside0.mk ((by rw [hg]; exact (below_size zB) : w.heap.size ≤ gb294)); have n5_ := Aside0.mk ((by rw [hg]; exact Nat.ne_of_lt (blk_lt (g := gb293) (o := .cells #[.slice A0_0 l0_0.length c0_0, .slice A0_1 l0_1.length c0_1] 29 (0, 0)) (zk BK293)) : gb293 ≠ gb294)); have n6_ := Aside0.mk ((by rw [hg]; exact Nat.ne_of_gt (blk_lt (g := gb293) (o := .cells #[.slice A0_0 l0_0.length c0_0, .slice A0_1 l0_1.length c0_1] 29 (0, 0)) (zk BK293)) : gb294 ≠ gb293)); clear BK293; clear HB; have BK293 := n0_; have HB := n1_; have BK294 := n2_; have GW294 := n3_; have GE294 := n4_; have NB293_294 := n5_; have NB294_293 := n6_; clear n0_ n1_ n2_ n3_ n4_ n5_ n6_; clear hb hbox hg) | ((with_reducible refine gate_dst (N := 4) rfl ?_); refine box_event ?hg (N := 4) ?hd (cs := #[.slice none 0 0, .slice none 0 0]) (t := 29) ?hr ?_; (case hd => rfl); (case hg => rfl); (case hr => first | (go_simp; done) | (go_simp; rfl)); intro gb295 hg w6 hbox hb; have n0_ := Aside0.mk (blk_below (g := gb293) (o := .cells #[.slice A0_0 l0_0.length c0_0, .slice A0_1 l0_1.length c0_1] 29 (0, 0)) (zk BK293) hb); have n1_ := Aside0.mk (blk_below (g := gb294) (o := .cells #[.slice A1_0 l1_0.length c1_0, .slice A1_1 l1_1.length c1_1] 29 (0, 0)) (zk BK294) hb); have n2_ := Aside0.mk (below_step zB hb); have n3_ := Aside0.mk (hbox); have n4_ := Aside0.mk ((by rw [hg]; exact (below_size zB) : w.heap.size ≤ gb295)); have n5_ := Aside0.mk ((by rw [hg]; exact (below_size zB) : w.heap.size ≤ gb295)); have n6_ := Aside0.mk ((by rw [hg]; exact Nat.ne_of_lt (blk_lt (g := gb293) (o := .cells #[.slice A0_0 l0_0.length c0_0, .slice A0_1 l0_1.length c0_1] 29 (0, 0)) (zk BK293)) : gb293 ≠ gb295)); have n7_ := Aside0.mk ((by rw [hg]; exact Nat.ne_of_gt (blk_lt (g := gb293) (o := .cells #[.slice A0_0 l0_0.length c0_0, .slice A0_1 l0_1.length c0_1] 29 (0, 0)) (zk BK293)) : gb295 ≠ gb293)); have n8_ := Aside0.mk ((by rw [hg]; exact Nat.ne_of_lt (blk_lt (g := gb294) (o := .cells #[.slice A1_0 l1_0.length c1_0, .slice A1_1 l1_1.length c1_1] 29 (0, 0)) (zk BK294)) : gb294 ≠ gb295)); have n9_ := Aside0.mk ((by rw [hg]; exact Nat.ne_of_gt (blk_lt (g := gb294) (o := .cells #[.slice A1_0 l1_0.length c1_0, .slice A1_1 l1_1.length c1_1] 29 (0, 0)) (zk BK294)) : gb295 ≠ gb294)); clear BK293; clear BK294; clear HB; have BK293 := n0_; have BK294 := n1_; have HB := n2_; have BK295 := n3_; have GW295 := n4_; have GE295 := n5_; have NB293_295 := n6_; have NB295_293 := n7_; have NB294_295 := n8_; have NB295_294 := n9_; clear n0_ n1_ n2_ n3_ n4_ n5_ n6_ n7_ n8_ n9_; clear hb hbox hg; have hnb7 := NB293_294.out; have hnc7 := NB294_293.out; have hnb8 := NB293_295.out; have hnc8 := NB295_293.out; have hcz9_0 : w6.cell? ⟨gb293, 0, none⟩ = some (.slice A0_0 l0_0.length c0_0) := (blk_cell BK293.out 0).trans rfl; have hcz9_1 : w6.cell? ⟨gb293, 1, none⟩ = some (.slice A0_1 l0_1.length c0_1) := (blk_cell BK293.out 1).trans rfl; have hfz9_0 := blk_frozen BK293.out 0; have hfz9_1 := blk_frozen BK293.out 1; have hnb10 := NB294_295.out; have hnc10 := NB295_294.out; have hcz11_0 : w6.cell? ⟨gb294, 0, none⟩ = some (.slice A1_0 l1_0.length c1_0) := (blk_cell BK294.out 0).trans rfl; have hcz11_1 : w6.cell? ⟨gb294, 1, none⟩ = some (.slice A1_1 l1_1.length c1_1) := (blk_cell BK294.out 1).trans rfl; have hfz11_0 := blk_frozen BK294.out 0; have hfz11_1 := blk_frozen BK294.out 1) | ((with_reducible refine gate_callee (f := 46) rfl ?_); refine goesL_ (some 8) rfl rfl Try.func46 zK rfl #[.agg #[.slice A0_0 l0_0.length c0_0, .slice A0_1 l0_1.length c0_1], .agg #[.slice A1_0 l1_0.length c1_0, .slice A1_1 l1_1.length c1_1], .func (.func 47) #[] #[]] rfl zM ?_; (with_reducible refine (table_combine_table_Join_1.calls k _ _ l0_0 _ _ l0_1 _ _ l1_0 _ _ l1_1  t296 t299 t302 _ ?side1 ?side2 ?side3 ?side4 ?side5 ?side6 ?side7 ?side8 A3.out).mono ?_); (case side1 => repeat (first | exact (Kd.C_below HR0_0.out HB.out) | (with_reducible refine Kd.C_alloc ?_ _) | (with_reducible refine Kd.C_drewN ?_ _) | (with_reducible refine Kd.C_drew ?_))); (case side2 => exact HC0_0.out); (case side3 => repeat (first | exact (Kd.C_below HR0_1.out HB.out) | (with_reducible refine Kd.C_alloc ?_ _) | (with_reducible refine Kd.C_drewN ?_ _) | (with_reducible refine Kd.C_drew ?_))); (case side4 => exact HC0_1.out); (case side5 => repeat (first | exact (Kd.C_below HR1_0.out HB.out) | (with_reducible refine Kd.C_alloc ?_ _) | (with_reducible refine Kd.C_drewN ?_ _) | (with_reducible refine Kd.C_drew ?_))); (case side6 => exact HC1_0.out); (case side7 => repeat (first | exact (Kd.C_below HR1_1.out HB.out) | (with_reducible refine Kd.C_alloc ?_ _) | (with_reducible refine Kd.C_drewN ?_ _) | (with_reducible refine Kd.C_drew ?_))); (case side8 => exact HC1_1.out); rintro e w12 ⟨v297, v300, rfl, ho0, ho1, hb⟩; refine ⟨_, rfl, ?_⟩; have n0_ := Aside0.mk (Kd.R_lower ho0 (below_size zB)); have n1_ := Aside0.mk (Kd.R_lower ho1 (below_size zB)); have n2_ := Aside0.mk (blk_below (g := gb293) (o := .cells #[.slice A0_0 l0_0.length c0_0, .slice A0_1 l0_1.length c0_1] 29 (0, 0)) (zk BK293) hb); have n3_ := Aside0.mk (blk_below (g := gb294) (o := .cells #[.slice A1_0 l1_0.length c1_0, .slice A1_1 l1_1.length c1_1] 29 (0, 0)) (zk BK294) hb); have n4_ := Aside0.mk (blk_below (g := gb295) (o := .cells #[.slice none 0 0, .slice none 0 0] 29 (0, 0)) (zk BK295) hb); have n5_ := Aside0.mk (below_step zB hb); clear BK293; clear BK294; clear BK295; clear HB; have HO298 := n0_; have HO301 := n1_; have BK293 := n2_; have BK294 := n3_; have BK295 := n4_; have HB := n5_; clear n0_ n1_ n2_ n3_ n4_ n5_; (try clear hb); (try clear hb2); (try clear hk); (try clear hi); (try clear ho0); (try clear ho1); obtain ⟨Ao13, co13, eo13⟩ := Kd.R_slice HO298.out; subst eo13; have hcz14_0 : w12.cell? ⟨gb295, 0, none⟩ = some (.slice none 0 0) := (blk_cell BK295.out 0).trans rfl; have hcz14_1 : w12.cell? ⟨gb295, 1, none⟩ = some (.slice none 0 0) := (blk_cell BK295.out 1).trans rfl; have hfz14_0 := blk_frozen BK295.out 0; have hfz14_1 := blk_frozen BK295.out 1; obtain ⟨Ao15, co15, eo15⟩ := Kd.R_slice HO301.out; subst eo15))
 refine bodyPost_ret (results_ct rfl _ _ gb295 29 #[.slice Ao13 t296.length co13, .slice Ao15 t299.length co15] (0, 0) _ rfl (by (with_reducible repeat (first | refine blk_drewN ?_ _ | refine blk_drew ?_ | refine blk_alloc ?_ _)); refine blk_put (cs := #[.slice Ao13 t296.length co13, .slice none 0 0]) ?_ 1 _ rfl; (with_reducible repeat (first | refine blk_drewN ?_ _ | refine blk_drew ?_ | refine blk_alloc ?_ _)); refine blk_put (cs := #[.slice none 0 0, .slice none 0 0]) ?_ 0 _ rfl; (with_reducible repeat (first | refine blk_drewN ?_ _ | refine blk_drew ?_ | refine blk_alloc ?_ _)); exact BK295.out) Try.underlying29 rfl zK) rfl ?_
 exact ⟨_, _, by first | rfl | (simp [errW_none, errW_some] <;> rfl) | (simp [*, errW_none, errW_some] <;> rfl), by (with_reducible repeat (first | apply Kd.R_alloc | apply Kd.R_drewN | apply Kd.R_drew)); exact Kd.R_mono (Kd.R_far (p := ⟨gb295, 1, none⟩) (Kd.R_far (p := ⟨gb295, 0, none⟩) (Kd.R_types HO298.out BK295.out (by decide)) (fun _ hk => hk.2) (.slice Ao13 t296.length co13)) (fun _ hk => hk.2) (.slice Ao15 t299.length co15)) (fun _ hk => hk.1), by (with_reducible repeat (first | apply Kd.R_alloc | apply Kd.R_drewN | apply Kd.R_drew)); exact Kd.R_mono (Kd.R_far (p := ⟨gb295, 1, none⟩) (Kd.R_far (p := ⟨gb295, 0, none⟩) (Kd.R_types HO301.out BK295.out (by decide)) (fun _ hk => hk.2) (.slice Ao13 t296.length co13)) (fun _ hk => hk.2) (.slice Ao15 t299.length co15)) (fun _ hk => hk.1), by repeat (first | (with_reducible first | exact HB.out | apply below_alloc | apply pw_below_drewN | apply below_drew1 | refine below_set ?_ GE293.out | refine below_set ?_ GE294.out | refine below_set ?_ GE295.out) | exact HB.out)⟩
/-! ### ancepsref38_Lists: function 49 -/
def ancepsref38_Lists.l0 : Nat → List Int → List Int → Int → Option (Bool)
 | 0, _, _, _ => none
 | k + 1, x0, x1, x5 => if x5 < (x0.length : Int) then (if 0 ≤ x5 then (if x5 < (x1.length : Int) then (if (rd x0 x5) = (rd x1 x5) then (ancepsref38_Lists.l0 k x0 x1 (wrap64 (x5 + 1))) else (some false)) else (none)) else (none)) else (some true)
def ancepsref38_Lists.f (k : Nat) (l0 : List Int) (l1 : List Int) : Option (Bool) := if (l0.length : Int) = (l1.length : Int) then (ancepsref38_Lists.l0 k l0 l1 0) else (some false)
theorem ancepsref38_Lists.mono_l : ∀ k, (∀ y0 y1 y2, LeO (ancepsref38_Lists.l0 k y0 y1 y2) (ancepsref38_Lists.l0 (k + 1) y0 y1 y2))
 | 0 => fun _ _ _ r h => by simp [ancepsref38_Lists.l0] at h
 | k + 1 => by
  have ih0 := ancepsref38_Lists.mono_l k
  ·intro y0 y1 y2
   unfold ancepsref38_Lists.l0
   repeat' first
   | (with_reducible exact ih0 _ _ _)
   | (with_reducible exact LeO.refl _)
   | (with_reducible exact LeO.none _)
   | (with_reducible refine LeO.ite ?_ ?_)
   | (with_reducible refine LeO.bind ?_ (fun _ => ?_))
   | exact ih0 _ _ _
   | exact LeO.none _
   | refine LeO.ite ?_ ?_
   | refine LeO.bind ?_ (fun _ => ?_)
theorem ancepsref38_Lists.mono : ∀ a0 a1 k, LeO (ancepsref38_Lists.f k a0 a1) (ancepsref38_Lists.f (k + 1) a0 a1) := by
 intro a0 a1 k
 have ih0 := ancepsref38_Lists.mono_l k
 unfold ancepsref38_Lists.f
 repeat' first
   | (with_reducible exact ih0 _ _ _)
   | (with_reducible exact LeO.refl _)
   | (with_reducible exact LeO.none _)
   | (with_reducible refine LeO.ite ?_ ?_)
   | (with_reducible refine LeO.bind ?_ (fun _ => ?_))
   | exact ih0 _ _ _
   | exact LeO.none _
   | refine LeO.ite ?_ ?_
   | refine LeO.bind ?_ (fun _ => ?_)
set_option maxHeartbeats 8000000 in
set_option maxRecDepth 100000 in
theorem ancepsref38_Lists.calls (k : Nat) (A0 : Option Addr) (c0 : Nat) (l0 : List Int) (A1 : Option Addr) (c1 : Nat) (l1 : List Int) (r : Bool) (w : World) (hr0 : Kd.C (Kd.int .i64) w A0 l0.length l0) (hc0 : l0.length ≤ c0) (hr1 : Kd.C (Kd.int .i64) w A1 l1.length l1) (hc1 : l1.length ≤ c1) (h : ancepsref38_Lists.f k l0 l1 = some r) :
  Calls Try.prog 49 #[.slice A0 l0.length c0, .slice A1 l1.length c1] w fun e w' => e = .returned (.bool r) ∧ Drawn0 w w' := by
 have hu3 := Try.underlying3
 have HR0 := Aside0.mk hr0
 have HC0 := Aside0.mk hc0
 clear hr0 hc0
 have HR1 := Aside0.mk hr1
 have HC1 := Aside0.mk hc1
 clear hr1 hc1
 have H : (if (l0.length : Int) = (l1.length : Int) then (ancepsref38_Lists.l0 k l0 l1 0) else (some false)) = some r := h
 clear h
 by_cases c3 : (l0.length : Int) = (l1.length : Int)
 ·rw [if_pos c3] at H
  have c3b0 : ((l0.length : Int) == (l1.length : Int)) = true := beq_iff_eq.mpr c3
  have c3b1 : ((l0.length : Int) != (l1.length : Int)) = false := bne_eq_false_iff_eq.mpr c3
  have c3b2 : (l0.length == l1.length) = true := by first | simpa using c3 | (simp at c3 ⊢; omega)
  clear c3
  have H' := Aside0.mk H
  clear H
  go_enter Try.func49, Try.ntmps49
  go_wp2
  repeat (go_quiet (fail); try go_wp2)
  go_loopg [5] k (fun kq v5 w' => ∃ (x5_1 : Int), v5 = .int .i64 x5_1 ∧ Aside0 (ancepsref38_Lists.l0 kq l0 l1 x5_1 = some r) ∧ Aside0 (kq ≤ k) ∧ Drawn0 w w')
  case atStart => exact ⟨(0), zT, H', ⟨Nat.le_refl _⟩, by repeat (first | exact Drawn0.refl _ | apply Drawn0.step)⟩
  case round =>
   clear H'
   try clear c3
   try clear c3b0
   try clear c3b1
   try clear c3b2
   obtain ⟨x5_1, rfl, HA, HK1, ⟨m1, rfl⟩⟩ := hrel
   cases gk with
   | zero => exact absurd HA.out (by simp [ancepsref38_Lists.l0])
   | succ k1 =>
    have H := HA.out
    clear HA
    simp only [ancepsref38_Lists.l0] at H
    by_cases c4 : x5_1 < (l0.length : Int)
    ·rw [if_pos c4] at H
     have c4b0 : decide (x5_1 < (l0.length : Int)) = true := decide_eq_true c4
     clear c4
     by_cases c5 : 0 ≤ x5_1
     ·rw [if_pos c5] at H
      have c5b0 : decide (0 ≤ x5_1) = true := decide_eq_true c5
      clear c5
      by_cases c6 : x5_1 < (l1.length : Int)
      ·rw [if_pos c6] at H
       have c6b0 : decide (x5_1 < (l1.length : Int)) = true := decide_eq_true c6
       clear c6
       by_cases c7 : (rd l0 x5_1) = (rd l1 x5_1)
       ·rw [if_pos c7] at H
        have c7b0 : ((rd l0 x5_1) == (rd l1 x5_1)) = true := beq_iff_eq.mpr c7
        have c7b1 : ((rd l0 x5_1) != (rd l1 x5_1)) = false := bne_eq_false_iff_eq.mpr c7
        clear c7
        have H' := Aside0.mk H
        clear H
        have p303 : 0 ≤ (x5_1 : Int) := of_decide_eq_true zh
        have q303 : x5_1 < (l0.length : Int) := of_decide_eq_true zh
        obtain ⟨ad303, e303, hx303_0⟩ := Kd.at_int HR0.out x5_1 p303 q303
        cases e303
        replace p303 := eq_true p303
        replace q303 := eq_true q303
        have p304 : 0 ≤ (x5_1 : Int) := of_decide_eq_true zh
        have q304 : x5_1 < (l1.length : Int) := of_decide_eq_true zh
        obtain ⟨ad304, e304, hx304_0⟩ := Kd.at_int HR1.out x5_1 p304 q304
        cases e304
        replace p304 := eq_true p304
        replace q304 := eq_true q304
        go_wp2
        repeat (go_quiet (fail); try go_wp2)
        go_roundg k1
        case measure => have := HK1.out; omega
        case rel => exact ⟨(wrap64 (x5_1 + 1)), zT, H', ⟨by have := HK1.out; omega⟩, by repeat (first | exact Drawn0.refl _ | apply Drawn0.step)⟩
       ·rw [if_neg c7] at H
        have c7b0 : ((rd l0 x5_1) == (rd l1 x5_1)) = false := beq_eq_false_iff_ne.mpr c7
        have c7b1 : ((rd l0 x5_1) != (rd l1 x5_1)) = true := bne_iff_ne.mpr c7
        obtain rfl := Option.some.inj H
        have p303 : 0 ≤ (x5_1 : Int) := of_decide_eq_true zh
        have q303 : x5_1 < (l0.length : Int) := of_decide_eq_true zh
        obtain ⟨ad303, e303, hx303_0⟩ := Kd.at_int HR0.out x5_1 p303 q303
        cases e303
        replace p303 := eq_true p303
        replace q303 := eq_true q303
        have p304 : 0 ≤ (x5_1 : Int) := of_decide_eq_true zh
        have q304 : x5_1 < (l1.length : Int) := of_decide_eq_true zh
        obtain ⟨ad304, e304, hx304_0⟩ := Kd.at_int HR1.out x5_1 p304 q304
        cases e304
        replace p304 := eq_true p304
        replace q304 := eq_true q304
        go_wp2
        repeat (go_quiet (fail); try go_wp2)
        go_ret
        exact ⟨by first | rfl | (simp; done) | (simp [*]; done), by repeat (first | exact Drawn0.refl _ | apply Drawn0.step)⟩
      ·rw [if_neg c6] at H
       exact absurd H (by simp)
     ·rw [if_neg c5] at H
      exact absurd H (by simp)
    ·rw [if_neg c4] at H
     have c4b0 : decide (x5_1 < (l0.length : Int)) = false := decide_eq_false c4
     clear c4
     obtain rfl := Option.some.inj H
     go_wp2
     repeat (go_quiet (fail); try go_wp2)
     go_ret
     exact ⟨by first | rfl | (simp; done) | (simp [*]; done), by repeat (first | exact Drawn0.refl _ | apply Drawn0.step)⟩
 ·rw [if_neg c3] at H
  have c3b0 : ((l0.length : Int) == (l1.length : Int)) = false := beq_eq_false_iff_ne.mpr c3
  have c3b1 : ((l0.length : Int) != (l1.length : Int)) = true := bne_iff_ne.mpr c3
  have c3b2 : (l0.length == l1.length) = false := by first | simpa using c3 | (simp at c3 ⊢; omega)
  obtain rfl := Option.some.inj H
  go_enter Try.func49, Try.ntmps49
  go_wp2
  repeat (go_quiet (fail); try go_wp2)
  go_ret
  exact ⟨by first | rfl | (simp; done) | (simp [*]; done), by repeat (first | exact Drawn0.refl _ | apply Drawn0.step)⟩
/-! ### ancepsref38_Equal: function 18 -/
def ancepsref38_Equal.f (k : Nat) (l0_0 : List Int) (l0_1 : List Int) (l1_0 : List Int) (l1_1 : List Int) : Option (Bool) := (ancepsref38_Lists.f k l0_0 l1_0).bind fun t307 => (if t307 = true then ((ancepsref38_Lists.f k l0_1 l1_1).bind fun t308 => (some t308)) else (some false))
theorem ancepsref38_Equal.mono : ∀ a0 a1 a2 a3 k, LeO (ancepsref38_Equal.f k a0 a1 a2 a3) (ancepsref38_Equal.f (k + 1) a0 a1 a2 a3) := by
 intro a0 a1 a2 a3 k
 unfold ancepsref38_Equal.f
 repeat' first
   | (with_reducible exact ancepsref38_Lists.mono _ _ _)
   | (with_reducible exact LeO.refl _)
   | (with_reducible exact LeO.none _)
   | (with_reducible refine LeO.ite ?_ ?_)
   | (with_reducible refine LeO.bind ?_ (fun _ => ?_))
   | exact ancepsref38_Lists.mono _ _ _
   | exact LeO.none _
   | refine LeO.ite ?_ ?_
   | refine LeO.bind ?_ (fun _ => ?_)
set_option maxHeartbeats 8000000 in
set_option maxRecDepth 100000 in
theorem ancepsref38_Equal.calls (k : Nat) (A0_0 : Option Addr) (c0_0 : Nat) (l0_0 : List Int) (A0_1 : Option Addr) (c0_1 : Nat) (l0_1 : List Int) (A1_0 : Option Addr) (c1_0 : Nat) (l1_0 : List Int) (A1_1 : Option Addr) (c1_1 : Nat) (l1_1 : List Int) (r : Bool) (w : World) (hr0_0 : Kd.C (Kd.int .i64) w A0_0 l0_0.length l0_0) (hc0_0 : l0_0.length ≤ c0_0) (hr0_1 : Kd.C (Kd.int .i64) w A0_1 l0_1.length l0_1) (hc0_1 : l0_1.length ≤ c0_1) (hr1_0 : Kd.C (Kd.int .i64) w A1_0 l1_0.length l1_0) (hc1_0 : l1_0.length ≤ c1_0) (hr1_1 : Kd.C (Kd.int .i64) w A1_1 l1_1.length l1_1) (hc1_1 : l1_1.length ≤ c1_1) (h : ancepsref38_Equal.f k l0_0 l0_1 l1_0 l1_1 = some r) :
  Calls Try.prog 18 #[.agg #[.slice A0_0 l0_0.length c0_0, .slice A0_1 l0_1.length c0_1], .agg #[.slice A1_0 l1_0.length c1_0, .slice A1_1 l1_1.length c1_1]] w fun e w' => e = .returned (.bool r) ∧ Below w.heap.size w w' := by
 have hu29 := Try.underlying29
 have hu27 := Try.underlying27
 have HR0_0 := Aside0.mk hr0_0
 have HC0_0 := Aside0.mk hc0_0
 clear hr0_0 hc0_0
 have HR0_1 := Aside0.mk hr0_1
 have HC0_1 := Aside0.mk hc0_1
 clear hr0_1 hc0_1
 have HR1_0 := Aside0.mk hr1_0
 have HC1_0 := Aside0.mk hc1_0
 clear hr1_0 hc1_0
 have HR1_1 := Aside0.mk hr1_1
 have HC1_1 := Aside0.mk hc1_1
 clear hr1_1 hc1_1
 have HB := Aside0.mk (Below.refl w.heap.size w)
 have H : ((ancepsref38_Lists.f k l0_0 l1_0).bind fun t307 => (if t307 = true then ((ancepsref38_Lists.f k l0_1 l1_1).bind fun t308 => (some t308)) else (some false))) = some r := h
 clear h
 have HC3 := Aside0.mk H
 clear H
 go_enter Try.func18, Try.ntmps18
 go_upto_region 1 with (first | ((with_reducible refine gate_dst (N := 2) rfl ?_); refine box_event ?hg (N := 2) ?hd (cs := #[.slice A0_0 l0_0.length c0_0, .slice A0_1 l0_1.length c0_1]) (t := 29) ?hr ?_; (case hd => rfl); (case hg => rfl); (case hr => first | (go_simp; done) | (go_simp; rfl)); intro gb305 hg w4 hbox hb; have n0_ := Aside0.mk (below_step zB hb); have n1_ := Aside0.mk (hbox); have n2_ := Aside0.mk ((by rw [hg]; exact (below_size zB) : w.heap.size ≤ gb305)); have n3_ := Aside0.mk ((by rw [hg]; exact (below_size zB) : w.heap.size ≤ gb305)); clear HB; have HB := n0_; have BK305 := n1_; have GW305 := n2_; have GE305 := n3_; clear n0_ n1_ n2_ n3_; clear hb hbox hg) | ((with_reducible refine gate_dst (N := 3) rfl ?_); refine box_event ?hg (N := 3) ?hd (cs := #[.slice A1_0 l1_0.length c1_0, .slice A1_1 l1_1.length c1_1]) (t := 29) ?hr ?_; (case hd => rfl); (case hg => rfl); (case hr => first | (go_simp; done) | (go_simp; rfl)); intro gb306 hg w5 hbox hb; have n0_ := Aside0.mk (blk_below (g := gb305) (o := .cells #[.slice A0_0 l0_0.length c0_0, .slice A0_1 l0_1.length c0_1] 29 (0, 0)) (zk BK305) hb); have n1_ := Aside0.mk (below_step zB hb); have n2_ := Aside0.mk (hbox); have n3_ := Aside0.mk ((by rw [hg]; exact (below_size zB) : w.heap.size ≤ gb306)); have n4_ := Aside0.mk ((by rw [hg]; exact (below_size zB) : w.heap.size ≤ gb306)); have n5_ := Aside0.mk ((by rw [hg]; exact Nat.ne_of_lt (blk_lt (g := gb305) (o := .cells #[.slice A0_0 l0_0.length c0_0, .slice A0_1 l0_1.length c0_1] 29 (0, 0)) (zk BK305)) : gb305 ≠ gb306)); have n6_ := Aside0.mk ((by rw [hg]; exact Nat.ne_of_gt (blk_lt (g := gb305) (o := .cells #[.slice A0_0 l0_0.length c0_0, .slice A0_1 l0_1.length c0_1] 29 (0, 0)) (zk BK305)) : gb306 ≠ gb305)); clear BK305; clear HB; have BK305 := n0_; have HB := n1_; have BK306 := n2_; have GW306 := n3_; have GE306 := n4_; have NB305_306 := n5_; have NB306_305 := n6_; clear n0_ n1_ n2_ n3_ n4_ n5_ n6_; clear hb hbox hg))
 (try simp only [Act.put, List.setIfInBounds_toArray, List.set_cons_zero, List.set_cons_succ])
 have H := HC3.out
 clear HC3
 replace H := Option.bind_eq_some_iff.mp H
 obtain ⟨t307, A60, H⟩ := H
 replace H : (if t307 = true then ((ancepsref38_Lists.f k l0_1 l1_1).bind fun t308 => (some t308)) else (some false)) = some r := H
 have A6 := Aside0.mk A60
 clear A60
 by_cases c7 : t307 = true
 ·subst c7
  have H1 : ((ancepsref38_Lists.f k l0_1 l1_1).bind fun t308 => (some t308)) = some r := by rw [if_pos rfl] at H; exact H
  clear H
  have H := H1
  clear H1
  replace H := Option.bind_eq_some_iff.mp H
  obtain ⟨t308, A80, H⟩ := H
  replace H : (some t308) = some r := H
  have A8 := Aside0.mk A80
  clear A80
  obtain rfl := Option.some.inj H
  have hnb9 := NB305_306.out
  have hnc9 := NB306_305.out
  have hcz10_0 : w5.cell? ⟨gb305, 0, none⟩ = some (.slice A0_0 l0_0.length c0_0) := (blk_cell BK305.out 0).trans rfl
  have hcz10_1 : w5.cell? ⟨gb305, 1, none⟩ = some (.slice A0_1 l0_1.length c0_1) := (blk_cell BK305.out 1).trans rfl
  have hfz10_0 := blk_frozen BK305.out 0
  have hfz10_1 := blk_frozen BK305.out 1
  have hcz11_0 : w5.cell? ⟨gb306, 0, none⟩ = some (.slice A1_0 l1_0.length c1_0) := (blk_cell BK306.out 0).trans rfl
  have hcz11_1 : w5.cell? ⟨gb306, 1, none⟩ = some (.slice A1_1 l1_1.length c1_1) := (blk_cell BK306.out 1).trans rfl
  have hfz11_0 := blk_frozen BK306.out 0
  have hfz11_1 := blk_frozen BK306.out 1
  go_wp2_with (first | ((with_reducible refine gate_callee (f := 49) rfl ?_); refine goesL_ (some 9) rfl rfl Try.func49 zK rfl #[.slice A0_0 l0_0.length c0_0, .slice A1_0 l1_0.length c1_0] rfl zM ?_; (with_reducible refine (ancepsref38_Lists.calls k _ _ l0_0 _ _ l1_0 true _ ?side1 ?side2 ?side3 ?side4 A6.out).mono ?_); (case side1 => repeat (first | exact (Kd.C_below HR0_0.out HB.out) | (with_reducible refine Kd.C_alloc ?_ _) | (with_reducible refine Kd.C_drewN ?_ _) | (with_reducible refine Kd.C_drew ?_))); (case side2 => exact HC0_0.out); (case side3 => repeat (first | exact (Kd.C_below HR1_0.out HB.out) | (with_reducible refine Kd.C_alloc ?_ _) | (with_reducible refine Kd.C_drewN ?_ _) | (with_reducible refine Kd.C_drew ?_))); (case side4 => exact HC1_0.out); rintro e w' ⟨rfl, ⟨nd, rfl⟩⟩; refine ⟨_, rfl, ?_⟩) | (go_at_call 49; (with_reducible refine (ancepsref38_Lists.calls k _ _ l0_1 _ _ l1_1 t308 _ ?side1 ?side2 ?side3 ?side4 A8.out).mono ?_); (case side1 => repeat (first | exact (Kd.C_below HR0_1.out zB) | (with_reducible refine Kd.C_alloc ?_ _) | (with_reducible refine Kd.C_drewN ?_ _) | (with_reducible refine Kd.C_drew ?_))); (case side2 => exact HC0_1.out); (case side3 => repeat (first | exact (Kd.C_below HR1_1.out zB) | (with_reducible refine Kd.C_alloc ?_ _) | (with_reducible refine Kd.C_drewN ?_ _) | (with_reducible refine Kd.C_drew ?_))); (case side4 => exact HC1_1.out); rintro e w' ⟨rfl, ⟨nd, rfl⟩⟩))
  go_ret
  exact ⟨by first | rfl | (simp [errW_none, errW_some] <;> rfl) | (simp [*, errW_none, errW_some] <;> rfl), by repeat (first | (with_reducible first | exact HB.out | apply below_alloc | apply pw_below_drewN | apply below_drew1 | refine below_set ?_ GE305.out | refine below_set ?_ GE306.out) | exact HB.out)⟩
 ·replace c7 := Bool.eq_false_iff.mpr c7
  subst c7
  have H1 : (some false) = some r := by rw [if_neg (show ¬ (false = true) by decide)] at H; exact H
  clear H
  have H := H1
  clear H1
  obtain rfl := Option.some.inj H
  have hnb12 := NB305_306.out
  have hnc12 := NB306_305.out
  have hcz13_0 : w5.cell? ⟨gb305, 0, none⟩ = some (.slice A0_0 l0_0.length c0_0) := (blk_cell BK305.out 0).trans rfl
  have hcz13_1 : w5.cell? ⟨gb305, 1, none⟩ = some (.slice A0_1 l0_1.length c0_1) := (blk_cell BK305.out 1).trans rfl
  have hfz13_0 := blk_frozen BK305.out 0
  have hfz13_1 := blk_frozen BK305.out 1
  have hcz14_0 : w5.cell? ⟨gb306, 0, none⟩ = some (.slice A1_0 l1_0.length c1_0) := (blk_cell BK306.out 0).trans rfl
  have hcz14_1 : w5.cell? ⟨gb306, 1, none⟩ = some (.slice A1_1 l1_1.length c1_1) := (blk_cell BK306.out 1).trans rfl
  have hfz14_0 := blk_frozen BK306.out 0
  have hfz14_1 := blk_frozen BK306.out 1
  go_wp2_with (first | ((with_reducible refine gate_callee (f := 49) rfl ?_); refine goesL_ (some 9) rfl rfl Try.func49 zK rfl #[.slice A0_0 l0_0.length c0_0, .slice A1_0 l1_0.length c1_0] rfl zM ?_; (with_reducible refine (ancepsref38_Lists.calls k _ _ l0_0 _ _ l1_0 false _ ?side1 ?side2 ?side3 ?side4 A6.out).mono ?_); (case side1 => repeat (first | exact (Kd.C_below HR0_0.out HB.out) | (with_reducible refine Kd.C_alloc ?_ _) | (with_reducible refine Kd.C_drewN ?_ _) | (with_reducible refine Kd.C_drew ?_))); (case side2 => exact HC0_0.out); (case side3 => repeat (first | exact (Kd.C_below HR1_0.out HB.out) | (with_reducible refine Kd.C_alloc ?_ _) | (with_reducible refine Kd.C_drewN ?_ _) | (with_reducible refine Kd.C_drew ?_))); (case side4 => exact HC1_0.out); rintro e w' ⟨rfl, ⟨nd, rfl⟩⟩; refine ⟨_, rfl, ?_⟩))
  go_ret
  exact ⟨by first | rfl | (simp [errW_none, errW_some] <;> rfl) | (simp [*, errW_none, errW_some] <;> rfl), by repeat (first | (with_reducible first | exact HB.out | apply below_alloc | apply pw_below_drewN | apply below_drew1 | refine below_set ?_ GE305.out | refine below_set ?_ GE306.out) | exact HB.out)⟩
/-! ### slices_Equal_int_int: function 58 -/
def slices_Equal_int_int.l0 : Nat → List Int → List Int → Int → Int → Option (Bool)
 | 0, _, _, _, _ => none
 | k + 1, x0, x1, x12, x13 => if x13 < x12 then (if 0 ≤ x13 then (if x13 < (x0.length : Int) then (if x13 < (x1.length : Int) then (if (rd x0 x13) = (rd x1 x13) then (slices_Equal_int_int.l0 k x0 x1 x12 (wrap64 (x13 + 1))) else (some false)) else (none)) else (none)) else (none)) else (some true)
def slices_Equal_int_int.f (k : Nat) (l0 : List Int) (l1 : List Int) : Option (Bool) := if (l0.length : Int) = (l1.length : Int) then (slices_Equal_int_int.l0 k l0 l1 (l0.length : Int) 0) else (some false)
theorem slices_Equal_int_int.mono_l : ∀ k, (∀ y0 y1 y2 y3, LeO (slices_Equal_int_int.l0 k y0 y1 y2 y3) (slices_Equal_int_int.l0 (k + 1) y0 y1 y2 y3))
 | 0 => fun _ _ _ _ r h => by simp [slices_Equal_int_int.l0] at h
 | k + 1 => by
  have ih0 := slices_Equal_int_int.mono_l k
  ·intro y0 y1 y2 y3
   unfold slices_Equal_int_int.l0
   repeat' first
   | (with_reducible exact ih0 _ _ _ _)
   | (with_reducible exact LeO.refl _)
   | (with_reducible exact LeO.none _)
   | (with_reducible refine LeO.ite ?_ ?_)
   | (with_reducible refine LeO.bind ?_ (fun _ => ?_))
   | exact ih0 _ _ _ _
   | exact LeO.none _
   | refine LeO.ite ?_ ?_
   | refine LeO.bind ?_ (fun _ => ?_)
theorem slices_Equal_int_int.mono : ∀ a0 a1 k, LeO (slices_Equal_int_int.f k a0 a1) (slices_Equal_int_int.f (k + 1) a0 a1) := by
 intro a0 a1 k
 have ih0 := slices_Equal_int_int.mono_l k
 unfold slices_Equal_int_int.f
 repeat' first
   | (with_reducible exact ih0 _ _ _ _)
   | (with_reducible exact LeO.refl _)
   | (with_reducible exact LeO.none _)
   | (with_reducible refine LeO.ite ?_ ?_)
   | (with_reducible refine LeO.bind ?_ (fun _ => ?_))
   | exact ih0 _ _ _ _
   | exact LeO.none _
   | refine LeO.ite ?_ ?_
   | refine LeO.bind ?_ (fun _ => ?_)
set_option maxHeartbeats 8000000 in
set_option maxRecDepth 100000 in
theorem slices_Equal_int_int.calls (k : Nat) (A0 : Option Addr) (c0 : Nat) (l0 : List Int) (A1 : Option Addr) (c1 : Nat) (l1 : List Int) (r : Bool) (w : World) (hr0 : Kd.C (Kd.int .i64) w A0 l0.length l0) (hc0 : l0.length ≤ c0) (hr1 : Kd.C (Kd.int .i64) w A1 l1.length l1) (hc1 : l1.length ≤ c1) (h : slices_Equal_int_int.f k l0 l1 = some r) :
  Calls Try.prog 58 #[.slice A0 l0.length c0, .slice A1 l1.length c1] w fun e w' => e = .returned (.bool r) ∧ Drawn0 w w' := by
 have hu3 := Try.underlying3
 have HR0 := Aside0.mk hr0
 have HC0 := Aside0.mk hc0
 clear hr0 hc0
 have HR1 := Aside0.mk hr1
 have HC1 := Aside0.mk hc1
 clear hr1 hc1
 have H : (if (l0.length : Int) = (l1.length : Int) then (slices_Equal_int_int.l0 k l0 l1 (l0.length : Int) 0) else (some false)) = some r := h
 clear h
 by_cases c3 : (l0.length : Int) = (l1.length : Int)
 ·rw [if_pos c3] at H
  have c3b0 : ((l0.length : Int) == (l1.length : Int)) = true := beq_iff_eq.mpr c3
  have c3b1 : ((l0.length : Int) != (l1.length : Int)) = false := bne_eq_false_iff_eq.mpr c3
  have c3b2 : (l0.length == l1.length) = true := by first | simpa using c3 | (simp at c3 ⊢; omega)
  clear c3
  have H' := Aside0.mk H
  clear H
  go_enter Try.func58, Try.ntmps58
  go_wp2
  repeat (go_quiet (fail); try go_wp2)
  go_loopg [13] k (fun kq v13 w' => ∃ (x13_1 : Int), v13 = .int .i64 x13_1 ∧ Aside0 (slices_Equal_int_int.l0 kq l0 l1 (l0.length : Int) x13_1 = some r) ∧ Aside0 (kq ≤ k) ∧ Drawn0 w w')
  case atStart => exact ⟨(0), zT, H', ⟨Nat.le_refl _⟩, by repeat (first | exact Drawn0.refl _ | apply Drawn0.step)⟩
  case round =>
   clear H'
   try clear c3
   try clear c3b0
   try clear c3b1
   try clear c3b2
   obtain ⟨x13_1, rfl, HA, HK1, ⟨m1, rfl⟩⟩ := hrel
   cases gk with
   | zero => exact absurd HA.out (by simp [slices_Equal_int_int.l0])
   | succ k1 =>
    have H := HA.out
    clear HA
    simp only [slices_Equal_int_int.l0] at H
    by_cases c4 : x13_1 < (l0.length : Int)
    ·rw [if_pos c4] at H
     have c4b0 : decide (x13_1 < (l0.length : Int)) = true := decide_eq_true c4
     clear c4
     by_cases c5 : 0 ≤ x13_1
     ·rw [if_pos c5] at H
      have c5b0 : decide (0 ≤ x13_1) = true := decide_eq_true c5
      clear c5
      by_cases c6 : x13_1 < (l0.length : Int)
      ·rw [if_pos c6] at H
       have c6b0 : decide (x13_1 < (l0.length : Int)) = true := decide_eq_true c6
       clear c6
       by_cases c7 : x13_1 < (l1.length : Int)
       ·rw [if_pos c7] at H
        have c7b0 : decide (x13_1 < (l1.length : Int)) = true := decide_eq_true c7
        clear c7
        by_cases c8 : (rd l0 x13_1) = (rd l1 x13_1)
        ·rw [if_pos c8] at H
         have c8b0 : ((rd l0 x13_1) == (rd l1 x13_1)) = true := beq_iff_eq.mpr c8
         have c8b1 : ((rd l0 x13_1) != (rd l1 x13_1)) = false := bne_eq_false_iff_eq.mpr c8
         clear c8
         have H' := Aside0.mk H
         clear H
         have p309 : 0 ≤ (x13_1 : Int) := of_decide_eq_true zh
         have q309 : x13_1 < (l0.length : Int) := of_decide_eq_true zh
         obtain ⟨ad309, e309, hx309_0⟩ := Kd.at_int HR0.out x13_1 p309 q309
         cases e309
         replace p309 := eq_true p309
         replace q309 := eq_true q309
         have p310 : 0 ≤ (x13_1 : Int) := of_decide_eq_true zh
         have q310 : x13_1 < (l1.length : Int) := of_decide_eq_true zh
         obtain ⟨ad310, e310, hx310_0⟩ := Kd.at_int HR1.out x13_1 p310 q310
         cases e310
         replace p310 := eq_true p310
         replace q310 := eq_true q310
         go_wp2
         repeat (go_quiet (fail); try go_wp2)
         go_roundg k1
         case measure => have := HK1.out; omega
         case rel => exact ⟨(wrap64 (x13_1 + 1)), zT, H', ⟨by have := HK1.out; omega⟩, by repeat (first | exact Drawn0.refl _ | apply Drawn0.step)⟩
        ·rw [if_neg c8] at H
         have c8b0 : ((rd l0 x13_1) == (rd l1 x13_1)) = false := beq_eq_false_iff_ne.mpr c8
         have c8b1 : ((rd l0 x13_1) != (rd l1 x13_1)) = true := bne_iff_ne.mpr c8
         obtain rfl := Option.some.inj H
         have p309 : 0 ≤ (x13_1 : Int) := of_decide_eq_true zh
         have q309 : x13_1 < (l0.length : Int) := of_decide_eq_true zh
         obtain ⟨ad309, e309, hx309_0⟩ := Kd.at_int HR0.out x13_1 p309 q309
         cases e309
         replace p309 := eq_true p309
         replace q309 := eq_true q309
         have p310 : 0 ≤ (x13_1 : Int) := of_decide_eq_true zh
         have q310 : x13_1 < (l1.length : Int) := of_decide_eq_true zh
         obtain ⟨ad310, e310, hx310_0⟩ := Kd.at_int HR1.out x13_1 p310 q310
         cases e310
         replace p310 := eq_true p310
         replace q310 := eq_true q310
         go_wp2
         repeat (go_quiet (fail); try go_wp2)
         go_ret
         exact ⟨by first | rfl | (simp; done) | (simp [*]; done), by repeat (first | exact Drawn0.refl _ | apply Drawn0.step)⟩
       ·rw [if_neg c7] at H
        exact absurd H (by simp)
      ·rw [if_neg c6] at H
       exact absurd H (by simp)
     ·rw [if_neg c5] at H
      exact absurd H (by simp)
    ·rw [if_neg c4] at H
     have c4b0 : decide (x13_1 < (l0.length : Int)) = false := decide_eq_false c4
     clear c4
     obtain rfl := Option.some.inj H
     go_wp2
     repeat (go_quiet (fail); try go_wp2)
     go_ret
     exact ⟨by first | rfl | (simp; done) | (simp [*]; done), by repeat (first | exact Drawn0.refl _ | apply Drawn0.step)⟩
 ·rw [if_neg c3] at H
  have c3b0 : ((l0.length : Int) == (l1.length : Int)) = false := beq_eq_false_iff_ne.mpr c3
  have c3b1 : ((l0.length : Int) != (l1.length : Int)) = true := bne_iff_ne.mpr c3
  have c3b2 : (l0.length == l1.length) = false := by first | simpa using c3 | (simp at c3 ⊢; omega)
  obtain rfl := Option.some.inj H
  go_enter Try.func58, Try.ntmps58
  go_wp2
  repeat (go_quiet (fail); try go_wp2)
  go_ret
  exact ⟨by first | rfl | (simp; done) | (simp [*]; done), by repeat (first | exact Drawn0.refl _ | apply Drawn0.step)⟩
/-! ### table_without_1_v1: function 1000078 -/
def table_without_1_v1.f (a0 : Int) (a1_0 : Int) : Option (Bool) := some (a0 == a1_0)
set_option maxHeartbeats 8000000 in
set_option maxRecDepth 100000 in
theorem table_without_1_v1.calls (a0 : Int) (gp1_0 : Nat) (a1_0 : Int) (r : Bool) (w : World) (hb_gp1_0 : w.heap[gp1_0]? = some (.cells #[.int .i64 a1_0] 3 (0, 0))) (h : table_without_1_v1.f a0 a1_0 = some r) :
  Calls Try.prog 78 #[.int .i64 a0, .pointer (some ⟨gp1_0, 0, none⟩)] w fun e w' => e = .returned (.bool r) ∧ Drawn0 w w' := by
 have hu3 := Try.underlying3
 have BK311 := Aside0.mk hb_gp1_0
 clear hb_gp1_0
 have H : (some (a0 == a1_0)) = some r := h
 clear h
 obtain rfl := Option.some.inj H
 have hcz3_0 : w.cell? ⟨gp1_0, 0, none⟩ = some (.int .i64 a1_0) := (blk_cell BK311.out 0).trans rfl
 have hfz3_0 := blk_frozen BK311.out 0
 go_enter Try.func78, Try.ntmps78
 go_wp2
 go_ret
 exact ⟨by first | rfl | (simp; done) | (simp [*]; done), by repeat (first | exact Drawn0.refl _ | apply Drawn0.step)⟩
/-! ### slices_DeleteFunc_int_int_table_without_1: function 1000077 -/
section
open Go.Sort Go.Shelf
def slices_DeleteFunc_int_int_table_without_1.f (l0 : List Int) (a1_0 : Int) : Option (List Int) := some (l0.filter fun x => !(x == a1_0))
theorem slices_DeleteFunc_int_int_table_without_1.calls (P0_ : Nat → Prop) (u9000_ : Value) (l0 : List Int) (gp1_0 : Nat) (a1_0 : Int) (r : List Int) (w0 w : World) (hB : Below w0.heap.size w0 w) (ho0 : Kd.R (Kd.int .i64) 3 w w0.heap.size P0_ u9000_ l0) (hb_gp1_0 : w.heap[gp1_0]? = some (.cells #[.int .i64 a1_0] 3 (0, 0))) (hap : ∀ k_, P0_ k_ → k_ ≠ gp1_0) (h : slices_DeleteFunc_int_int_table_without_1.f l0 a1_0 = some r) :
 Calls Try.prog 77 #[u9000_, .func (.func 78) #[] #[.pointer (some ⟨gp1_0, 0, none⟩)]] w fun e w' => ∃ v0_ : Value, e = .returned (v0_) ∧ Kd.R (Kd.int .i64) 3 w' w0.heap.size (fun k_ => (P0_ k_ ∨ w.heap.size ≤ k_)) v0_ r ∧ Below w0.heap.size w0 w' ∧ Kept w w' (fun k_ => P0_ k_) := by
 obtain rfl := Option.some.inj h
 obtain ⟨A, c, rfl⟩ := Kd.R_slice ho0
 have hone : OneCell (Value.int .i64) := fun _ => rfl
 have hgp : gp1_0 < w.heap.size := (Array.getElem?_eq_some_iff.1 hb_gp1_0).1
 have gives : ∀ (W : World) (x : Int), W.heap[gp1_0]? = some (.cells #[.int .i64 a1_0] 3 (0, 0)) → FnGives Try.prog 78 #[.pointer (some ⟨gp1_0, 0, none⟩)] #[.int .i64 x] (.bool (x == a1_0)) W := by
  intro W x hb
  refine (table_without_1_v1.calls x gp1_0 a1_0 (x == a1_0) W hb rfl).mono ?_
  rintro e w' ⟨rfl, hd⟩
  exact ⟨rfl, hd.out⟩
 have hp : PredAt Try.prog 78 #[.pointer (some ⟨gp1_0, 0, none⟩)] (Value.int .i64) (fun x => x == a1_0) w := fun W x hb => gives W x ((hb.block _ hgp).trans hb_gp1_0)
 rcases A with _ | ad
 ·have hl : l0 = [] := by
   rcases l0 with _ | ⟨x, xs⟩
   ·rfl
   ·have ho := Kd.own_of_R (enc := Value.int .i64) (h1 := fun _ => rfl) ho0
    rcases ho.2 with ⟨_, h0⟩ | ⟨_, _, _, h0, _⟩
    ·simp at h0
    ·simp at h0
  subst hl
  refine (deleteFunc_nil laysDelete c _ w).mono ?_
  rintro e w' ⟨rfl, rfl⟩
  exact ⟨_, rfl, Kd.R_mono ho0 (fun k hk => .inl hk), hB, Kept.refl _ _⟩
 ·have had : ∃ g, ad = ⟨g, 0, none⟩ := by
   have ho := Kd.own_of_R (enc := Value.int .i64) (h1 := fun _ => rfl) ho0
   rcases ho.2 with ⟨h0, _⟩ | ⟨g, _, _, h0, _⟩
   ·simp at h0
   ·injection h0 with h0; injection h0 with h0; exact ⟨g, h0⟩
  obtain ⟨g, rfl⟩ := had
  obtain ⟨h1, h2, h3, h4, h5, h6, h7⟩ := int_row ho0
  have hne : gp1_0 ≠ g := fun e_ => hap g h1 e_.symm
  have hpo : PredOver Try.prog 78 #[.pointer (some ⟨gp1_0, 0, none⟩)] (Value.int .i64) (fun x => x == a1_0) g 0 l0.toArray.size w := by
   intro n os dk x _
   refine gives _ x ?_
   show (grow (putRow (Value.int .i64) (Sort.ahead w n) g 0 dk) os).heap[gp1_0]? = _
   rw [heap_grow_old _ _ (by simpa [putRow, mapBlock, Sort.ahead] using hgp)]
   simpa [putRow, mapBlock, Sort.ahead, Array.getElem?_modify, hne.symm] using hb_gp1_0
  have key := AnyE.slices_DeleteFunc laysDelete (Value.int .i64) hone (fun x => x == a1_0) 78 #[.pointer (some ⟨gp1_0, 0, none⟩)] (enters_of Try.func78 zK rfl) 0 Try.zeroValue3 g 0 c l0.toArray w hp hpo h7 (by unfold maxLen at h6; simp; omega) (by simpa using h5)
  have hle : (l0.filter fun x => !(x == a1_0)).length ≤ l0.length := List.length_filter_le _ _
  rw [List.size_toArray] at key
  refine key.mono ?_
  rintro e w' ⟨rfl, q, rfl⟩
  have hr := int_row_put (ok' := fun k_ => (P0_ k_ ∨ w.heap.size ≤ k_)) (ys := (l0.filter fun x => !(x == a1_0)) ++ List.replicate (l0.length - (l0.filter fun x => !(x == a1_0)).length) 0) ho0 q #[] (by simp; omega) hle (.inl h1)
  rw [List.take_left, grow_empty] at hr
  have hb := put_below hB h2 q #[] ((l0.filter fun x => !(x == a1_0)) ++ List.replicate (l0.length - (l0.filter fun x => !(x == a1_0)).length) 0).toArray
  have hk := put_kept (ok := fun k_ => P0_ k_) (w := w) q #[] ((l0.filter fun x => !(x == a1_0)) ++ List.replicate (l0.length - (l0.filter fun x => !(x == a1_0)).length) 0).toArray h1
  rw [grow_empty] at hb hk
  exact ⟨_, rfl, hr, hb, hk⟩
end
/-! ### table_without: function 60 -/
def table_without.f (l0 : List Int) (a1 : Int) : Option (List Int) := (slices_Clone_int_int.f l0).bind fun t313 => ((slices_DeleteFunc_int_int_table_without_1.f t313 a1).bind fun t316 => (some t316))
set_option maxHeartbeats 8000000 in
set_option maxRecDepth 100000 in
theorem table_without.calls (A0 : Option Addr) (c0 : Nat) (l0 : List Int) (a1 : Int) (r : List Int) (w : World) (hr0 : Kd.C (Kd.int .i64) w A0 l0.length l0) (hc0 : l0.length ≤ c0) (h : table_without.f l0 a1 = some r) :
  Calls Try.prog 60 #[.slice A0 l0.length c0, .int .i64 a1] w fun e w' => ∃ v0_ : Value, e = .returned (v0_) ∧ Kd.R (Kd.int .i64) 3 w' w.heap.size (fun _ => True) v0_ r ∧ Below w.heap.size w w' := by
 have hu3 := Try.underlying3
 have HR0 := Aside0.mk hr0
 have HC0 := Aside0.mk hc0
 clear hr0 hc0
 have HB := Aside0.mk (Below.refl w.heap.size w)
 have H : ((slices_Clone_int_int.f l0).bind fun t313 => ((slices_DeleteFunc_int_int_table_without_1.f t313 a1).bind fun t316 => (some t316))) = some r := h
 clear h
 replace H := Option.bind_eq_some_iff.mp H
 obtain ⟨t313, A30, H⟩ := H
 replace H : ((slices_DeleteFunc_int_int_table_without_1.f t313 a1).bind fun t316 => (some t316)) = some r := H
 have A3 := Aside0.mk A30
 clear A30
 replace H := Option.bind_eq_some_iff.mp H
 obtain ⟨t316, A40, H⟩ := H
 replace H : (some t316) = some r := H
 have A4 := Aside0.mk A40
 clear A40
 obtain rfl := Option.some.inj H
 go_enter Try.func60, Try.ntmps60
 go_wp2_with (first | ((with_reducible refine gate_dst (N := 3) rfl ?_); refine box_event ?hg (N := 3) ?hd (cs := #[.int .i64 a1]) (t := 3) ?hr ?_; (case hd => rfl); (case hg => rfl); (case hr => first | (go_simp; done) | (go_simp; rfl)); intro gb312 hg w5 hbox hb; have n0_ := Aside0.mk (below_step zB hb); have n1_ := Aside0.mk (hbox); have n2_ := Aside0.mk ((by rw [hg]; exact (below_size zB) : w.heap.size ≤ gb312)); have n3_ := Aside0.mk ((by rw [hg]; exact (below_size zB) : w.heap.size ≤ gb312)); clear HB; have HB := n0_; have BK312 := n1_; have GW312 := n2_; have GE312 := n3_; clear n0_ n1_ n2_ n3_; clear hb hbox hg) | ((with_reducible refine gate_callee (f := 42) rfl ?_); refine goesL_ (some 6) rfl rfl Try.func42 zK rfl #[.slice A0 l0.length c0] rfl zM ?_; (with_reducible refine (slices_Clone_int_int.calls _ _ l0 t313 _ ?side1 ?side2 A3.out).mono ?_); (case side1 => repeat (first | exact (Kd.C_below HR0.out HB.out) | (with_reducible refine Kd.C_alloc ?_ _) | (with_reducible refine Kd.C_drewN ?_ _) | (with_reducible refine Kd.C_drew ?_))); (case side2 => exact HC0.out); rintro e w6 ⟨v314, rfl, ho0, hb⟩; refine ⟨_, rfl, ?_⟩; have n0_ := Aside0.mk (Kd.R_lower (Kd.R_newB ho0 (g := gb312) (o := .cells #[.int .i64 a1] 3 (0, 0)) (zk BK312)) (below_size zB)); have n1_ := Aside0.mk (blk_below (g := gb312) (o := .cells #[.int .i64 a1] 3 (0, 0)) (zk BK312) hb); have n2_ := Aside0.mk (below_step zB hb); clear BK312; clear HB; have HO315 := n0_; have BK312 := n1_; have HB := n2_; clear n0_ n1_ n2_; (try clear hb); (try clear hb2); (try clear hk); (try clear hi); (try clear ho0); obtain ⟨Ao7, co7, eo7⟩ := Kd.R_slice HO315.out; subst eo7) | ((with_reducible refine gate_callee (f := 77) rfl ?_); refine goesL_ (some 8) rfl rfl Try.func77 zK rfl #[.slice Ao7 t313.length co7, .func (.func 78) #[] #[.pointer (some ⟨gb312, 0, none⟩)]] rfl zM ?_; (with_reducible refine (slices_DeleteFunc_int_int_table_without_1.calls (fun k_ => some k_ = (.slice Ao7 t313.length co7 : Value).ownBlock) (.slice Ao7 t313.length co7) t313 gb312 a1 t316 w _ ?side1 ?side2 ?side3 ?side4 A4.out).mono ?_); (case side1 => repeat (first | (with_reducible first | exact HB.out | apply below_alloc | apply pw_below_drewN | apply below_drew1 | refine below_set ?_ GE312.out) | exact HB.out)); (case side2 => exact Kd.R_tight rfl HO315.out); (case side3 => (with_reducible repeat (first | refine blk_drewN ?_ _ | refine blk_drew ?_ | refine blk_alloc ?_ _)); exact BK312.out); (case side4 => exact fun k_ e_ => (HO315.out.1 k_ e_.symm).2); rintro e w8 ⟨v317, rfl, ho0, hb, hkp⟩; refine ⟨_, rfl, ?_⟩; have n0_ := Aside0.mk (blk_kept (zk BK312) hkp (fun hs_ => (fun e_ => (Kd.R_away HO315.out (fun _ hk => hk.2)) e_) hs_)); have n1_ := Aside0.mk (Kd.R_mono (ok' := fun k_ => k_ ≠ gb312) ho0 (fun k_ hk_ => Or.elim hk_ (fun hs_ => fun e_ => (Kd.R_away HO315.out (fun _ hk => hk.2)) (by rw [← e_]; exact hs_)) (fun hn_ => (Kd.freshB (g := gb312) (o := .cells #[.int .i64 a1] 3 (0, 0)) (zk BK312) k_ hn_)))); have n2_ := Aside0.mk (hb); clear BK312; clear HB; clear HO315; have BK312 := n0_; have HO318 := n1_; have HB := n2_; clear n0_ n1_ n2_; (try clear hb); (try clear hkp); (try clear ho0)))
 go_ret
 exact ⟨_, by first | rfl | (simp [errW_none, errW_some] <;> rfl) | (simp [*, errW_none, errW_some] <;> rfl), by (with_reducible repeat (first | apply Kd.R_alloc | apply Kd.R_drewN | apply Kd.R_drew)); exact Kd.R_mono HO318.out (fun _ hk => trivial), by repeat (first | (with_reducible first | exact HB.out | apply below_alloc | apply pw_below_drewN | apply below_drew1 | refine below_set ?_ GE312.out) | exact HB.out)⟩
/-! ### table_vital_1_v1: function 1000075 -/
def table_vital_1_v1.f (k : Nat) (a0 : Int) (l1_0 : List Int) (l1_1 : List Int) : Option (Bool) := (table_has.f k l1_0 l1_1 a0).bind fun t320 => (some t320)
theorem table_vital_1_v1.mono : ∀ a0 a1 a2 k, LeO (table_vital_1_v1.f k a0 a1 a2) (table_vital_1_v1.f (k + 1) a0 a1 a2) := by
 intro a0 a1 a2 k
 unfold table_vital_1_v1.f
 repeat' first
   | (with_reducible exact table_has.mono _ _ _ _)
   | (with_reducible exact LeO.refl _)
   | (with_reducible exact LeO.none _)
   | (with_reducible refine LeO.ite ?_ ?_)
   | (with_reducible refine LeO.bind ?_ (fun _ => ?_))
   | exact table_has.mono _ _ _ _
   | exact LeO.none _
   | refine LeO.ite ?_ ?_
   | refine LeO.bind ?_ (fun _ => ?_)
set_option maxHeartbeats 8000000 in
set_option maxRecDepth 100000 in
theorem table_vital_1_v1.calls (k : Nat) (a0 : Int) (gp1_0 : Nat) (A1_0 : Option Addr) (c1_0 : Nat) (l1_0 : List Int) (A1_1 : Option Addr) (c1_1 : Nat) (l1_1 : List Int) (r : Bool) (w : World) (hr1_0 : Kd.C (Kd.int .i64) w A1_0 l1_0.length l1_0) (hc1_0 : l1_0.length ≤ c1_0) (hr1_1 : Kd.C (Kd.int .i64) w A1_1 l1_1.length l1_1) (hc1_1 : l1_1.length ≤ c1_1) (hb_gp1_0 : w.heap[gp1_0]? = some (.cells #[.slice A1_0 l1_0.length c1_0, .slice A1_1 l1_1.length c1_1] 29 (0, 0))) (h : table_vital_1_v1.f k a0 l1_0 l1_1 = some r) :
  Calls Try.prog 75 #[.int .i64 a0, .pointer (some ⟨gp1_0, 0, none⟩)] w fun e w' => e = .returned (.bool r) ∧ Below w.heap.size w w' := by
 have hu29 := Try.underlying29
 have HR1_0 := Aside0.mk hr1_0
 have HC1_0 := Aside0.mk hc1_0
 clear hr1_0 hc1_0
 have HR1_1 := Aside0.mk hr1_1
 have HC1_1 := Aside0.mk hc1_1
 clear hr1_1 hc1_1
 have BK319 := Aside0.mk hb_gp1_0
 clear hb_gp1_0
 have HB := Aside0.mk (Below.refl w.heap.size w)
 have H : ((table_has.f k l1_0 l1_1 a0).bind fun t320 => (some t320)) = some r := h
 clear h
 replace H := Option.bind_eq_some_iff.mp H
 obtain ⟨t320, A30, H⟩ := H
 replace H : (some t320) = some r := H
 have A3 := Aside0.mk A30
 clear A30
 obtain rfl := Option.some.inj H
 have hcz4_0 : w.cell? ⟨gp1_0, 0, none⟩ = some (.slice A1_0 l1_0.length c1_0) := (blk_cell BK319.out 0).trans rfl
 have hcz4_1 : w.cell? ⟨gp1_0, 1, none⟩ = some (.slice A1_1 l1_1.length c1_1) := (blk_cell BK319.out 1).trans rfl
 have hfz4_0 := blk_frozen BK319.out 0
 have hfz4_1 := blk_frozen BK319.out 1
 go_enter Try.func75, Try.ntmps75
 go_wp2_with (first | ((with_reducible refine gate_callee (f := 50) rfl ?_); refine goesL_ (some 6) rfl rfl Try.func50 zK rfl #[.agg #[.slice A1_0 l1_0.length c1_0, .slice A1_1 l1_1.length c1_1], .int .i64 a0] rfl zM ?_; (with_reducible refine (table_has.calls k _ _ l1_0 _ _ l1_1 a0 t320 _ ?side1 ?side2 ?side3 ?side4 A3.out).mono ?_); (case side1 => repeat (first | exact HR1_0.out | (with_reducible refine Kd.C_alloc ?_ _) | (with_reducible refine Kd.C_drewN ?_ _) | (with_reducible refine Kd.C_drew ?_))); (case side2 => exact HC1_0.out); (case side3 => repeat (first | exact HR1_1.out | (with_reducible refine Kd.C_alloc ?_ _) | (with_reducible refine Kd.C_drewN ?_ _) | (with_reducible refine Kd.C_drew ?_))); (case side4 => exact HC1_1.out); rintro e w5 ⟨rfl, hb⟩; refine ⟨_, rfl, ?_⟩; have n0_ := Aside0.mk (blk_below (g := gp1_0) (o := .cells #[.slice A1_0 l1_0.length c1_0, .slice A1_1 l1_1.length c1_1] 29 (0, 0)) (zk BK319) hb); have n1_ := Aside0.mk (below_step zB hb); clear BK319; clear HB; have BK319 := n0_; have HB := n1_; clear n0_ n1_; (try clear hb); (try clear hb2); (try clear hk); (try clear hi)))
 go_ret
 exact ⟨by first | rfl | (simp [errW_none, errW_some] <;> rfl) | (simp [*, errW_none, errW_some] <;> rfl), by repeat (first | (with_reducible first | exact HB.out | apply below_alloc | apply pw_below_drewN | apply below_drew1 | refine below_set ?_ GE319.out) | exact HB.out)⟩
end Go.Proofs.Ythcfmdkhkikbcaa.D
