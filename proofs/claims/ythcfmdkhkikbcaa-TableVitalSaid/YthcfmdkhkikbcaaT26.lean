-- Written by wip/tools/myprint.py, a program of this session's.
import Derived.Test.YthcfmdkhkikbcaaT0
import Derived.Test.YthcfmdkhkikbcaaT1
namespace Go.Proofs.Ythcfmdkhkikbcaa.T
open Go.RowKit Go.Proofs.YthcfmdkhkikbcaaW.PrintWords Go.Proofs.YthcfmdkhkikbcaaW.PrintLast Go.Proofs.YthcfmdkhkikbcaaW.PrintMore
attribute [local go_sem] max2_int min2_int max_two min_two max_three min_three max_four min_four   -- for this text's walks alone
set_option linter.unusedVariables false
set_option linter.unusedSimpArgs false
/-! ### table_Extend_1_v1: function 1000065 -/
def table_Extend_1_v1.f (k : Nat) (a0 : Int) (l1_0 : List Int) (l1_1 : List Int) : Option (Bool) := (table_has.f k l1_0 l1_1 a0).bind fun t905 => (some t905)
theorem table_Extend_1_v1.mono : ∀ a0 a1 a2 k, LeO (table_Extend_1_v1.f k a0 a1 a2) (table_Extend_1_v1.f (k + 1) a0 a1 a2) := by
 intro a0 a1 a2 k
 unfold table_Extend_1_v1.f
 repeat' first
   | (with_reducible exact table_has.mono _ _ _ _)
   | (with_reducible exact LeO.refl _)
   | (with_reducible exact LeO.none _)
   | (with_reducible refine LeO.ite ?_ ?_)
   | (with_reducible refine LeO.bind ?_ (fun _ => ?_))
   | exact table_has.mono _ _ _ _
   | exact LeO.none _
   | refine LeO.ite ?_ ?_
   | refine LeO.bind ?_ (fun _ => ?_)
set_option maxHeartbeats 8000000 in
set_option maxRecDepth 100000 in
theorem table_Extend_1_v1.calls (k : Nat) (a0 : Int) (gp1_0 : Nat) (A1_0 : Option Addr) (c1_0 : Nat) (l1_0 : List Int) (A1_1 : Option Addr) (c1_1 : Nat) (l1_1 : List Int) (r : Bool) (w : World) (hr1_0 : Kd.C (Kd.int .i64) w A1_0 l1_0.length l1_0) (hc1_0 : l1_0.length ≤ c1_0) (hr1_1 : Kd.C (Kd.int .i64) w A1_1 l1_1.length l1_1) (hc1_1 : l1_1.length ≤ c1_1) (hb_gp1_0 : w.heap[gp1_0]? = some (.cells #[.slice A1_0 l1_0.length c1_0, .slice A1_1 l1_1.length c1_1] 29 (0, 0))) (h : table_Extend_1_v1.f k a0 l1_0 l1_1 = some r) :
  Calls Try.prog 65 #[.int .i64 a0, .pointer (some ⟨gp1_0, 0, none⟩)] w fun e w' => e = .returned (.bool r) ∧ Below w.heap.size w w' := by
 have hu29 := Try.underlying29
 have HR1_0 := Aside0.mk hr1_0
 have HC1_0 := Aside0.mk hc1_0
 clear hr1_0 hc1_0
 have HR1_1 := Aside0.mk hr1_1
 have HC1_1 := Aside0.mk hc1_1
 clear hr1_1 hc1_1
 have BK904 := Aside0.mk hb_gp1_0
 clear hb_gp1_0
 have HB := Aside0.mk (Below.refl w.heap.size w)
 have H : ((table_has.f k l1_0 l1_1 a0).bind fun t905 => (some t905)) = some r := h
 clear h
 replace H := Option.bind_eq_some_iff.mp H
 obtain ⟨t905, A30, H⟩ := H
 replace H : (some t905) = some r := H
 have A3 := Aside0.mk A30
 clear A30
 obtain rfl := Option.some.inj H
 have hcz4_0 : w.cell? ⟨gp1_0, 0, none⟩ = some (.slice A1_0 l1_0.length c1_0) := (blk_cell BK904.out 0).trans rfl
 have hcz4_1 : w.cell? ⟨gp1_0, 1, none⟩ = some (.slice A1_1 l1_1.length c1_1) := (blk_cell BK904.out 1).trans rfl
 have hfz4_0 := blk_frozen BK904.out 0
 have hfz4_1 := blk_frozen BK904.out 1
 go_enter Try.func65, Try.ntmps65
 go_wp2_with (first | ((with_reducible refine gate_callee (f := 50) rfl ?_); refine goesL_ (some 6) rfl rfl Try.func50 zK rfl #[.agg #[.slice A1_0 l1_0.length c1_0, .slice A1_1 l1_1.length c1_1], .int .i64 a0] rfl zM ?_; (with_reducible refine (table_has.calls k _ _ l1_0 _ _ l1_1 a0 t905 _ ?side1 ?side2 ?side3 ?side4 A3.out).mono ?_); (case side1 => repeat (first | exact HR1_0.out | (with_reducible refine Kd.C_alloc ?_ _) | (with_reducible refine Kd.C_drewN ?_ _) | (with_reducible refine Kd.C_drew ?_))); (case side2 => exact HC1_0.out); (case side3 => repeat (first | exact HR1_1.out | (with_reducible refine Kd.C_alloc ?_ _) | (with_reducible refine Kd.C_drewN ?_ _) | (with_reducible refine Kd.C_drew ?_))); (case side4 => exact HC1_1.out); rintro e w5 ⟨rfl, hb⟩; refine ⟨_, rfl, ?_⟩; have n0_ := Aside0.mk (blk_below (g := gp1_0) (o := .cells #[.slice A1_0 l1_0.length c1_0, .slice A1_1 l1_1.length c1_1] 29 (0, 0)) (zk BK904) hb); have n1_ := Aside0.mk (below_step zB hb); clear BK904; clear HB; have BK904 := n0_; have HB := n1_; clear n0_ n1_; (try clear hb); (try clear hb2); (try clear hk); (try clear hi)))
 go_ret
 exact ⟨by first | rfl | (simp [errW_none, errW_some] <;> rfl) | (simp [*, errW_none, errW_some] <;> rfl), by repeat (first | (with_reducible first | exact HB.out | apply below_alloc | apply pw_below_drewN | apply below_drew1 | refine below_set ?_ GE904.out) | exact HB.out)⟩
/-! ### table_over_table_Extend_1: function 7000059 -/
def table_over_table_Extend_1.l0 : Nat → List Int → Int → Int → List Int → List Int → List Int → List Int → Option (List Int × List Int)
 | 0, _, _, _, _, _, _, _ => none
 | k + 1, x0, x12, x13, x905000, x905001, x910000, x910001 => if x13 < x12 then ((table_assignment.f k x0 x13).bind fun t910 => ((table_Extend_1_v1.f k t910 x905000 x905001).bind fun t911 => (if t911 = true then (if x910001.length < 17592186044416 then (table_over_table_Extend_1.l0 k x0 x12 (wrap64 (x13 + 1)) x905000 x905001 x910000 (x910001 ++ [x13])) else (none)) else (table_over_table_Extend_1.l0 k x0 x12 (wrap64 (x13 + 1)) x905000 x905001 x910000 x910001)))) else (some (x910000, x910001))
def table_over_table_Extend_1.f (k : Nat) (l0 : List Int) (l1_0 : List Int) (l1_1 : List Int) : Option (List Int × List Int) := (slices_Clone_int_int.f l0).bind fun t906 => (table_over_table_Extend_1.l0 k l0 (shl .i64 1 (l0.length : Int)) 0 l1_0 l1_1 t906 ([] : List Int))
theorem table_over_table_Extend_1.mono_l : ∀ k, (∀ y0 y1 y2 y3 y4 y5 y6, LeO (table_over_table_Extend_1.l0 k y0 y1 y2 y3 y4 y5 y6) (table_over_table_Extend_1.l0 (k + 1) y0 y1 y2 y3 y4 y5 y6))
 | 0 => fun _ _ _ _ _ _ _ r h => by simp [table_over_table_Extend_1.l0] at h
 | k + 1 => by
  have ih0 := table_over_table_Extend_1.mono_l k
  ·intro y0 y1 y2 y3 y4 y5 y6
   unfold table_over_table_Extend_1.l0
   repeat' first
   | (with_reducible exact ih0 _ _ _ _ _ _ _)
   | (with_reducible exact table_Extend_1_v1.mono _ _ _ _)
   | (with_reducible exact table_assignment.mono _ _ _)
   | (with_reducible exact LeO.refl _)
   | (with_reducible exact LeO.none _)
   | (with_reducible refine LeO.ite ?_ ?_)
   | (with_reducible refine LeO.bind ?_ (fun _ => ?_))
   | exact ih0 _ _ _ _ _ _ _
   | exact table_Extend_1_v1.mono _ _ _ _
   | exact table_assignment.mono _ _ _
   | exact LeO.none _
   | refine LeO.ite ?_ ?_
   | refine LeO.bind ?_ (fun _ => ?_)
theorem table_over_table_Extend_1.mono : ∀ a0 a1 a2 k, LeO (table_over_table_Extend_1.f k a0 a1 a2) (table_over_table_Extend_1.f (k + 1) a0 a1 a2) := by
 intro a0 a1 a2 k
 have ih0 := table_over_table_Extend_1.mono_l k
 unfold table_over_table_Extend_1.f
 repeat' first
   | (with_reducible exact ih0 _ _ _ _ _ _ _)
   | (with_reducible exact table_Extend_1_v1.mono _ _ _ _)
   | (with_reducible exact table_assignment.mono _ _ _)
   | (with_reducible exact LeO.refl _)
   | (with_reducible exact LeO.none _)
   | (with_reducible refine LeO.ite ?_ ?_)
   | (with_reducible refine LeO.bind ?_ (fun _ => ?_))
   | exact ih0 _ _ _ _ _ _ _
   | exact table_Extend_1_v1.mono _ _ _ _
   | exact table_assignment.mono _ _ _
   | exact LeO.none _
   | refine LeO.ite ?_ ?_
   | refine LeO.bind ?_ (fun _ => ?_)
set_option maxHeartbeats 8000000 in
set_option maxRecDepth 100000 in
theorem table_over_table_Extend_1.calls (k : Nat) (A0 : Option Addr) (c0 : Nat) (l0 : List Int) (gp1_0 : Nat) (A1_0 : Option Addr) (c1_0 : Nat) (l1_0 : List Int) (A1_1 : Option Addr) (c1_1 : Nat) (l1_1 : List Int) (r1 : List Int) (r2 : List Int) (w : World) (hr0 : Kd.C (Kd.int .i64) w A0 l0.length l0) (hc0 : l0.length ≤ c0) (hr1_0 : Kd.C (Kd.int .i64) w A1_0 l1_0.length l1_0) (hc1_0 : l1_0.length ≤ c1_0) (hr1_1 : Kd.C (Kd.int .i64) w A1_1 l1_1.length l1_1) (hc1_1 : l1_1.length ≤ c1_1) (hb_gp1_0 : w.heap[gp1_0]? = some (.cells #[.slice A1_0 l1_0.length c1_0, .slice A1_1 l1_1.length c1_1] 29 (0, 0))) (h : table_over_table_Extend_1.f k l0 l1_0 l1_1 = some (r1, r2)) :
  Calls Try.prog 59 #[.slice A0 l0.length c0, .func (.func 65) #[] #[.pointer (some ⟨gp1_0, 0, none⟩)]] w fun e w' => ∃ v0_ v1_ : Value, e = .returned (.agg #[v0_, v1_]) ∧ Kd.R (Kd.int .i64) 3 w' w.heap.size (fun k_ => some k_ ≠ (v1_ : Value).ownBlock) v0_ r1 ∧ Kd.R (Kd.int .i64) 3 w' w.heap.size (fun k_ => some k_ ≠ (v0_ : Value).ownBlock) v1_ r2 ∧ Below w.heap.size w w' := by
 have hu29 := Try.underlying29
 have hu27 := Try.underlying27
 have HR0 := Aside0.mk hr0
 have HC0 := Aside0.mk hc0
 clear hr0 hc0
 have HR1_0 := Aside0.mk hr1_0
 have HC1_0 := Aside0.mk hc1_0
 clear hr1_0 hc1_0
 have HR1_1 := Aside0.mk hr1_1
 have HC1_1 := Aside0.mk hc1_1
 clear hr1_1 hc1_1
 have BK904 := Aside0.mk hb_gp1_0
 clear hb_gp1_0
 have HB := Aside0.mk (Below.refl w.heap.size w)
 have H : ((slices_Clone_int_int.f l0).bind fun t906 => (table_over_table_Extend_1.l0 k l0 (shl .i64 1 (l0.length : Int)) 0 l1_0 l1_1 t906 ([] : List Int))) = some (r1, r2) := h
 clear h
 replace H := Option.bind_eq_some_iff.mp H
 obtain ⟨t906, A30, H⟩ := H
 replace H : (table_over_table_Extend_1.l0 k l0 (shl .i64 1 (l0.length : Int)) 0 l1_0 l1_1 t906 ([] : List Int)) = some (r1, r2) := H
 have A3 := Aside0.mk A30
 clear A30
 obtain ⟨ji4, hji4⟩ : ∃ j_ : Int, (shl .i64 1 (l0.length : Int)) = j_ := ⟨_, rfl⟩
 replace H : (table_over_table_Extend_1.l0 k l0 ji4 0 l1_0 l1_1 t906 ([] : List Int)) = some (r1, r2) := by first | (rw [hji4] at H; exact H) | (simp only [hji4] at H ⊢; exact H)
 (try rw [hji4] at A3)
 have hji4_ : (IntKind.i64.wrap (1 * 2 ^ min (l0.length : Int).toNat 64)) = ji4 := hji4
 have hji4z : (l0.length : Int) ≤ 64 → (IntKind.i64.wrap (1 * 2 ^ (l0.length : Int).toNat)) = ji4 := shl_small hji4
 have hji4p : (IntKind.i64.wrap (1 * 2 ^ min l0.length 64)) = ji4 := hji4_
 have hji4q : (l0.length : Int) ≤ 64 → (IntKind.i64.wrap (1 * 2 ^ l0.length)) = ji4 := hji4z
 have hji4r : (IntKind.i64.wrap (2 ^ min l0.length 64)) = ji4 := by have h_ := hji4p; rw [Int.one_mul] at h_; exact h_
 have hji4s : (l0.length : Int) ≤ 64 → (IntKind.i64.wrap (2 ^ l0.length)) = ji4 := fun hle_ => by have h_ := hji4q hle_; rw [Int.one_mul] at h_; exact h_
 have hji4u : (IntKind.i64.wrap (2 ^ min (l0.length : Int).toNat 64)) = ji4 := by have h_ := hji4_; rw [Int.one_mul] at h_; exact h_
 have hji4v : (l0.length : Int) ≤ 64 → (IntKind.i64.wrap (2 ^ (l0.length : Int).toNat)) = ji4 := fun hle_ => by have h_ := hji4z hle_; rw [Int.one_mul] at h_; exact h_
 have hji4y : (wrap64 (1 * 2 ^ min (l0.length : Int).toNat 64)) = ji4 := (i64_w _).symm.trans hji4_
 have hji4x : (l0.length : Int) ≤ 64 → (wrap64 (1 * 2 ^ (l0.length : Int).toNat)) = ji4 := fun h_ => (i64_w _).symm.trans (hji4z h_)
 have H' := Aside0.mk H
 clear H
 go_enter Try.func59, Try.ntmps59
 go_wp2_with (first | ((with_reducible refine gate_dst (N := 4) rfl ?_); refine box_event ?hg (N := 4) ?hd (cs := #[.slice none 0 0, .slice none 0 0]) (t := 29) ?hr ?_; (case hd => rfl); (case hg => rfl); (case hr => first | (go_simp; done) | (go_simp; rfl)); intro gb905 hg w5 hbox hb; have n0_ := Aside0.mk (blk_below (g := gp1_0) (o := .cells #[.slice A1_0 l1_0.length c1_0, .slice A1_1 l1_1.length c1_1] 29 (0, 0)) (zk BK904) hb); have n1_ := Aside0.mk (below_step zB hb); have n2_ := Aside0.mk (hbox); have n3_ := Aside0.mk ((by rw [hg]; exact (below_size zB) : w.heap.size ≤ gb905)); have n4_ := Aside0.mk ((by rw [hg]; exact (below_size zB) : w.heap.size ≤ gb905)); have n5_ := Aside0.mk ((by rw [hg]; exact Nat.ne_of_lt (blk_lt (g := gp1_0) (o := .cells #[.slice A1_0 l1_0.length c1_0, .slice A1_1 l1_1.length c1_1] 29 (0, 0)) (zk BK904)) : gp1_0 ≠ gb905)); have n6_ := Aside0.mk ((by rw [hg]; exact Nat.ne_of_gt (blk_lt (g := gp1_0) (o := .cells #[.slice A1_0 l1_0.length c1_0, .slice A1_1 l1_1.length c1_1] 29 (0, 0)) (zk BK904)) : gb905 ≠ gp1_0)); clear BK904; clear HB; have BK904 := n0_; have HB := n1_; have BK905 := n2_; have GW905 := n3_; have GE905 := n4_; have NB904_905 := n5_; have NB905_904 := n6_; clear n0_ n1_ n2_ n3_ n4_ n5_ n6_; clear hb hbox hg) | ((with_reducible refine gate_callee (f := 42) rfl ?_); refine goesL_ (some 8) rfl rfl Try.func42 zK rfl #[.slice A0 l0.length c0] rfl zM ?_; (with_reducible refine (slices_Clone_int_int.calls _ _ l0 t906 _ ?side1 ?side2 A3.out).mono ?_); (case side1 => repeat (first | exact (Kd.C_below HR0.out HB.out) | (with_reducible refine Kd.C_alloc ?_ _) | (with_reducible refine Kd.C_drewN ?_ _) | (with_reducible refine Kd.C_drew ?_))); (case side2 => exact HC0.out); rintro e w6 ⟨v907, rfl, ho0, hb⟩; refine ⟨_, rfl, ?_⟩; have n0_ := Aside0.mk (Kd.R_lower ho0 (below_size zB)); have n1_ := Aside0.mk (blk_below (g := gp1_0) (o := .cells #[.slice A1_0 l1_0.length c1_0, .slice A1_1 l1_1.length c1_1] 29 (0, 0)) (zk BK904) hb); have n2_ := Aside0.mk (blk_below (g := gb905) (o := .cells #[.slice none 0 0, .slice none 0 0] 29 (0, 0)) (zk BK905) hb); have n3_ := Aside0.mk (below_step zB hb); clear BK904; clear BK905; clear HB; have HO908 := n0_; have BK904 := n1_; have BK905 := n2_; have HB := n3_; clear n0_ n1_ n2_ n3_; (try clear hb); (try clear hb2); (try clear hk); (try clear hi); (try clear ho0); obtain ⟨Ao7, co7, eo7⟩ := Kd.R_slice HO908.out; subst eo7) | ((with_reducible refine gate_dst (N := 5) rfl ?_); refine box_event ?hg (N := 5) ?hd (cs := #[.slice none 0 0, .slice none 0 0]) (t := 29) ?hr ?_; (case hd => rfl); (case hg => rfl); (case hr => first | (go_simp; done) | (go_simp; rfl)); intro gb909 hg w8 hbox hb; have n0_ := Aside0.mk (Kd.R_below (zR HO908) hb); have n1_ := Aside0.mk (blk_below (g := gp1_0) (o := .cells #[.slice A1_0 l1_0.length c1_0, .slice A1_1 l1_1.length c1_1] 29 (0, 0)) (zk BK904) hb); have n2_ := Aside0.mk (blk_below (g := gb905) (o := .cells #[.slice none 0 0, .slice none 0 0] 29 (0, 0)) (zk BK905) hb); have n3_ := Aside0.mk (below_step zB hb); have n4_ := Aside0.mk (hbox); have n5_ := Aside0.mk ((by rw [hg]; exact (below_size zB) : w.heap.size ≤ gb909)); have n6_ := Aside0.mk ((by rw [hg]; exact (below_size zB) : w.heap.size ≤ gb909)); have n7_ := Aside0.mk ((by rw [hg]; exact Nat.ne_of_lt (blk_lt (g := gp1_0) (o := .cells #[.slice A1_0 l1_0.length c1_0, .slice A1_1 l1_1.length c1_1] 29 (0, 0)) (zk BK904)) : gp1_0 ≠ gb909)); have n8_ := Aside0.mk ((by rw [hg]; exact Nat.ne_of_gt (blk_lt (g := gp1_0) (o := .cells #[.slice A1_0 l1_0.length c1_0, .slice A1_1 l1_1.length c1_1] 29 (0, 0)) (zk BK904)) : gb909 ≠ gp1_0)); have n9_ := Aside0.mk ((by rw [hg]; exact Nat.ne_of_lt (blk_lt (g := gb905) (o := .cells #[.slice none 0 0, .slice none 0 0] 29 (0, 0)) (zk BK905)) : gb905 ≠ gb909)); have n10_ := Aside0.mk ((by rw [hg]; exact Nat.ne_of_gt (blk_lt (g := gb905) (o := .cells #[.slice none 0 0, .slice none 0 0] 29 (0, 0)) (zk BK905)) : gb909 ≠ gb905)); clear HO908; clear BK904; clear BK905; clear HB; have HO908 := n0_; have BK904 := n1_; have BK905 := n2_; have HB := n3_; have BK909 := n4_; have GW909 := n5_; have GE909 := n6_; have NB904_909 := n7_; have NB909_904 := n8_; have NB905_909 := n9_; have NB909_905 := n10_; clear n0_ n1_ n2_ n3_ n4_ n5_ n6_ n7_ n8_ n9_ n10_; clear hb hbox hg; have hnb9 := NB909_904.out; have hnc9 := NB904_909.out; have hnb10 := NB909_905.out; have hnc10 := NB905_909.out; have hcz11_0 : w8.cell? ⟨gb909, 0, none⟩ = some (.slice none 0 0) := (blk_cell BK909.out 0).trans rfl; have hcz11_1 : w8.cell? ⟨gb909, 1, none⟩ = some (.slice none 0 0) := (blk_cell BK909.out 1).trans rfl; have hfz11_0 := blk_frozen BK909.out 0; have hfz11_1 := blk_frozen BK909.out 1))
 go_loopg [13] k (fun kq v13 w' => ∃ (x13_1 : Int) (x910001_1 : List Int) (u910001 : Value), v13 = .int .i64 x13_1 ∧ Aside0 (table_over_table_Extend_1.l0 kq l0 ji4 x13_1 l1_0 l1_1 t906 x910001_1 = some (r1, r2)) ∧ Aside0 (kq ≤ k) ∧ Aside0 (Kd.R (Kd.int .i64) 3 w' w.heap.size (fun k_ => some k_ ≠ (u910001 : Value).ownBlock) (.slice Ao7 t906.length co7) t906) ∧ Aside0 (Kd.R (Kd.int .i64) 3 w' w.heap.size (fun k_ => some k_ ≠ ((.slice Ao7 t906.length co7) : Value).ownBlock) u910001 x910001_1) ∧ Aside0 (w'.heap[gp1_0]? = some (.cells #[(.slice A1_0 l1_0.length c1_0), (.slice A1_1 l1_1.length c1_1)] 29 (0, 0))) ∧ Aside0 (w'.heap[gb905]? = some (.cells #[(.slice none 0 0), (.slice none 0 0)] 29 (0, 0))) ∧ Aside0 (w'.heap[gb909]? = some (.cells #[(.slice Ao7 t906.length co7), u910001] 29 (0, 0))) ∧ Aside0 (Below w.heap.size w w'))
 case atStart => exact ⟨(0), (([] : List Int)), (.slice none 0 0), zT, H', ⟨Nat.le_refl _⟩, ⟨by (with_reducible repeat (first | apply Kd.R_alloc | apply Kd.R_drewN | apply Kd.R_drew)); exact Kd.R_mono (Kd.R_far (p := ⟨gb909, 1, none⟩) (Kd.R_far (p := ⟨gb909, 0, none⟩) (Kd.R_types HO908.out BK909.out (by decide)) (fun _ hk => hk.2) (.slice Ao7 t906.length co7)) (fun _ hk => hk.2) (.slice none 0 0)) (fun _ hk => (by simp [Value.ownBlock]))⟩, ⟨by first | exact Kd.R_nil _ _ _ _ _ | exact Kd.N_nil _ _ _ _ _ | exact Kd.V_nil _ _ _ _ _ | exact Kd.Q_nil _ _ _ _ _ | exact Kd.S_nil _ _ _ _ _⟩, ⟨by (with_reducible repeat (first | refine blk_drewN ?_ _ | refine blk_drew ?_ | refine blk_alloc ?_ _)); refine blk_far ?_ NB904_909.out _; (with_reducible repeat (first | refine blk_drewN ?_ _ | refine blk_drew ?_ | refine blk_alloc ?_ _)); refine blk_far ?_ NB904_909.out _; (with_reducible repeat (first | refine blk_drewN ?_ _ | refine blk_drew ?_ | refine blk_alloc ?_ _)); exact BK904.out⟩, ⟨by (with_reducible repeat (first | refine blk_drewN ?_ _ | refine blk_drew ?_ | refine blk_alloc ?_ _)); refine blk_far ?_ NB905_909.out _; (with_reducible repeat (first | refine blk_drewN ?_ _ | refine blk_drew ?_ | refine blk_alloc ?_ _)); refine blk_far ?_ NB905_909.out _; (with_reducible repeat (first | refine blk_drewN ?_ _ | refine blk_drew ?_ | refine blk_alloc ?_ _)); exact BK905.out⟩, ⟨by (with_reducible repeat (first | refine blk_drewN ?_ _ | refine blk_drew ?_ | refine blk_alloc ?_ _)); refine blk_put (cs := #[.slice Ao7 t906.length co7, .slice none 0 0]) ?_ 1 _ rfl; (with_reducible repeat (first | refine blk_drewN ?_ _ | refine blk_drew ?_ | refine blk_alloc ?_ _)); refine blk_put (cs := #[.slice none 0 0, .slice none 0 0]) ?_ 0 _ rfl; (with_reducible repeat (first | refine blk_drewN ?_ _ | refine blk_drew ?_ | refine blk_alloc ?_ _)); exact BK909.out⟩, ⟨by repeat (first | (with_reducible first | exact HB.out | apply below_alloc | apply pw_below_drewN | apply below_drew1 | refine below_set ?_ GE904.out | refine below_set ?_ GE905.out | refine below_set ?_ GE909.out) | exact HB.out)⟩⟩
 case round =>
  clear H'
  try clear hcz11_0
  try clear hcz11_1
  try clear hfz11_0
  try clear hfz11_1
  obtain ⟨x13_1, x910001_1, u910001, rfl, HA, HK1, HO_910000, HO_910001, BK904, BK905, BK909, HB⟩ := hrel
  cases gk with
  | zero => exact absurd HA.out (by simp [table_over_table_Extend_1.l0])
  | succ k1 =>
   have H := HA.out
   clear HA
   simp only [table_over_table_Extend_1.l0] at H
   by_cases c12 : x13_1 < ji4
   ·rw [if_pos c12] at H
    have c12b0 : decide (x13_1 < ji4) = true := decide_eq_true c12
    clear c12
    replace H := Option.bind_eq_some_iff.mp H
    obtain ⟨t910, A130, H⟩ := H
    replace H : ((table_Extend_1_v1.f k1 t910 l1_0 l1_1).bind fun t911 => (if t911 = true then (if x910001_1.length < 17592186044416 then (table_over_table_Extend_1.l0 k1 l0 ji4 (wrap64 (x13_1 + 1)) l1_0 l1_1 t906 (x910001_1 ++ [x13_1])) else (none)) else (table_over_table_Extend_1.l0 k1 l0 ji4 (wrap64 (x13_1 + 1)) l1_0 l1_1 t906 x910001_1))) = some (r1, r2) := H
    have A13 := Aside0.mk A130
    clear A130
    replace H := Option.bind_eq_some_iff.mp H
    obtain ⟨t911, A140, H⟩ := H
    replace H : (if t911 = true then (if x910001_1.length < 17592186044416 then (table_over_table_Extend_1.l0 k1 l0 ji4 (wrap64 (x13_1 + 1)) l1_0 l1_1 t906 (x910001_1 ++ [x13_1])) else (none)) else (table_over_table_Extend_1.l0 k1 l0 ji4 (wrap64 (x13_1 + 1)) l1_0 l1_1 t906 x910001_1)) = some (r1, r2) := H
    have A14 := Aside0.mk A140
    clear A140
    have HC15 := Aside0.mk H
    clear H
    go_upto_if 20 with (first | ((with_reducible refine gate_callee (f := 69) rfl ?_); refine goesL_ (some 19) rfl rfl Try.func69 zK rfl #[.slice A0 l0.length c0, .int .i64 x13_1] rfl zM ?_; (with_reducible refine (table_assignment.calls k1 _ _ l0 x13_1 t910 _ ?side1 ?side2 A13.out).mono ?_); (case side1 => repeat (first | exact (Kd.C_below HR0.out HB.out) | (with_reducible refine Kd.C_alloc ?_ _) | (with_reducible refine Kd.C_drewN ?_ _) | (with_reducible refine Kd.C_drew ?_))); (case side2 => exact HC0.out); rintro e w' ⟨rfl, ⟨nd, rfl⟩⟩; refine ⟨_, rfl, ?_⟩) | (go_at_call 65; (with_reducible refine (table_Extend_1_v1.calls k1 t910 gp1_0 A1_0 c1_0 l1_0 A1_1 c1_1 l1_1 t911 _ ?side1 ?side2 ?side3 ?side4 ?side5 A14.out).mono ?_); (case side1 => repeat (first | exact (Kd.C_below HR1_0.out zB) | (with_reducible refine Kd.C_alloc ?_ _) | (with_reducible refine Kd.C_drewN ?_ _) | (with_reducible refine Kd.C_drew ?_))); (case side2 => exact HC1_0.out); (case side3 => repeat (first | exact (Kd.C_below HR1_1.out zB) | (with_reducible refine Kd.C_alloc ?_ _) | (with_reducible refine Kd.C_drewN ?_ _) | (with_reducible refine Kd.C_drew ?_))); (case side4 => exact HC1_1.out); (case side5 => (with_reducible repeat (first | refine blk_drewN ?_ _ | refine blk_drew ?_ | refine blk_alloc ?_ _)); exact BK904.out); rintro e w16 ⟨rfl, hb⟩; have n0_ := Aside0.mk (Kd.R_below (zR HO_910000) hb); have n1_ := Aside0.mk (Kd.R_below (zR HO_910001) hb); have n2_ := Aside0.mk (blk_below (g := gp1_0) (o := .cells #[.slice A1_0 l1_0.length c1_0, .slice A1_1 l1_1.length c1_1] 29 (0, 0)) (zk BK904) hb); have n3_ := Aside0.mk (blk_below (g := gb905) (o := .cells #[.slice none 0 0, .slice none 0 0] 29 (0, 0)) (zk BK905) hb); have n4_ := Aside0.mk (blk_below (g := gb909) (o := .cells #[.slice Ao7 t906.length co7, u910001] 29 (0, 0)) (zk BK909) hb); have n5_ := Aside0.mk (below_step zB hb); clear HO_910000; clear HO_910001; clear BK904; clear BK905; clear BK909; clear HB; have HO_910000 := n0_; have HO_910001 := n1_; have BK904 := n2_; have BK905 := n3_; have BK909 := n4_; have HB := n5_; clear n0_ n1_ n2_ n3_ n4_ n5_; (try clear hb); (try clear hb2); (try clear hk); (try clear hi)))
    (try simp only [Act.put, List.setIfInBounds_toArray, List.set_cons_zero, List.set_cons_succ])
    have H := HC15.out
    clear HC15
    by_cases c17 : t911 = true
    ·subst c17
     have H1 : (if x910001_1.length < 17592186044416 then (table_over_table_Extend_1.l0 k1 l0 ji4 (wrap64 (x13_1 + 1)) l1_0 l1_1 t906 (x910001_1 ++ [x13_1])) else (none)) = some (r1, r2) := by rw [if_pos rfl] at H; exact H
     clear H
     have H := H1
     clear H1
     by_cases c18 : x910001_1.length < 17592186044416
     ·rw [if_pos c18] at H
      have LMc18 := Aside0.mk c18
      clear c18
      obtain ⟨y912, hy912⟩ : ∃ y_ : List Int, y_ = (x910001_1 ++ [x13_1]) := ⟨_, rfl⟩
      replace H : (table_over_table_Extend_1.l0 k1 l0 ji4 (wrap64 (x13_1 + 1)) l1_0 l1_1 t906 y912) = some (r1, r2) := by first | (rw [hy912]; with_reducible exact H) | (have H2_ := (Option.bind_some _ _).symm.trans H; rw [hy912]; with_reducible exact H2_) | (have H2_ := (Option.bind_some _ _).symm.trans H; with_reducible exact H2_) | with_reducible exact H | (rw [hy912]; exact H) | exact H
      have Ny912 := Aside0.mk hy912
      clear hy912
      have H' := Aside0.mk H
      clear H
      have hnb19 := NB909_904.out
      have hnc19 := NB904_909.out
      have hnb20 := NB909_905.out
      have hnc20 := NB905_909.out
      have hcz21_0 : w16.cell? ⟨gb909, 0, none⟩ = some (.slice Ao7 t906.length co7) := (blk_cell BK909.out 0).trans rfl
      have hcz21_1 : w16.cell? ⟨gb909, 1, none⟩ = some (u910001) := (blk_cell BK909.out 1).trans rfl
      have hfz21_0 := blk_frozen BK909.out 0
      have hfz21_1 := blk_frozen BK909.out 1
      go_wp2_with (first | ((with_reducible refine gate_builtin (b := .append) (xs := #[.tmp 22, .tmp 24]) rfl ?_); at_builtin; refine Kd.R_append (Kd.int .i64) (w0 := w) w.heap.size rfl (.tmp 22) (.tmp 24) 27 3 (.int .i64 0) 8 rfl Try.underlying27 info3 rfl (by decide) (by omega) u910001 x910001_1 x13_1 [.int .i64 x13_1] (fun k_ => some k_ ≠ (.slice Ao7 t906.length co7 : Value).ownBlock) (fun _ => False) rfl rfl ?aP (fun _ hk => hk.elim) ?aF ?aO ?aB ?aS ?aL ?_; (case aP => exact rfl); (case aB => exact zB); (case aF => exact (fun k_ hk => Kd.fresh' (Kd.R_lt (zR HO_910000)) k_ hk)); (case aO => exact (zR HO_910001)); (case aS => exact (below_size zB)); (case aL => have := LMc18.out; omega); intro v913 w22 ho hb hg hat; rw [← Ny912.out] at ho; have n0_ := Aside0.mk (Kd.R_after (ok := (fun _ => True)) (by (with_reducible repeat (first | apply Kd.R_alloc | apply Kd.R_drewN | apply Kd.R_drew)); exact Kd.R_mono HO_910000.out (fun _ hk => ⟨trivial, hk⟩)) hg hat); have n1_ := Aside0.mk (blk_grown (g := gp1_0) (o := .cells #[.slice A1_0 l1_0.length c1_0, .slice A1_1 l1_1.length c1_1] 29 (0, 0)) (zk BK904) hg (Kd.R_ne HO_910001.out BK904.out (by decide))); have n2_ := Aside0.mk (blk_grown (g := gb905) (o := .cells #[.slice none 0 0, .slice none 0 0] 29 (0, 0)) (zk BK905) hg (Kd.R_ne HO_910001.out BK905.out (by decide))); have n3_ := Aside0.mk (blk_grown (g := gb909) (o := .cells #[.slice Ao7 t906.length co7, u910001] 29 (0, 0)) (zk BK909) hg (Kd.R_ne HO_910001.out BK909.out (by decide))); have n4_ := Aside0.mk (hb); have n5_ := Aside0.mk (ho); clear HO_910000; clear BK904; clear BK905; clear BK909; clear HB; clear HO_910001; have HO_910000 := n0_; have BK904 := n1_; have BK905 := n2_; have BK909 := n3_; have HB := n4_; have HO914 := n5_; clear n0_ n1_ n2_ n3_ n4_ n5_; clear ho hb hg hat; obtain ⟨Ao23, co23, eo23⟩ := Kd.R_slice HO914.out; subst eo23; have hcz24_0 : w22.cell? ⟨gb909, 0, none⟩ = some (.slice Ao7 t906.length co7) := (blk_cell BK909.out 0).trans rfl; have hcz24_1 : w22.cell? ⟨gb909, 1, none⟩ = some (u910001) := (blk_cell BK909.out 1).trans rfl; have hfz24_0 := blk_frozen BK909.out 0; have hfz24_1 := blk_frozen BK909.out 1))
      go_roundg k1
      case measure => have := HK1.out; omega
      case rel => exact ⟨(wrap64 (x13_1 + 1)), (y912), (.slice Ao23 y912.length co23), zT, H', ⟨by have := HK1.out; omega⟩, ⟨by (with_reducible repeat (first | apply Kd.R_alloc | apply Kd.R_drewN | apply Kd.R_drew)); exact Kd.R_mono (Kd.R_far (p := ⟨gb909, 1, none⟩) (Kd.R_types HO_910000.out BK909.out (by decide)) (fun _ hk => hk.2) (.slice Ao23 y912.length co23)) (fun _ hk => hk.1.2)⟩, ⟨by (with_reducible repeat (first | apply Kd.R_alloc | apply Kd.R_drewN | apply Kd.R_drew)); exact Kd.R_mono (Kd.R_far (p := ⟨gb909, 1, none⟩) (Kd.R_types HO914.out BK909.out (by decide)) (fun _ hk => hk.2) (.slice Ao23 y912.length co23)) (fun _ hk => hk.1)⟩, ⟨by (with_reducible repeat (first | refine blk_drewN ?_ _ | refine blk_drew ?_ | refine blk_alloc ?_ _)); refine blk_far ?_ NB904_909.out _; (with_reducible repeat (first | refine blk_drewN ?_ _ | refine blk_drew ?_ | refine blk_alloc ?_ _)); exact BK904.out⟩, ⟨by (with_reducible repeat (first | refine blk_drewN ?_ _ | refine blk_drew ?_ | refine blk_alloc ?_ _)); refine blk_far ?_ NB905_909.out _; (with_reducible repeat (first | refine blk_drewN ?_ _ | refine blk_drew ?_ | refine blk_alloc ?_ _)); exact BK905.out⟩, ⟨by (with_reducible repeat (first | refine blk_drewN ?_ _ | refine blk_drew ?_ | refine blk_alloc ?_ _)); refine blk_put (cs := #[.slice Ao7 t906.length co7, u910001]) ?_ 1 _ rfl; (with_reducible repeat (first | refine blk_drewN ?_ _ | refine blk_drew ?_ | refine blk_alloc ?_ _)); exact BK909.out⟩, ⟨by repeat (first | (with_reducible first | exact HB.out | apply below_alloc | apply pw_below_drewN | apply below_drew1 | refine below_set ?_ GE904.out | refine below_set ?_ GE905.out | refine below_set ?_ GE909.out) | exact HB.out)⟩⟩
     ·rw [if_neg c18] at H
      exact absurd H (by simp)
    ·replace c17 := Bool.eq_false_iff.mpr c17
     subst c17
     have H1 : (table_over_table_Extend_1.l0 k1 l0 ji4 (wrap64 (x13_1 + 1)) l1_0 l1_1 t906 x910001_1) = some (r1, r2) := by rw [if_neg (show ¬ (false = true) by decide)] at H; exact H
     clear H
     have H := H1
     clear H1
     have H' := Aside0.mk H
     clear H
     go_wp2
     go_roundg k1
     case measure => have := HK1.out; omega
     case rel => exact ⟨(wrap64 (x13_1 + 1)), (x910001_1), (u910001), zT, H', ⟨by have := HK1.out; omega⟩, ⟨by (with_reducible repeat (first | apply Kd.R_alloc | apply Kd.R_drewN | apply Kd.R_drew)); exact HO_910000.out⟩, ⟨by (with_reducible repeat (first | apply Kd.R_alloc | apply Kd.R_drewN | apply Kd.R_drew)); exact HO_910001.out⟩, ⟨by (with_reducible repeat (first | refine blk_drewN ?_ _ | refine blk_drew ?_ | refine blk_alloc ?_ _)); exact BK904.out⟩, ⟨by (with_reducible repeat (first | refine blk_drewN ?_ _ | refine blk_drew ?_ | refine blk_alloc ?_ _)); exact BK905.out⟩, ⟨by (with_reducible repeat (first | refine blk_drewN ?_ _ | refine blk_drew ?_ | refine blk_alloc ?_ _)); exact BK909.out⟩, ⟨by repeat (first | (with_reducible first | exact HB.out | apply below_alloc | apply pw_below_drewN | apply below_drew1 | refine below_set ?_ GE904.out | refine below_set ?_ GE905.out | refine below_set ?_ GE909.out) | exact HB.out)⟩⟩
   ·rw [if_neg c12] at H
    have c12b0 : decide (x13_1 < ji4) = false := decide_eq_false c12
    clear c12
    simp only [Option.some.injEq, Prod.mk.injEq] at H
    obtain ⟨rfl, rfl⟩ := H
    have hnb25 := NB909_904.out
    have hnc25 := NB904_909.out
    have hnb26 := NB909_905.out
    have hnc26 := NB905_909.out
    have hcz27_0 : wr.cell? ⟨gb909, 0, none⟩ = some (.slice Ao7 t906.length co7) := (blk_cell BK909.out 0).trans rfl
    have hcz27_1 : wr.cell? ⟨gb909, 1, none⟩ = some (u910001) := (blk_cell BK909.out 1).trans rfl
    have hfz27_0 := blk_frozen BK909.out 0
    have hfz27_1 := blk_frozen BK909.out 1
    have hnb28 := NB905_904.out
    have hnc28 := NB904_905.out
    have hcz29_0 : wr.cell? ⟨gb905, 0, none⟩ = some (.slice none 0 0) := (blk_cell BK905.out 0).trans rfl
    have hcz29_1 : wr.cell? ⟨gb905, 1, none⟩ = some (.slice none 0 0) := (blk_cell BK905.out 1).trans rfl
    have hfz29_0 := blk_frozen BK905.out 0
    have hfz29_1 := blk_frozen BK905.out 1
    obtain ⟨Ao30, co30, eo30⟩ := Kd.R_slice HO_910001.out
    subst eo30
    go_wp2
    refine bodyPost_ret (results_cell_row rfl _ _ gb905 29 #[.slice Ao7 t906.length co7, .slice Ao30 x910001_1.length co30] (0, 0) _ rfl (by (with_reducible repeat (first | refine blk_drewN ?_ _ | refine blk_drew ?_ | refine blk_alloc ?_ _)); refine blk_put (cs := #[.slice Ao7 t906.length co7, .slice none 0 0]) ?_ 1 _ rfl; (with_reducible repeat (first | refine blk_drewN ?_ _ | refine blk_drew ?_ | refine blk_alloc ?_ _)); refine blk_put (cs := #[.slice none 0 0, .slice none 0 0]) ?_ 0 _ rfl; (with_reducible repeat (first | refine blk_drewN ?_ _ | refine blk_drew ?_ | refine blk_alloc ?_ _)); exact BK905.out) Try.underlying29 rfl zK) rfl ?_
    exact ⟨_, _, by first | rfl | (simp [errW_none, errW_some] <;> rfl) | (simp only [← hji4]; first | rfl | (simp [errW_none, errW_some] <;> rfl)) | (simp [*, errW_none, errW_some] <;> rfl), by (with_reducible repeat (first | apply Kd.R_alloc | apply Kd.R_drewN | apply Kd.R_drew)); exact Kd.R_mono (Kd.R_far (p := ⟨gb905, 1, none⟩) (Kd.R_far (p := ⟨gb905, 0, none⟩) (Kd.R_types HO_910000.out BK905.out (by decide)) (fun _ hk => hk.2) (.slice Ao7 t906.length co7)) (fun _ hk => hk.2) (.slice Ao30 x910001_1.length co30)) (fun _ hk => hk.1), by (with_reducible repeat (first | apply Kd.R_alloc | apply Kd.R_drewN | apply Kd.R_drew)); exact Kd.R_mono (Kd.R_far (p := ⟨gb905, 1, none⟩) (Kd.R_far (p := ⟨gb905, 0, none⟩) (Kd.R_types HO_910001.out BK905.out (by decide)) (fun _ hk => hk.2) (.slice Ao7 t906.length co7)) (fun _ hk => hk.2) (.slice Ao30 x910001_1.length co30)) (fun _ hk => hk.1), by repeat (first | (with_reducible first | exact HB.out | apply below_alloc | apply pw_below_drewN | apply below_drew1 | refine below_set ?_ GE904.out | refine below_set ?_ GE905.out | refine below_set ?_ GE909.out) | exact HB.out)⟩
/-! ### table_Extend: function 40 -/
def table_Extend.f (k : Nat) (l0_0 : List Int) (l0_1 : List Int) (l1 : List Int) : Option (List Int × List Int × Int) := (table_Valid.f k l0_0 l0_1).bind fun t917 => (if t917 = 0 then ((table_ascending.f k l1).bind fun t918 => (if t918 = 0 then ((table_all.f k l0_0 l1).bind fun t919 => (if (t919.length : Int) > 10 then (some (([] : List Int), ([] : List Int), 3)) else ((table_over_table_Extend_1.f k t919 l0_0 l0_1).bind fun bt922 => (some (bt922.1, bt922.2, 0))))) else (some (([] : List Int), ([] : List Int), t918)))) else (some (([] : List Int), ([] : List Int), t917)))
theorem table_Extend.mono : ∀ a0 a1 a2 k, LeO (table_Extend.f k a0 a1 a2) (table_Extend.f (k + 1) a0 a1 a2) := by
 intro a0 a1 a2 k
 unfold table_Extend.f
 repeat' first
   | (with_reducible exact table_Valid.mono _ _ _)
   | (with_reducible exact table_all.mono _ _ _)
   | (with_reducible exact table_ascending.mono _ _)
   | (with_reducible exact table_over_table_Extend_1.mono _ _ _ _)
   | (with_reducible exact LeO.refl _)
   | (with_reducible exact LeO.none _)
   | (with_reducible refine LeO.ite ?_ ?_)
   | (with_reducible refine LeO.bind ?_ (fun _ => ?_))
   | exact table_Valid.mono _ _ _
   | exact table_all.mono _ _ _
   | exact table_ascending.mono _ _
   | exact table_over_table_Extend_1.mono _ _ _ _
   | exact LeO.none _
   | refine LeO.ite ?_ ?_
   | refine LeO.bind ?_ (fun _ => ?_)
set_option maxHeartbeats 8000000 in
set_option maxRecDepth 100000 in
theorem table_Extend.calls (k : Nat) (A0_0 : Option Addr) (c0_0 : Nat) (l0_0 : List Int) (A0_1 : Option Addr) (c0_1 : Nat) (l0_1 : List Int) (A1 : Option Addr) (c1 : Nat) (l1 : List Int) (r1 : List Int) (r2 : List Int) (r3 : Int) (w : World) (hr0_0 : Kd.C (Kd.int .i64) w A0_0 l0_0.length l0_0) (hc0_0 : l0_0.length ≤ c0_0) (hr0_1 : Kd.C (Kd.int .i64) w A0_1 l0_1.length l0_1) (hc0_1 : l0_1.length ≤ c0_1) (hr1 : Kd.C (Kd.int .i64) w A1 l1.length l1) (hc1 : l1.length ≤ c1) (h : table_Extend.f k l0_0 l0_1 l1 = some (r1, r2, r3)) :
  Calls Try.prog 40 #[.agg #[.slice A0_0 l0_0.length c0_0, .slice A0_1 l0_1.length c0_1], .slice A1 l1.length c1] w fun e w' => ∃ v0_ v1_ : Value, e = .returned (.tuple #[.agg #[v0_, v1_], .int .i64 r3]) ∧ Kd.R (Kd.int .i64) 3 w' w.heap.size (fun k_ => some k_ ≠ (v1_ : Value).ownBlock) v0_ r1 ∧ Kd.R (Kd.int .i64) 3 w' w.heap.size (fun k_ => some k_ ≠ (v0_ : Value).ownBlock) v1_ r2 ∧ Below w.heap.size w w' := by
 have hu29 := Try.underlying29
 have hu27 := Try.underlying27
 have HR0_0 := Aside0.mk hr0_0
 have HC0_0 := Aside0.mk hc0_0
 clear hr0_0 hc0_0
 have HR0_1 := Aside0.mk hr0_1
 have HC0_1 := Aside0.mk hc0_1
 clear hr0_1 hc0_1
 have HR1 := Aside0.mk hr1
 have HC1 := Aside0.mk hc1
 clear hr1 hc1
 have HB := Aside0.mk (Below.refl w.heap.size w)
 have H : ((table_Valid.f k l0_0 l0_1).bind fun t917 => (if t917 = 0 then ((table_ascending.f k l1).bind fun t918 => (if t918 = 0 then ((table_all.f k l0_0 l1).bind fun t919 => (if (t919.length : Int) > 10 then (some (([] : List Int), ([] : List Int), 3)) else ((table_over_table_Extend_1.f k t919 l0_0 l0_1).bind fun bt922 => (some (bt922.1, bt922.2, 0))))) else (some (([] : List Int), ([] : List Int), t918)))) else (some (([] : List Int), ([] : List Int), t917)))) = some (r1, r2, r3) := h
 clear h
 replace H := Option.bind_eq_some_iff.mp H
 obtain ⟨t917, A30, H⟩ := H
 replace H : (if t917 = 0 then ((table_ascending.f k l1).bind fun t918 => (if t918 = 0 then ((table_all.f k l0_0 l1).bind fun t919 => (if (t919.length : Int) > 10 then (some (([] : List Int), ([] : List Int), 3)) else ((table_over_table_Extend_1.f k t919 l0_0 l0_1).bind fun bt922 => (some (bt922.1, bt922.2, 0))))) else (some (([] : List Int), ([] : List Int), t918)))) else (some (([] : List Int), ([] : List Int), t917))) = some (r1, r2, r3) := H
 have A3 := Aside0.mk A30
 clear A30
 have HC4 := Aside0.mk H
 clear H
 go_enter Try.func40, Try.ntmps40
 go_upto_if 12 with (first | ((with_reducible refine gate_dst (N := 2) rfl ?_); refine box_event ?hg (N := 2) ?hd (cs := #[.slice A0_0 l0_0.length c0_0, .slice A0_1 l0_1.length c0_1]) (t := 29) ?hr ?_; (case hd => rfl); (case hg => rfl); (case hr => first | (go_simp; done) | (go_simp; rfl)); intro gb915 hg w5 hbox hb; have n0_ := Aside0.mk (below_step zB hb); have n1_ := Aside0.mk (hbox); have n2_ := Aside0.mk ((by rw [hg]; exact (below_size zB) : w.heap.size ≤ gb915)); have n3_ := Aside0.mk ((by rw [hg]; exact (below_size zB) : w.heap.size ≤ gb915)); clear HB; have HB := n0_; have BK915 := n1_; have GW915 := n2_; have GE915 := n3_; clear n0_ n1_ n2_ n3_; clear hb hbox hg) | ((with_reducible refine gate_dst (N := 4) rfl ?_); refine box_event ?hg (N := 4) ?hd (cs := #[.slice none 0 0, .slice none 0 0]) (t := 29) ?hr ?_; (case hd => rfl); (case hg => rfl); (case hr => first | (go_simp; done) | (go_simp; rfl)); intro gb916 hg w6 hbox hb; have n0_ := Aside0.mk (blk_below (g := gb915) (o := .cells #[.slice A0_0 l0_0.length c0_0, .slice A0_1 l0_1.length c0_1] 29 (0, 0)) (zk BK915) hb); have n1_ := Aside0.mk (below_step zB hb); have n2_ := Aside0.mk (hbox); have n3_ := Aside0.mk ((by rw [hg]; exact (below_size zB) : w.heap.size ≤ gb916)); have n4_ := Aside0.mk ((by rw [hg]; exact (below_size zB) : w.heap.size ≤ gb916)); have n5_ := Aside0.mk ((by rw [hg]; exact Nat.ne_of_lt (blk_lt (g := gb915) (o := .cells #[.slice A0_0 l0_0.length c0_0, .slice A0_1 l0_1.length c0_1] 29 (0, 0)) (zk BK915)) : gb915 ≠ gb916)); have n6_ := Aside0.mk ((by rw [hg]; exact Nat.ne_of_gt (blk_lt (g := gb915) (o := .cells #[.slice A0_0 l0_0.length c0_0, .slice A0_1 l0_1.length c0_1] 29 (0, 0)) (zk BK915)) : gb916 ≠ gb915)); clear BK915; clear HB; have BK915 := n0_; have HB := n1_; have BK916 := n2_; have GW916 := n3_; have GE916 := n4_; have NB915_916 := n5_; have NB916_915 := n6_; clear n0_ n1_ n2_ n3_ n4_ n5_ n6_; clear hb hbox hg; have hnb7 := NB915_916.out; have hnc7 := NB916_915.out; have hcz8_0 : w6.cell? ⟨gb915, 0, none⟩ = some (.slice A0_0 l0_0.length c0_0) := (blk_cell BK915.out 0).trans rfl; have hcz8_1 : w6.cell? ⟨gb915, 1, none⟩ = some (.slice A0_1 l0_1.length c0_1) := (blk_cell BK915.out 1).trans rfl; have hfz8_0 := blk_frozen BK915.out 0; have hfz8_1 := blk_frozen BK915.out 1) | ((with_reducible refine gate_callee (f := 25) rfl ?_); refine goesL_ (some 10) rfl rfl Try.func25 zK rfl #[.agg #[.slice A0_0 l0_0.length c0_0, .slice A0_1 l0_1.length c0_1]] rfl zM ?_; (with_reducible refine (table_Valid.calls k _ _ l0_0 _ _ l0_1 t917 _ ?side1 ?side2 ?side3 ?side4 A3.out).mono ?_); (case side1 => repeat (first | exact (Kd.C_below HR0_0.out HB.out) | (with_reducible refine Kd.C_alloc ?_ _) | (with_reducible refine Kd.C_drewN ?_ _) | (with_reducible refine Kd.C_drew ?_))); (case side2 => exact HC0_0.out); (case side3 => repeat (first | exact (Kd.C_below HR0_1.out HB.out) | (with_reducible refine Kd.C_alloc ?_ _) | (with_reducible refine Kd.C_drewN ?_ _) | (with_reducible refine Kd.C_drew ?_))); (case side4 => exact HC0_1.out); rintro e w9 ⟨rfl, hb⟩; refine ⟨_, rfl, ?_⟩; have n0_ := Aside0.mk (blk_below (g := gb915) (o := .cells #[.slice A0_0 l0_0.length c0_0, .slice A0_1 l0_1.length c0_1] 29 (0, 0)) (zk BK915) hb); have n1_ := Aside0.mk (blk_below (g := gb916) (o := .cells #[.slice none 0 0, .slice none 0 0] 29 (0, 0)) (zk BK916) hb); have n2_ := Aside0.mk (below_step zB hb); clear BK915; clear BK916; clear HB; have BK915 := n0_; have BK916 := n1_; have HB := n2_; clear n0_ n1_ n2_; (try clear hb); (try clear hb2); (try clear hk); (try clear hi)))
 (try simp only [Act.put, List.setIfInBounds_toArray, List.set_cons_zero, List.set_cons_succ])
 have H := HC4.out
 clear HC4
 by_cases c10 : t917 = 0
 ·rw [if_pos c10] at H
  have c10b0 : (t917 == 0) = true := beq_iff_eq.mpr c10
  have c10b1 : (t917 != 0) = false := bne_eq_false_iff_eq.mpr c10
  clear c10
  (first | rw [c10b0] | (simp only [i64_w, i32_w]; rw [c10b0]) | skip)
  (try rw [c10b1])
  replace H := Option.bind_eq_some_iff.mp H
  obtain ⟨t918, A110, H⟩ := H
  replace H : (if t918 = 0 then ((table_all.f k l0_0 l1).bind fun t919 => (if (t919.length : Int) > 10 then (some (([] : List Int), ([] : List Int), 3)) else ((table_over_table_Extend_1.f k t919 l0_0 l0_1).bind fun bt922 => (some (bt922.1, bt922.2, 0))))) else (some (([] : List Int), ([] : List Int), t918))) = some (r1, r2, r3) := H
  have A11 := Aside0.mk A110
  clear A110
  have HC12 := Aside0.mk H
  clear H
  go_upto_if 18 with (first | ((with_reducible refine gate_callee (f := 53) rfl ?_); refine goesL_ (some 16) rfl rfl Try.func53 zK rfl #[.slice A1 l1.length c1] rfl zM ?_; (with_reducible refine (table_ascending.calls k _ _ l1 t918 _ ?side1 ?side2 A11.out).mono ?_); (case side1 => repeat (first | exact (Kd.C_below HR1.out HB.out) | (with_reducible refine Kd.C_alloc ?_ _) | (with_reducible refine Kd.C_drewN ?_ _) | (with_reducible refine Kd.C_drew ?_))); (case side2 => exact HC1.out); rintro e w' ⟨rfl, ⟨nd, rfl⟩⟩; refine ⟨_, rfl, ?_⟩))
  (try simp only [Act.put, List.setIfInBounds_toArray, List.set_cons_zero, List.set_cons_succ])
  have H := HC12.out
  clear HC12
  by_cases c13 : t918 = 0
  ·rw [if_pos c13] at H
   have c13b0 : (t918 == 0) = true := beq_iff_eq.mpr c13
   have c13b1 : (t918 != 0) = false := bne_eq_false_iff_eq.mpr c13
   clear c13
   (first | rw [c13b0] | (simp only [i64_w, i32_w]; rw [c13b0]) | skip)
   (try rw [c13b1])
   replace H := Option.bind_eq_some_iff.mp H
   obtain ⟨t919, A140, H⟩ := H
   replace H : (if (t919.length : Int) > 10 then (some (([] : List Int), ([] : List Int), 3)) else ((table_over_table_Extend_1.f k t919 l0_0 l0_1).bind fun bt922 => (some (bt922.1, bt922.2, 0)))) = some (r1, r2, r3) := H
   have A14 := Aside0.mk A140
   clear A140
   have HC15 := Aside0.mk H
   clear H
   have hnb16 := NB915_916.out
   have hnc16 := NB916_915.out
   have hcz17_0 : w9.cell? ⟨gb915, 0, none⟩ = some (.slice A0_0 l0_0.length c0_0) := (blk_cell BK915.out 0).trans rfl
   have hcz17_1 : w9.cell? ⟨gb915, 1, none⟩ = some (.slice A0_1 l0_1.length c0_1) := (blk_cell BK915.out 1).trans rfl
   have hfz17_0 := blk_frozen BK915.out 0
   have hfz17_1 := blk_frozen BK915.out 1
   go_upto_if 27 with (first | ((with_reducible refine gate_callee (f := 64) rfl ?_); refine goesL_ (some 24) rfl rfl Try.func64 zK rfl #[.slice A0_0 l0_0.length c0_0, .slice A1 l1.length c1] rfl zM ?_; (with_reducible refine (table_all.calls k (fun k_ => k_ < w.heap.size) _ _ l0_0 (fun k_ => k_ < w.heap.size) _ _ l1 t919 _ ?side1 ?side2 A14.out).mono ?_); (case side1 => exact Kd.V_mk HC0_0.out (Kd.F_below (Kd.C_F (Kd.heap_int .i64) HR0_0.out) zB)); (case side2 => exact Kd.V_mk HC1.out (Kd.F_below (Kd.C_F (Kd.heap_int .i64) HR1.out) zB)); rintro e w18 ⟨v920, rfl, ho0, hb⟩; refine ⟨_, rfl, ?_⟩; have n0_ := Aside0.mk (Kd.R_lower (Kd.R_mono (ok' := fun k_ => True) ho0 (fun _ hk_ => trivial)) (below_size zB)); have n1_ := Aside0.mk (blk_below (g := gb915) (o := .cells #[.slice A0_0 l0_0.length c0_0, .slice A0_1 l0_1.length c0_1] 29 (0, 0)) (zk BK915) hb); have n2_ := Aside0.mk (blk_below (g := gb916) (o := .cells #[.slice none 0 0, .slice none 0 0] 29 (0, 0)) (zk BK916) hb); have n3_ := Aside0.mk (below_step zB hb); clear BK915; clear BK916; clear HB; have HO921 := n0_; have BK915 := n1_; have BK916 := n2_; have HB := n3_; clear n0_ n1_ n2_ n3_; (try clear hb); (try clear hb2); (try clear hk); (try clear hi); (try clear ho0); obtain ⟨Ao19, co19, eo19⟩ := Kd.R_slice HO921.out; subst eo19))
   (try simp only [Act.put, List.setIfInBounds_toArray, List.set_cons_zero, List.set_cons_succ])
   have H := HC15.out
   clear HC15
   by_cases c20 : (t919.length : Int) > 10
   ·rw [if_pos c20] at H
    have c20b0 : decide (10 < (t919.length : Int)) = true := decide_eq_true c20
    have c20b1 : decide (10 < t919.length) = true := decide_eq_true (by omega)
    clear c20
    (first | rw [c20b0] | (simp only [i64_w, i32_w]; rw [c20b0]) | skip)
    (try rw [c20b1])
    simp only [Option.some.injEq, Prod.mk.injEq] at H
    obtain ⟨rfl, rfl, rfl⟩ := H
    have hnb21 := NB916_915.out
    have hnc21 := NB915_916.out
    have hcz22_0 : w18.cell? ⟨gb916, 0, none⟩ = some (.slice none 0 0) := (blk_cell BK916.out 0).trans rfl
    have hcz22_1 : w18.cell? ⟨gb916, 1, none⟩ = some (.slice none 0 0) := (blk_cell BK916.out 1).trans rfl
    have hfz22_0 := blk_frozen BK916.out 0
    have hfz22_1 := blk_frozen BK916.out 1
    go_wp2
    refine bodyPost_ret (results_ct rfl _ _ gb916 29 #[.slice none 0 0, .slice none 0 0] (0, 0) _ rfl (by (with_reducible repeat (first | refine blk_drewN ?_ _ | refine blk_drew ?_ | refine blk_alloc ?_ _)); refine blk_put (cs := #[.slice none 0 0, .slice none 0 0]) ?_ 1 _ rfl; (with_reducible repeat (first | refine blk_drewN ?_ _ | refine blk_drew ?_ | refine blk_alloc ?_ _)); refine blk_put (cs := #[.slice none 0 0, .slice none 0 0]) ?_ 0 _ rfl; (with_reducible repeat (first | refine blk_drewN ?_ _ | refine blk_drew ?_ | refine blk_alloc ?_ _)); exact BK916.out) Try.underlying29 rfl zK) rfl ?_
    exact ⟨_, _, by first | rfl | (simp [errW_none, errW_some] <;> rfl) | (simp [*, errW_none, errW_some] <;> rfl), by first | exact Kd.R_nil _ _ _ _ _ | exact Kd.N_nil _ _ _ _ _ | exact Kd.V_nil _ _ _ _ _ | exact Kd.Q_nil _ _ _ _ _ | exact Kd.S_nil _ _ _ _ _, by first | exact Kd.R_nil _ _ _ _ _ | exact Kd.N_nil _ _ _ _ _ | exact Kd.V_nil _ _ _ _ _ | exact Kd.Q_nil _ _ _ _ _ | exact Kd.S_nil _ _ _ _ _, by repeat (first | (with_reducible first | exact HB.out | apply below_alloc | apply pw_below_drewN | apply below_drew1 | refine below_set ?_ GE915.out | refine below_set ?_ GE916.out) | exact HB.out)⟩
   ·rw [if_neg c20] at H
    have c20b0 : decide (10 < (t919.length : Int)) = false := decide_eq_false c20
    have c20b1 : decide (10 < t919.length) = false := decide_eq_false (by omega)
    clear c20
    (first | rw [c20b0] | (simp only [i64_w, i32_w]; rw [c20b0]) | skip)
    (try rw [c20b1])
    replace H := Option.bind_eq_some_iff.mp H
    obtain ⟨⟨t922, t925⟩, A230, H⟩ := H
    replace H : (some (t922, t925, 0)) = some (r1, r2, r3) := H
    have A23 := Aside0.mk A230
    clear A230
    simp only [Option.some.injEq, Prod.mk.injEq] at H
    obtain ⟨rfl, rfl, rfl⟩ := H
    go_wp2_with (first | ((with_reducible refine gate_callee (f := 59) rfl ?_); refine goesL_ (some 31) rfl rfl Try.func59 zK rfl #[.slice Ao19 t919.length co19, .func (.func 65) #[] #[.pointer (some ⟨gb915, 0, none⟩)]] rfl zM ?_; (with_reducible refine (table_over_table_Extend_1.calls k _ _ t919 gb915 A0_0 c0_0 l0_0 A0_1 c0_1 l0_1 t922 t925 _ ?side1 ?side2 ?side3 ?side4 ?side5 ?side6 ?side7 A23.out).mono ?_); (case side1 => repeat (first | exact (Kd.R_reads' HO921.out).2.2 | (with_reducible refine Kd.C_alloc ?_ _) | (with_reducible refine Kd.C_drewN ?_ _) | (with_reducible refine Kd.C_drew ?_))); (case side2 => exact (Kd.R_reads' HO921.out).2.1); (case side3 => repeat (first | exact (Kd.C_below HR0_0.out HB.out) | (with_reducible refine Kd.C_alloc ?_ _) | (with_reducible refine Kd.C_drewN ?_ _) | (with_reducible refine Kd.C_drew ?_))); (case side4 => exact HC0_0.out); (case side5 => repeat (first | exact (Kd.C_below HR0_1.out HB.out) | (with_reducible refine Kd.C_alloc ?_ _) | (with_reducible refine Kd.C_drewN ?_ _) | (with_reducible refine Kd.C_drew ?_))); (case side6 => exact HC0_1.out); (case side7 => (with_reducible repeat (first | refine blk_drewN ?_ _ | refine blk_drew ?_ | refine blk_alloc ?_ _)); exact BK915.out); rintro e w24 ⟨v923, v926, rfl, ho0, ho1, hb⟩; refine ⟨_, rfl, ?_⟩; have n0_ := Aside0.mk (Kd.R_mono (Kd.R_told (Kd.R_told (Kd.R_old (zR HO921) hb) (Kd.R_base ho0)) (Kd.R_base ho1)) (fun _ h_ => h_.1)); have n1_ := Aside0.mk (Kd.R_lower (Kd.R_new' ho0 (Kd.R_lt (zR HO921))) (below_size zB)); have n2_ := Aside0.mk (Kd.R_lower (Kd.R_new' ho1 (Kd.R_lt (zR HO921))) (below_size zB)); have n3_ := Aside0.mk (blk_below (g := gb915) (o := .cells #[.slice A0_0 l0_0.length c0_0, .slice A0_1 l0_1.length c0_1] 29 (0, 0)) (zk BK915) hb); have n4_ := Aside0.mk (blk_below (g := gb916) (o := .cells #[.slice none 0 0, .slice none 0 0] 29 (0, 0)) (zk BK916) hb); have n5_ := Aside0.mk (below_step zB hb); clear HO921; clear BK915; clear BK916; clear HB; have HO921 := n0_; have HO924 := n1_; have HO927 := n2_; have BK915 := n3_; have BK916 := n4_; have HB := n5_; clear n0_ n1_ n2_ n3_ n4_ n5_; (try clear hb); (try clear hb2); (try clear hk); (try clear hi); (try clear ho0); (try clear ho1); obtain ⟨Ao25, co25, eo25⟩ := Kd.R_slice HO924.out; subst eo25; have hnb26 := NB916_915.out; have hnc26 := NB915_916.out; have hcz27_0 : w24.cell? ⟨gb916, 0, none⟩ = some (.slice none 0 0) := (blk_cell BK916.out 0).trans rfl; have hcz27_1 : w24.cell? ⟨gb916, 1, none⟩ = some (.slice none 0 0) := (blk_cell BK916.out 1).trans rfl; have hfz27_0 := blk_frozen BK916.out 0; have hfz27_1 := blk_frozen BK916.out 1; obtain ⟨Ao28, co28, eo28⟩ := Kd.R_slice HO927.out; subst eo28))
    refine bodyPost_ret (results_ct rfl _ _ gb916 29 #[.slice Ao25 t922.length co25, .slice Ao28 t925.length co28] (0, 0) _ rfl (by (with_reducible repeat (first | refine blk_drewN ?_ _ | refine blk_drew ?_ | refine blk_alloc ?_ _)); refine blk_put (cs := #[.slice Ao25 t922.length co25, .slice none 0 0]) ?_ 1 _ rfl; (with_reducible repeat (first | refine blk_drewN ?_ _ | refine blk_drew ?_ | refine blk_alloc ?_ _)); refine blk_put (cs := #[.slice none 0 0, .slice none 0 0]) ?_ 0 _ rfl; (with_reducible repeat (first | refine blk_drewN ?_ _ | refine blk_drew ?_ | refine blk_alloc ?_ _)); exact BK916.out) Try.underlying29 rfl zK) rfl ?_
    exact ⟨_, _, by first | rfl | (simp [errW_none, errW_some] <;> rfl) | (simp [*, errW_none, errW_some] <;> rfl), by (with_reducible repeat (first | apply Kd.R_alloc | apply Kd.R_drewN | apply Kd.R_drew)); exact Kd.R_mono (Kd.R_far (p := ⟨gb916, 1, none⟩) (Kd.R_far (p := ⟨gb916, 0, none⟩) (Kd.R_types HO924.out BK916.out (by decide)) (fun _ hk => hk.2) (.slice Ao25 t922.length co25)) (fun _ hk => hk.2) (.slice Ao28 t925.length co28)) (fun _ hk => hk.1.1), by (with_reducible repeat (first | apply Kd.R_alloc | apply Kd.R_drewN | apply Kd.R_drew)); exact Kd.R_mono (Kd.R_far (p := ⟨gb916, 1, none⟩) (Kd.R_far (p := ⟨gb916, 0, none⟩) (Kd.R_types HO927.out BK916.out (by decide)) (fun _ hk => hk.2) (.slice Ao25 t922.length co25)) (fun _ hk => hk.2) (.slice Ao28 t925.length co28)) (fun _ hk => hk.1.1), by repeat (first | (with_reducible first | exact HB.out | apply below_alloc | apply pw_below_drewN | apply below_drew1 | refine below_set ?_ GE915.out | refine below_set ?_ GE916.out) | exact HB.out)⟩
  ·rw [if_neg c13] at H
   have c13b0 : (t918 == 0) = false := beq_eq_false_iff_ne.mpr c13
   have c13b1 : (t918 != 0) = true := bne_iff_ne.mpr c13
   (first | rw [c13b0] | (simp only [i64_w, i32_w]; rw [c13b0]) | skip)
   (try rw [c13b1])
   simp only [Option.some.injEq, Prod.mk.injEq] at H
   obtain ⟨rfl, rfl, rfl⟩ := H
   have hnb29 := NB916_915.out
   have hnc29 := NB915_916.out
   have hcz30_0 : w9.cell? ⟨gb916, 0, none⟩ = some (.slice none 0 0) := (blk_cell BK916.out 0).trans rfl
   have hcz30_1 : w9.cell? ⟨gb916, 1, none⟩ = some (.slice none 0 0) := (blk_cell BK916.out 1).trans rfl
   have hfz30_0 := blk_frozen BK916.out 0
   have hfz30_1 := blk_frozen BK916.out 1
   go_wp2
   refine bodyPost_ret (results_ct rfl _ _ gb916 29 #[.slice none 0 0, .slice none 0 0] (0, 0) _ rfl (by (with_reducible repeat (first | refine blk_drewN ?_ _ | refine blk_drew ?_ | refine blk_alloc ?_ _)); refine blk_put (cs := #[.slice none 0 0, .slice none 0 0]) ?_ 1 _ rfl; (with_reducible repeat (first | refine blk_drewN ?_ _ | refine blk_drew ?_ | refine blk_alloc ?_ _)); refine blk_put (cs := #[.slice none 0 0, .slice none 0 0]) ?_ 0 _ rfl; (with_reducible repeat (first | refine blk_drewN ?_ _ | refine blk_drew ?_ | refine blk_alloc ?_ _)); exact BK916.out) Try.underlying29 rfl zK) rfl ?_
   exact ⟨_, _, by first | rfl | (simp [errW_none, errW_some] <;> rfl) | (simp [*, errW_none, errW_some] <;> rfl), by first | exact Kd.R_nil _ _ _ _ _ | exact Kd.N_nil _ _ _ _ _ | exact Kd.V_nil _ _ _ _ _ | exact Kd.Q_nil _ _ _ _ _ | exact Kd.S_nil _ _ _ _ _, by first | exact Kd.R_nil _ _ _ _ _ | exact Kd.N_nil _ _ _ _ _ | exact Kd.V_nil _ _ _ _ _ | exact Kd.Q_nil _ _ _ _ _ | exact Kd.S_nil _ _ _ _ _, by repeat (first | (with_reducible first | exact HB.out | apply below_alloc | apply pw_below_drewN | apply below_drew1 | refine below_set ?_ GE915.out | refine below_set ?_ GE916.out) | exact HB.out)⟩
 ·rw [if_neg c10] at H
  have c10b0 : (t917 == 0) = false := beq_eq_false_iff_ne.mpr c10
  have c10b1 : (t917 != 0) = true := bne_iff_ne.mpr c10
  (first | rw [c10b0] | (simp only [i64_w, i32_w]; rw [c10b0]) | skip)
  (try rw [c10b1])
  simp only [Option.some.injEq, Prod.mk.injEq] at H
  obtain ⟨rfl, rfl, rfl⟩ := H
  have hnb31 := NB916_915.out
  have hnc31 := NB915_916.out
  have hcz32_0 : w9.cell? ⟨gb916, 0, none⟩ = some (.slice none 0 0) := (blk_cell BK916.out 0).trans rfl
  have hcz32_1 : w9.cell? ⟨gb916, 1, none⟩ = some (.slice none 0 0) := (blk_cell BK916.out 1).trans rfl
  have hfz32_0 := blk_frozen BK916.out 0
  have hfz32_1 := blk_frozen BK916.out 1
  go_wp2
  refine bodyPost_ret (results_ct rfl _ _ gb916 29 #[.slice none 0 0, .slice none 0 0] (0, 0) _ rfl (by (with_reducible repeat (first | refine blk_drewN ?_ _ | refine blk_drew ?_ | refine blk_alloc ?_ _)); refine blk_put (cs := #[.slice none 0 0, .slice none 0 0]) ?_ 1 _ rfl; (with_reducible repeat (first | refine blk_drewN ?_ _ | refine blk_drew ?_ | refine blk_alloc ?_ _)); refine blk_put (cs := #[.slice none 0 0, .slice none 0 0]) ?_ 0 _ rfl; (with_reducible repeat (first | refine blk_drewN ?_ _ | refine blk_drew ?_ | refine blk_alloc ?_ _)); exact BK916.out) Try.underlying29 rfl zK) rfl ?_
  exact ⟨_, _, by first | rfl | (simp [errW_none, errW_some] <;> rfl) | (simp [*, errW_none, errW_some] <;> rfl), by first | exact Kd.R_nil _ _ _ _ _ | exact Kd.N_nil _ _ _ _ _ | exact Kd.V_nil _ _ _ _ _ | exact Kd.Q_nil _ _ _ _ _ | exact Kd.S_nil _ _ _ _ _, by first | exact Kd.R_nil _ _ _ _ _ | exact Kd.N_nil _ _ _ _ _ | exact Kd.V_nil _ _ _ _ _ | exact Kd.Q_nil _ _ _ _ _ | exact Kd.S_nil _ _ _ _ _, by repeat (first | (with_reducible first | exact HB.out | apply below_alloc | apply pw_below_drewN | apply below_drew1 | refine below_set ?_ GE915.out | refine below_set ?_ GE916.out) | exact HB.out)⟩
end Go.Proofs.Ythcfmdkhkikbcaa.T
