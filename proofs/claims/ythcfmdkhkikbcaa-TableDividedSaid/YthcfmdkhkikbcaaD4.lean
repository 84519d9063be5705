-- Written by wip/tools/myprint.py, a program of this session's.
import Derived.Test.YthcfmdkhkikbcaaD0
import Derived.Test.YthcfmdkhkikbcaaD1
import Derived.Test.YthcfmdkhkikbcaaD2
import Derived.Test.YthcfmdkhkikbcaaD3
namespace Go.Proofs.Ythcfmdkhkikbcaa.D
open Go.RowKit Go.Proofs.YthcfmdkhkikbcaaW.PrintWords Go.Proofs.YthcfmdkhkikbcaaW.PrintLast Go.Proofs.YthcfmdkhkikbcaaW.PrintMore
attribute [local go_sem] max2_int min2_int max_two min_two max_three min_three max_four min_four   -- for this text's walks alone
set_option linter.unusedVariables false
set_option linter.unusedSimpArgs false
/-! ### table_vital: function 51 -/
mutual
def table_vital.l0 : Nat → List Int → Int → Int → List Int → List Int → Option (List Int × List Int)
 | 0, _, _, _, _, _ => none
 | k + 1, x8, x9, x10, x332000, x332001 => if x10 < x9 then (if 0 ≤ x10 then (if x10 < (x8.length : Int) then ((table_without.f x332000 (rd x8 x10)).bind fun t341 => ((table_over_table_vital_1.f k t341 x332000 x332001).bind fun bt344 => ((table_without.f x332000 (rd x8 x10)).bind fun t351 => ((table_over_table_vital_2.f k t351 x332000 x332001 (rd x8 x10)).bind fun bt354 => ((slices_Equal_int_int.f k bt344.2 bt354.2).bind fun t361 => (if t361 = true then ((table_vital.f k bt344.1 bt344.2).bind fun bt362 => (some (bt362.1, bt362.2))) else (table_vital.l0 k x8 x9 (wrap64 (x10 + 1)) x332000 x332001))))))) else (none)) else (none)) else ((slices_Clone_int_int.f x332000).bind fun t333 => ((slices_Clone_int_int.f x332001).bind fun t336 => (some (t333, t336))))
def table_vital.f : Nat → List Int → List Int → Option (List Int × List Int)
 | 0, _, _ => none
 | k + 1, l0_0, l0_1 => table_vital.l0 k l0_0 (l0_0.length : Int) 0 l0_0 l0_1
end
theorem table_vital.mono_l : ∀ k, (∀ y0 y1, LeO (table_vital.f k y0 y1) (table_vital.f (k + 1) y0 y1)) ∧ (∀ y0 y1 y2 y3 y4, LeO (table_vital.l0 k y0 y1 y2 y3 y4) (table_vital.l0 (k + 1) y0 y1 y2 y3 y4))
 | 0 => ⟨fun _ _ r h => by simp [table_vital.f] at h, fun _ _ _ _ _ r h => by simp [table_vital.l0] at h⟩
 | k + 1 => by
  obtain ⟨ih0, ih1⟩ := table_vital.mono_l k
  refine ⟨?_, ?_⟩
  ·intro y0 y1
   unfold table_vital.f
   repeat' first
   | (with_reducible exact ih0 _ _)
   | (with_reducible exact ih1 _ _ _ _ _)
   | (with_reducible exact slices_Equal_int_int.mono _ _ _)
   | (with_reducible exact table_over_table_vital_1.mono _ _ _ _)
   | (with_reducible exact table_over_table_vital_2.mono _ _ _ _ _)
   | (with_reducible exact LeO.refl _)
   | (with_reducible exact LeO.none _)
   | (with_reducible refine LeO.ite ?_ ?_)
   | (with_reducible refine LeO.bind ?_ (fun _ => ?_))
   | exact ih0 _ _
   | exact ih1 _ _ _ _ _
   | exact slices_Equal_int_int.mono _ _ _
   | exact table_over_table_vital_1.mono _ _ _ _
   | exact table_over_table_vital_2.mono _ _ _ _ _
   | exact LeO.none _
   | refine LeO.ite ?_ ?_
   | refine LeO.bind ?_ (fun _ => ?_)
  ·intro y0 y1 y2 y3 y4
   unfold table_vital.l0
   repeat' first
   | (with_reducible exact ih0 _ _)
   | (with_reducible exact ih1 _ _ _ _ _)
   | (with_reducible exact slices_Equal_int_int.mono _ _ _)
   | (with_reducible exact table_over_table_vital_1.mono _ _ _ _)
   | (with_reducible exact table_over_table_vital_2.mono _ _ _ _ _)
   | (with_reducible exact LeO.refl _)
   | (with_reducible exact LeO.none _)
   | (with_reducible refine LeO.ite ?_ ?_)
   | (with_reducible refine LeO.bind ?_ (fun _ => ?_))
   | exact ih0 _ _
   | exact ih1 _ _ _ _ _
   | exact slices_Equal_int_int.mono _ _ _
   | exact table_over_table_vital_1.mono _ _ _ _
   | exact table_over_table_vital_2.mono _ _ _ _ _
   | exact LeO.none _
   | refine LeO.ite ?_ ?_
   | refine LeO.bind ?_ (fun _ => ?_)
theorem table_vital.mono : ∀ a0 a1 k, LeO (table_vital.f k a0 a1) (table_vital.f (k + 1) a0 a1) := by
 intro a0 a1 k
 obtain ⟨ih0, ih1⟩ := table_vital.mono_l k
 exact ih0 a0 a1
def table_vital.T9 : Bool × List (List Nat × List Nat) := (true, [([], []), ([0], [0]), ([1], [1]), ([], []), ([3], [3]), ([4, 2], [4]), ([2, 5], [2, 5]), ([6, 5, 0, 1, 2, 3, 4, 5, 6], [6])])
def table_vital.B9 : List Nat := [0, 1, 3, 0, 8, 31, 63, 127]
theorem table_vital.tab9 : rtab .any (opsOf Try.f51 9) = table_vital.T9 := by kernel_rfl
theorem table_vital.bits9 : waitsOk table_vital.T9.2 table_vital.B9 = true := by kernel_rfl
set_option maxHeartbeats 8000000 in
set_option maxRecDepth 100000 in
theorem table_vital.calls (k : Nat) : ∀ (A0_0 : Option Addr) (c0_0 : Nat) (l0_0 : List Int) (A0_1 : Option Addr) (c0_1 : Nat) (l0_1 : List Int) (r1 : List Int) (r2 : List Int) (w : World) (hr0_0 : Kd.C (Kd.int .i64) w A0_0 l0_0.length l0_0) (hc0_0 : l0_0.length ≤ c0_0) (hr0_1 : Kd.C (Kd.int .i64) w A0_1 l0_1.length l0_1) (hc0_1 : l0_1.length ≤ c0_1) (h : table_vital.f k l0_0 l0_1 = some (r1, r2)),
  Calls Try.prog 51 #[.agg #[.slice A0_0 l0_0.length c0_0, .slice A0_1 l0_1.length c0_1]] w fun e w' => ∃ v0_ v1_ : Value, e = .returned (.agg #[v0_, v1_]) ∧ Kd.R (Kd.int .i64) 3 w' w.heap.size (fun k_ => some k_ ≠ (v1_ : Value).ownBlock) v0_ r1 ∧ Kd.R (Kd.int .i64) 3 w' w.heap.size (fun k_ => some k_ ≠ (v0_ : Value).ownBlock) v1_ r2 ∧ Below w.heap.size w w' := by
 induction k using Nat.strongRecOn with
 | _ k ih =>
 intro A0_0 c0_0 l0_0 A0_1 c0_1 l0_1 r1 r2 w hr0_0 hc0_0 hr0_1 hc0_1 h
 cases k with
 | zero => exact absurd h (by simp [table_vital.f])
 | succ k =>
 simp only [table_vital.f] at h
 have hu29 := Try.underlying29
 have hu27 := Try.underlying27
 have hu3 := Try.underlying3
 have HR0_0 := Aside0.mk hr0_0
 have HC0_0 := Aside0.mk hc0_0
 clear hr0_0 hc0_0
 have HR0_1 := Aside0.mk hr0_1
 have HC0_1 := Aside0.mk hc0_1
 clear hr0_1 hc0_1
 have HB := Aside0.mk (Below.refl w.heap.size w)
 have H : (table_vital.l0 k l0_0 (l0_0.length : Int) 0 l0_0 l0_1) = some (r1, r2) := h
 clear h
 have H' := Aside0.mk H
 clear H
 go_enter Try.func51, Try.ntmps51
 go_wp2_with (first | ((with_reducible refine gate_dst (N := 1) rfl ?_); refine box_event ?hg (N := 1) ?hd (cs := #[.slice A0_0 l0_0.length c0_0, .slice A0_1 l0_1.length c0_1]) (t := 29) ?hr ?_; (case hd => rfl); (case hg => rfl); (case hr => first | (go_simp; done) | (go_simp; rfl)); intro gb331 hg w2 hbox hb; have n0_ := Aside0.mk (below_step zB hb); have n1_ := Aside0.mk (hbox); have n2_ := Aside0.mk ((by rw [hg]; exact (below_size zB) : w.heap.size ≤ gb331)); have n3_ := Aside0.mk ((by rw [hg]; exact (below_size zB) : w.heap.size ≤ gb331)); clear HB; have HB := n0_; have BK331 := n1_; have GW331 := n2_; have GE331 := n3_; clear n0_ n1_ n2_ n3_; clear hb hbox hg) | ((with_reducible refine gate_dst (N := 2) rfl ?_); refine box_event ?hg (N := 2) ?hd (cs := #[.slice none 0 0, .slice none 0 0]) (t := 29) ?hr ?_; (case hd => rfl); (case hg => rfl); (case hr => first | (go_simp; done) | (go_simp; rfl)); intro gb332 hg w3 hbox hb; have n0_ := Aside0.mk (blk_below (g := gb331) (o := .cells #[.slice A0_0 l0_0.length c0_0, .slice A0_1 l0_1.length c0_1] 29 (0, 0)) (zk BK331) hb); have n1_ := Aside0.mk (below_step zB hb); have n2_ := Aside0.mk (hbox); have n3_ := Aside0.mk ((by rw [hg]; exact (below_size zB) : w.heap.size ≤ gb332)); have n4_ := Aside0.mk ((by rw [hg]; exact (below_size zB) : w.heap.size ≤ gb332)); have n5_ := Aside0.mk ((by rw [hg]; exact Nat.ne_of_lt (blk_lt (g := gb331) (o := .cells #[.slice A0_0 l0_0.length c0_0, .slice A0_1 l0_1.length c0_1] 29 (0, 0)) (zk BK331)) : gb331 ≠ gb332)); have n6_ := Aside0.mk ((by rw [hg]; exact Nat.ne_of_gt (blk_lt (g := gb331) (o := .cells #[.slice A0_0 l0_0.length c0_0, .slice A0_1 l0_1.length c0_1] 29 (0, 0)) (zk BK331)) : gb332 ≠ gb331)); clear BK331; clear HB; have BK331 := n0_; have HB := n1_; have BK332 := n2_; have GW332 := n3_; have GE332 := n4_; have NB331_332 := n5_; have NB332_331 := n6_; clear n0_ n1_ n2_ n3_ n4_ n5_ n6_; clear hb hbox hg; have hnb4 := NB331_332.out; have hnc4 := NB332_331.out; have hcz5_0 : w3.cell? ⟨gb331, 0, none⟩ = some (.slice A0_0 l0_0.length c0_0) := (blk_cell BK331.out 0).trans rfl; have hcz5_1 : w3.cell? ⟨gb331, 1, none⟩ = some (.slice A0_1 l0_1.length c0_1) := (blk_cell BK331.out 1).trans rfl; have hfz5_0 := blk_frozen BK331.out 0; have hfz5_1 := blk_frozen BK331.out 1))
 go_loopg [10] k (fun kq v10 w' => ∃ (x10_1 : Int), v10 = .int .i64 x10_1 ∧ Aside0 (table_vital.l0 kq l0_0 (l0_0.length : Int) x10_1 l0_0 l0_1 = some (r1, r2)) ∧ Aside0 (kq ≤ k) ∧ Aside0 (w'.heap[gb331]? = some (.cells #[(.slice A0_0 l0_0.length c0_0), (.slice A0_1 l0_1.length c0_1)] 29 (0, 0))) ∧ Aside0 (w'.heap[gb332]? = some (.cells #[(.slice none 0 0), (.slice none 0 0)] 29 (0, 0))) ∧ Aside0 (Below w.heap.size w w'))
 case atStart => exact ⟨(0), zT, H', ⟨Nat.le_refl _⟩, ⟨by (with_reducible repeat (first | refine blk_drewN ?_ _ | refine blk_drew ?_ | refine blk_alloc ?_ _)); exact BK331.out⟩, ⟨by (with_reducible repeat (first | refine blk_drewN ?_ _ | refine blk_drew ?_ | refine blk_alloc ?_ _)); exact BK332.out⟩, ⟨by repeat (first | (with_reducible first | exact HB.out | apply below_alloc | apply pw_below_drewN | apply below_drew1 | refine below_set ?_ GE331.out | refine below_set ?_ GE332.out) | exact HB.out)⟩⟩
 case round =>
  clear H'
  try clear hcz5_0
  try clear hcz5_1
  try clear hfz5_0
  try clear hfz5_1
  obtain ⟨x10_1, rfl, HA, HK1, BK331, BK332, HB⟩ := hrel
  cases gk with
  | zero => exact absurd HA.out (by simp [table_vital.l0])
  | succ k1 =>
   have H := HA.out
   clear HA
   simp only [table_vital.l0] at H
   by_cases c6 : x10_1 < (l0_0.length : Int)
   ·rw [if_pos c6] at H
    have c6b0 : decide (x10_1 < (l0_0.length : Int)) = true := decide_eq_true c6
    clear c6
    by_cases c7 : 0 ≤ x10_1
    ·rw [if_pos c7] at H
     have c7b0 : decide (0 ≤ x10_1) = true := decide_eq_true c7
     clear c7
     by_cases c8 : x10_1 < (l0_0.length : Int)
     ·rw [if_pos c8] at H
      have c8b0 : decide (x10_1 < (l0_0.length : Int)) = true := decide_eq_true c8
      clear c8
      replace H := Option.bind_eq_some_iff.mp H
      obtain ⟨t341, A90, H⟩ := H
      replace H : ((table_over_table_vital_1.f k1 t341 l0_0 l0_1).bind fun bt344 => ((table_without.f l0_0 (rd l0_0 x10_1)).bind fun t351 => ((table_over_table_vital_2.f k1 t351 l0_0 l0_1 (rd l0_0 x10_1)).bind fun bt354 => ((slices_Equal_int_int.f k1 bt344.2 bt354.2).bind fun t361 => (if t361 = true then ((table_vital.f k1 bt344.1 bt344.2).bind fun bt362 => (some (bt362.1, bt362.2))) else (table_vital.l0 k1 l0_0 (l0_0.length : Int) (wrap64 (x10_1 + 1)) l0_0 l0_1)))))) = some (r1, r2) := H
      have A9 := Aside0.mk A90
      clear A90
      replace H := Option.bind_eq_some_iff.mp H
      obtain ⟨⟨t344, t347⟩, A100, H⟩ := H
      replace H : ((table_without.f l0_0 (rd l0_0 x10_1)).bind fun t351 => ((table_over_table_vital_2.f k1 t351 l0_0 l0_1 (rd l0_0 x10_1)).bind fun bt354 => ((slices_Equal_int_int.f k1 t347 bt354.2).bind fun t361 => (if t361 = true then ((table_vital.f k1 t344 t347).bind fun bt362 => (some (bt362.1, bt362.2))) else (table_vital.l0 k1 l0_0 (l0_0.length : Int) (wrap64 (x10_1 + 1)) l0_0 l0_1))))) = some (r1, r2) := H
      have A10 := Aside0.mk A100
      clear A100
      replace H := Option.bind_eq_some_iff.mp H
      obtain ⟨t351, A110, H⟩ := H
      replace H : ((table_over_table_vital_2.f k1 t351 l0_0 l0_1 (rd l0_0 x10_1)).bind fun bt354 => ((slices_Equal_int_int.f k1 t347 bt354.2).bind fun t361 => (if t361 = true then ((table_vital.f k1 t344 t347).bind fun bt362 => (some (bt362.1, bt362.2))) else (table_vital.l0 k1 l0_0 (l0_0.length : Int) (wrap64 (x10_1 + 1)) l0_0 l0_1)))) = some (r1, r2) := H
      have A11 := Aside0.mk A110
      clear A110
      replace H := Option.bind_eq_some_iff.mp H
      obtain ⟨⟨t354, t357⟩, A120, H⟩ := H
      replace H : ((slices_Equal_int_int.f k1 t347 t357).bind fun t361 => (if t361 = true then ((table_vital.f k1 t344 t347).bind fun bt362 => (some (bt362.1, bt362.2))) else (table_vital.l0 k1 l0_0 (l0_0.length : Int) (wrap64 (x10_1 + 1)) l0_0 l0_1))) = some (r1, r2) := H
      have A12 := Aside0.mk A120
      clear A120
      replace H := Option.bind_eq_some_iff.mp H
      obtain ⟨t361, A130, H⟩ := H
      replace H : (if t361 = true then ((table_vital.f k1 t344 t347).bind fun bt362 => (some (bt362.1, bt362.2))) else (table_vital.l0 k1 l0_0 (l0_0.length : Int) (wrap64 (x10_1 + 1)) l0_0 l0_1)) = some (r1, r2) := H
      have A13 := Aside0.mk A130
      clear A130
      have HC14 := Aside0.mk H
      clear H
      have p339 : 0 ≤ (x10_1 : Int) := of_decide_eq_true zh
      have q339 : x10_1 < (l0_0.length : Int) := of_decide_eq_true zh
      obtain ⟨ad339, e339, hx339_0⟩ := Kd.at_int HR0_0.out x10_1 p339 q339
      cases e339
      replace hx339_0 := (HB.out.cell (World.block_lt_of_cell? w _ hx339_0)).trans hx339_0
      replace p339 := eq_true p339
      replace q339 := eq_true q339
      go_upto_if 30 with (first | ((with_reducible refine gate_dst (N := 4) rfl ?_); refine box_event ?hg (N := 4) ?hd (cs := #[.int .i64 0]) (t := 3) ?hr ?_; (case hd => rfl); (case hg => rfl); (case hr => first | (go_simp; done) | (go_simp; rfl)); intro gb340 hg w15 hbox hb; have n0_ := Aside0.mk (blk_below (g := gb331) (o := .cells #[.slice (some ad339) l0_0.length c0_0, .slice A0_1 l0_1.length c0_1] 29 (0, 0)) (zk BK331) hb); have n1_ := Aside0.mk (blk_below (g := gb332) (o := .cells #[.slice none 0 0, .slice none 0 0] 29 (0, 0)) (zk BK332) hb); have n2_ := Aside0.mk (below_step zB hb); have n3_ := Aside0.mk (hbox); have n4_ := Aside0.mk ((by rw [hg]; exact (below_size zB) : w.heap.size ≤ gb340)); have n5_ := Aside0.mk ((by rw [hg]; exact (below_size zB) : w.heap.size ≤ gb340)); have n6_ := Aside0.mk ((by rw [hg]; exact Nat.ne_of_lt (blk_lt (g := gb331) (o := .cells #[.slice (some ad339) l0_0.length c0_0, .slice A0_1 l0_1.length c0_1] 29 (0, 0)) (zk BK331)) : gb331 ≠ gb340)); have n7_ := Aside0.mk ((by rw [hg]; exact Nat.ne_of_gt (blk_lt (g := gb331) (o := .cells #[.slice (some ad339) l0_0.length c0_0, .slice A0_1 l0_1.length c0_1] 29 (0, 0)) (zk BK331)) : gb340 ≠ gb331)); have n8_ := Aside0.mk ((by rw [hg]; exact Nat.ne_of_lt (blk_lt (g := gb332) (o := .cells #[.slice none 0 0, .slice none 0 0] 29 (0, 0)) (zk BK332)) : gb332 ≠ gb340)); have n9_ := Aside0.mk ((by rw [hg]; exact Nat.ne_of_gt (blk_lt (g := gb332) (o := .cells #[.slice none 0 0, .slice none 0 0] 29 (0, 0)) (zk BK332)) : gb340 ≠ gb332)); clear BK331; clear BK332; clear HB; have BK331 := n0_; have BK332 := n1_; have HB := n2_; have BK340 := n3_; have GW340 := n4_; have GE340 := n5_; have NB331_340 := n6_; have NB340_331 := n7_; have NB332_340 := n8_; have NB340_332 := n9_; clear n0_ n1_ n2_ n3_ n4_ n5_ n6_ n7_ n8_ n9_; clear hb hbox hg; have hnb16 := NB340_331.out; have hnc16 := NB331_340.out; have hnb17 := NB340_332.out; have hnc17 := NB332_340.out; have hcz18_0 : w15.cell? ⟨gb340, 0, none⟩ = some (.int .i64 0) := (blk_cell BK340.out 0).trans rfl; have hfz18_0 := blk_frozen BK340.out 0; have hnb19 := NB331_332.out; have hnc19 := NB332_331.out; have hcz20_0 : w15.cell? ⟨gb331, 0, none⟩ = some (.slice (some ad339) l0_0.length c0_0) := (blk_cell BK331.out 0).trans rfl; have hcz20_1 : w15.cell? ⟨gb331, 1, none⟩ = some (.slice A0_1 l0_1.length c0_1) := (blk_cell BK331.out 1).trans rfl; have hfz20_0 := blk_frozen BK331.out 0; have hfz20_1 := blk_frozen BK331.out 1) | ((with_reducible refine gate_callee (f := 60) rfl ?_); refine goesL_ (some 17) rfl rfl Try.func60 zK rfl #[.slice (some ad339) l0_0.length c0_0, .int .i64 (rd l0_0 x10_1)] rfl zM ?_; (with_reducible refine (table_without.calls _ _ l0_0 (rd l0_0 x10_1) t341 _ ?side1 ?side2 A9.out).mono ?_); (case side1 => exact Kd.C_below HR0_0.out zB); (case side2 => exact HC0_0.out); rintro e w21 ⟨v342, rfl, ho0, hb⟩; refine ⟨_, rfl, ?_⟩; have n0_ := Aside0.mk (Kd.R_lower (Kd.R_newB ho0 (g := gb340) (o := .cells #[.int .i64 (rd l0_0 x10_1)] 3 (0, 0)) (by (with_reducible repeat (first | refine blk_drewN ?_ _ | refine blk_drew ?_ | refine blk_alloc ?_ _)); refine blk_put (cs := #[.int .i64 0]) ?_ 0 _ rfl; (with_reducible repeat (first | refine blk_drewN ?_ _ | refine blk_drew ?_ | refine blk_alloc ?_ _)); exact BK340.out)) (below_size zB)); have n1_ := Aside0.mk (blk_below (g := gb331) (o := .cells #[.slice (some ad339) l0_0.length c0_0, .slice A0_1 l0_1.length c0_1] 29 (0, 0)) (by (with_reducible repeat (first | refine blk_drewN ?_ _ | refine blk_drew ?_ | refine blk_alloc ?_ _)); refine blk_far ?_ NB331_340.out _; (with_reducible repeat (first | refine blk_drewN ?_ _ | refine blk_drew ?_ | refine blk_alloc ?_ _)); exact BK331.out) hb); have n2_ := Aside0.mk (blk_below (g := gb332) (o := .cells #[.slice none 0 0, .slice none 0 0] 29 (0, 0)) (by (with_reducible repeat (first | refine blk_drewN ?_ _ | refine blk_drew ?_ | refine blk_alloc ?_ _)); refine blk_far ?_ NB332_340.out _; (with_reducible repeat (first | refine blk_drewN ?_ _ | refine blk_drew ?_ | refine blk_alloc ?_ _)); exact BK332.out) hb); have n3_ := Aside0.mk (blk_below (g := gb340) (o := .cells #[.int .i64 (rd l0_0 x10_1)] 3 (0, 0)) (by (with_reducible repeat (first | refine blk_drewN ?_ _ | refine blk_drew ?_ | refine blk_alloc ?_ _)); refine blk_put (cs := #[.int .i64 0]) ?_ 0 _ rfl; (with_reducible repeat (first | refine blk_drewN ?_ _ | refine blk_drew ?_ | refine blk_alloc ?_ _)); exact BK340.out) hb); have n4_ := Aside0.mk (below_step zB hb); clear BK331; clear BK332; clear BK340; clear HB; have HO343 := n0_; have BK331 := n1_; have BK332 := n2_; have BK340 := n3_; have HB := n4_; clear n0_ n1_ n2_ n3_ n4_; (try clear hb); (try clear hb2); (try clear hk); (try clear hi); (try clear ho0); obtain ⟨Ao22, co22, eo22⟩ := Kd.R_slice HO343.out; subst eo22) | ((with_reducible refine gate_callee (f := 59) rfl ?_); refine goesL_ (some 19) rfl rfl Try.func59 zK rfl #[.slice Ao22 t341.length co22, .func (.func 75) #[] #[.pointer (some ⟨gb331, 0, none⟩)]] rfl zM ?_; (with_reducible refine (table_over_table_vital_1.calls k1 _ _ t341 gb331 (some ad339) c0_0 l0_0 A0_1 c0_1 l0_1 t344 t347 _ ?side1 ?side2 ?side3 ?side4 ?side5 ?side6 ?side7 A10.out).mono ?_); (case side1 => repeat (first | exact (Kd.R_reads' HO343.out).2.2 | (with_reducible refine Kd.C_alloc ?_ _) | (with_reducible refine Kd.C_drewN ?_ _) | (with_reducible refine Kd.C_drew ?_))); (case side2 => exact (Kd.R_reads' HO343.out).2.1); (case side3 => repeat (first | exact (Kd.C_below HR0_0.out HB.out) | (with_reducible refine Kd.C_alloc ?_ _) | (with_reducible refine Kd.C_drewN ?_ _) | (with_reducible refine Kd.C_drew ?_))); (case side4 => exact HC0_0.out); (case side5 => repeat (first | exact (Kd.C_below HR0_1.out HB.out) | (with_reducible refine Kd.C_alloc ?_ _) | (with_reducible refine Kd.C_drewN ?_ _) | (with_reducible refine Kd.C_drew ?_))); (case side6 => exact HC0_1.out); (case side7 => (with_reducible repeat (first | refine blk_drewN ?_ _ | refine blk_drew ?_ | refine blk_alloc ?_ _)); exact BK331.out); rintro e w23 ⟨v345, v348, rfl, ho0, ho1, hb⟩; refine ⟨_, rfl, ?_⟩; have n0_ := Aside0.mk (Kd.R_mono (Kd.R_told (Kd.R_told (Kd.R_old (zR HO343) hb) (Kd.R_base ho0)) (Kd.R_base ho1)) (fun _ h_ => h_.1)); have n1_ := Aside0.mk (Kd.R_lower (Kd.R_newB (Kd.R_new' ho0 (Kd.R_lt (zR HO343))) (g := gb340) (o := .cells #[.int .i64 (rd l0_0 x10_1)] 3 (0, 0)) (zk BK340)) (below_size zB)); have n2_ := Aside0.mk (Kd.R_lower (Kd.R_newB (Kd.R_new' ho1 (Kd.R_lt (zR HO343))) (g := gb340) (o := .cells #[.int .i64 (rd l0_0 x10_1)] 3 (0, 0)) (zk BK340)) (below_size zB)); have n3_ := Aside0.mk (blk_below (g := gb331) (o := .cells #[.slice (some ad339) l0_0.length c0_0, .slice A0_1 l0_1.length c0_1] 29 (0, 0)) (zk BK331) hb); have n4_ := Aside0.mk (blk_below (g := gb332) (o := .cells #[.slice none 0 0, .slice none 0 0] 29 (0, 0)) (zk BK332) hb); have n5_ := Aside0.mk (blk_below (g := gb340) (o := .cells #[.int .i64 (rd l0_0 x10_1)] 3 (0, 0)) (zk BK340) hb); have n6_ := Aside0.mk (below_step zB hb); clear HO343; clear BK331; clear BK332; clear BK340; clear HB; have HO343 := n0_; have HO346 := n1_; have HO349 := n2_; have BK331 := n3_; have BK332 := n4_; have BK340 := n5_; have HB := n6_; clear n0_ n1_ n2_ n3_ n4_ n5_ n6_; (try clear hb); (try clear hb2); (try clear hk); (try clear hi); (try clear ho0); (try clear ho1)) | ((with_reducible refine gate_dst (N := 5) rfl ?_); refine box_event ?hg (N := 5) ?hd (cs := #[.slice none 0 0, .slice none 0 0]) (t := 29) ?hr ?_; (case hd => rfl); (case hg => rfl); (case hr => first | (go_simp; done) | (go_simp; rfl)); intro gb350 hg w24 hbox hb; have n0_ := Aside0.mk (Kd.R_below (zR HO343) hb); have n1_ := Aside0.mk (Kd.R_below (zR HO346) hb); have n2_ := Aside0.mk (Kd.R_below (zR HO349) hb); have n3_ := Aside0.mk (blk_below (g := gb331) (o := .cells #[.slice (some ad339) l0_0.length c0_0, .slice A0_1 l0_1.length c0_1] 29 (0, 0)) (zk BK331) hb); have n4_ := Aside0.mk (blk_below (g := gb332) (o := .cells #[.slice none 0 0, .slice none 0 0] 29 (0, 0)) (zk BK332) hb); have n5_ := Aside0.mk (blk_below (g := gb340) (o := .cells #[.int .i64 (rd l0_0 x10_1)] 3 (0, 0)) (zk BK340) hb); have n6_ := Aside0.mk (below_step zB hb); have n7_ := Aside0.mk (hbox); have n8_ := Aside0.mk ((by rw [hg]; exact (below_size zB) : w.heap.size ≤ gb350)); have n9_ := Aside0.mk ((by rw [hg]; exact (below_size zB) : w.heap.size ≤ gb350)); have n10_ := Aside0.mk ((by rw [hg]; exact Nat.ne_of_lt (blk_lt (g := gb331) (o := .cells #[.slice (some ad339) l0_0.length c0_0, .slice A0_1 l0_1.length c0_1] 29 (0, 0)) (zk BK331)) : gb331 ≠ gb350)); have n11_ := Aside0.mk ((by rw [hg]; exact Nat.ne_of_gt (blk_lt (g := gb331) (o := .cells #[.slice (some ad339) l0_0.length c0_0, .slice A0_1 l0_1.length c0_1] 29 (0, 0)) (zk BK331)) : gb350 ≠ gb331)); have n12_ := Aside0.mk ((by rw [hg]; exact Nat.ne_of_lt (blk_lt (g := gb332) (o := .cells #[.slice none 0 0, .slice none 0 0] 29 (0, 0)) (zk BK332)) : gb332 ≠ gb350)); have n13_ := Aside0.mk ((by rw [hg]; exact Nat.ne_of_gt (blk_lt (g := gb332) (o := .cells #[.slice none 0 0, .slice none 0 0] 29 (0, 0)) (zk BK332)) : gb350 ≠ gb332)); have n14_ := Aside0.mk ((by rw [hg]; exact Nat.ne_of_lt (blk_lt (g := gb340) (o := .cells #[.int .i64 (rd l0_0 x10_1)] 3 (0, 0)) (zk BK340)) : gb340 ≠ gb350)); have n15_ := Aside0.mk ((by rw [hg]; exact Nat.ne_of_gt (blk_lt (g := gb340) (o := .cells #[.int .i64 (rd l0_0 x10_1)] 3 (0, 0)) (zk BK340)) : gb350 ≠ gb340)); clear HO343; clear HO346; clear HO349; clear BK331; clear BK332; clear BK340; clear HB; have HO343 := n0_; have HO346 := n1_; have HO349 := n2_; have BK331 := n3_; have BK332 := n4_; have BK340 := n5_; have HB := n6_; have BK350 := n7_; have GW350 := n8_; have GE350 := n9_; have NB331_350 := n10_; have NB350_331 := n11_; have NB332_350 := n12_; have NB350_332 := n13_; have NB340_350 := n14_; have NB350_340 := n15_; clear n0_ n1_ n2_ n3_ n4_ n5_ n6_ n7_ n8_ n9_ n10_ n11_ n12_ n13_ n14_ n15_; clear hb hbox hg; obtain ⟨Ao25, co25, eo25⟩ := Kd.R_slice HO346.out; subst eo25; have hnb26 := NB350_331.out; have hnc26 := NB331_350.out; have hnb27 := NB350_332.out; have hnc27 := NB332_350.out; have hnb28 := NB350_340.out; have hnc28 := NB340_350.out; have hcz29_0 : w24.cell? ⟨gb350, 0, none⟩ = some (.slice none 0 0) := (blk_cell BK350.out 0).trans rfl; have hcz29_1 : w24.cell? ⟨gb350, 1, none⟩ = some (.slice none 0 0) := (blk_cell BK350.out 1).trans rfl; have hfz29_0 := blk_frozen BK350.out 0; have hfz29_1 := blk_frozen BK350.out 1; obtain ⟨Ao30, co30, eo30⟩ := Kd.R_slice HO349.out; subst eo30; have hcz31_0 : w24.cell? ⟨gb331, 0, none⟩ = some (.slice (some ad339) l0_0.length c0_0) := (blk_cell BK331.out 0).trans rfl; have hcz31_1 : w24.cell? ⟨gb331, 1, none⟩ = some (.slice A0_1 l0_1.length c0_1) := (blk_cell BK331.out 1).trans rfl; have hfz31_0 := blk_frozen BK331.out 0; have hfz31_1 := blk_frozen BK331.out 1; have hcz32_0 : w24.cell? ⟨gb340, 0, none⟩ = some (.int .i64 (rd l0_0 x10_1)) := (blk_cell BK340.out 0).trans rfl; have hfz32_0 := blk_frozen BK340.out 0) | ((with_reducible refine gate_callee (f := 60) rfl ?_); refine goesL_ (some 23) rfl rfl Try.func60 zK rfl #[.slice (some ad339) l0_0.length c0_0, .int .i64 (rd l0_0 x10_1)] rfl zM ?_; (with_reducible refine (table_without.calls _ _ l0_0 (rd l0_0 x10_1) t351 _ ?side1 ?side2 A11.out).mono ?_); (case side1 => exact Kd.C_below HR0_0.out zB); (case side2 => exact HC0_0.out); rintro e w33 ⟨v352, rfl, ho0, hb⟩; refine ⟨_, rfl, ?_⟩; have n0_ := Aside0.mk (Kd.R_elder' (by (with_reducible repeat (first | apply Kd.R_alloc | apply Kd.R_drewN | apply Kd.R_drew)); exact (Kd.R_mono (Kd.R_far (p := ⟨gb350, 1, none⟩) (Kd.R_far (p := ⟨gb350, 0, none⟩) (Kd.R_types HO343.out BK350.out (by decide)) (fun _ hk => hk.2) (.slice Ao25 t344.length co25)) (fun _ hk => hk.2) (.slice Ao30 t347.length co30)) (fun _ h_ => h_.1))) (Kd.R_base ho0) hb); have n1_ := Aside0.mk (Kd.R_elder' (by (with_reducible repeat (first | apply Kd.R_alloc | apply Kd.R_drewN | apply Kd.R_drew)); exact (Kd.R_mono (Kd.R_far (p := ⟨gb350, 1, none⟩) (Kd.R_far (p := ⟨gb350, 0, none⟩) (Kd.R_types HO346.out BK350.out (by decide)) (fun _ hk => hk.2) (.slice Ao25 t344.length co25)) (fun _ hk => hk.2) (.slice Ao30 t347.length co30)) (fun _ h_ => h_.1))) (Kd.R_base ho0) hb); have n2_ := Aside0.mk (Kd.R_elder' (by (with_reducible repeat (first | apply Kd.R_alloc | apply Kd.R_drewN | apply Kd.R_drew)); exact (Kd.R_mono (Kd.R_far (p := ⟨gb350, 1, none⟩) (Kd.R_far (p := ⟨gb350, 0, none⟩) (Kd.R_types HO349.out BK350.out (by decide)) (fun _ hk => hk.2) (.slice Ao25 t344.length co25)) (fun _ hk => hk.2) (.slice Ao30 t347.length co30)) (fun _ h_ => h_.1))) (Kd.R_base ho0) hb); have n3_ := Aside0.mk (Kd.R_lower (Kd.R_newB (Kd.R_new' (Kd.R_new' (Kd.R_new' ho0 (Kd.R_lt (by (with_reducible repeat (first | apply Kd.R_alloc | apply Kd.R_drewN | apply Kd.R_drew)); exact (Kd.R_mono (Kd.R_far (p := ⟨gb350, 1, none⟩) (Kd.R_far (p := ⟨gb350, 0, none⟩) (Kd.R_types HO343.out BK350.out (by decide)) (fun _ hk => hk.2) (.slice Ao25 t344.length co25)) (fun _ hk => hk.2) (.slice Ao30 t347.length co30)) (fun _ h_ => h_.1))))) (Kd.R_lt (by (with_reducible repeat (first | apply Kd.R_alloc | apply Kd.R_drewN | apply Kd.R_drew)); exact (Kd.R_mono (Kd.R_far (p := ⟨gb350, 1, none⟩) (Kd.R_far (p := ⟨gb350, 0, none⟩) (Kd.R_types HO346.out BK350.out (by decide)) (fun _ hk => hk.2) (.slice Ao25 t344.length co25)) (fun _ hk => hk.2) (.slice Ao30 t347.length co30)) (fun _ h_ => h_.1))))) (Kd.R_lt (by (with_reducible repeat (first | apply Kd.R_alloc | apply Kd.R_drewN | apply Kd.R_drew)); exact (Kd.R_mono (Kd.R_far (p := ⟨gb350, 1, none⟩) (Kd.R_far (p := ⟨gb350, 0, none⟩) (Kd.R_types HO349.out BK350.out (by decide)) (fun _ hk => hk.2) (.slice Ao25 t344.length co25)) (fun _ hk => hk.2) (.slice Ao30 t347.length co30)) (fun _ h_ => h_.1))))) (g := gb340) (o := .cells #[.int .i64 (rd l0_0 x10_1)] 3 (0, 0)) (by (with_reducible repeat (first | refine blk_drewN ?_ _ | refine blk_drew ?_ | refine blk_alloc ?_ _)); refine blk_far ?_ NB340_350.out _; (with_reducible repeat (first | refine blk_drewN ?_ _ | refine blk_drew ?_ | refine blk_alloc ?_ _)); refine blk_far ?_ NB340_350.out _; (with_reducible repeat (first | refine blk_drewN ?_ _ | refine blk_drew ?_ | refine blk_alloc ?_ _)); exact BK340.out)) (below_size zB)); have n4_ := Aside0.mk (blk_below (g := gb331) (o := .cells #[.slice (some ad339) l0_0.length c0_0, .slice A0_1 l0_1.length c0_1] 29 (0, 0)) (by (with_reducible repeat (first | refine blk_drewN ?_ _ | refine blk_drew ?_ | refine blk_alloc ?_ _)); refine blk_far ?_ NB331_350.out _; (with_reducible repeat (first | refine blk_drewN ?_ _ | refine blk_drew ?_ | refine blk_alloc ?_ _)); refine blk_far ?_ NB331_350.out _; (with_reducible repeat (first | refine blk_drewN ?_ _ | refine blk_drew ?_ | refine blk_alloc ?_ _)); exact BK331.out) hb); have n5_ := Aside0.mk (blk_below (g := gb332) (o := .cells #[.slice none 0 0, .slice none 0 0] 29 (0, 0)) (by (with_reducible repeat (first | refine blk_drewN ?_ _ | refine blk_drew ?_ | refine blk_alloc ?_ _)); refine blk_far ?_ NB332_350.out _; (with_reducible repeat (first | refine blk_drewN ?_ _ | refine blk_drew ?_ | refine blk_alloc ?_ _)); refine blk_far ?_ NB332_350.out _; (with_reducible repeat (first | refine blk_drewN ?_ _ | refine blk_drew ?_ | refine blk_alloc ?_ _)); exact BK332.out) hb); have n6_ := Aside0.mk (blk_below (g := gb340) (o := .cells #[.int .i64 (rd l0_0 x10_1)] 3 (0, 0)) (by (with_reducible repeat (first | refine blk_drewN ?_ _ | refine blk_drew ?_ | refine blk_alloc ?_ _)); refine blk_far ?_ NB340_350.out _; (with_reducible repeat (first | refine blk_drewN ?_ _ | refine blk_drew ?_ | refine blk_alloc ?_ _)); refine blk_far ?_ NB340_350.out _; (with_reducible repeat (first | refine blk_drewN ?_ _ | refine blk_drew ?_ | refine blk_alloc ?_ _)); exact BK340.out) hb); have n7_ := Aside0.mk (blk_below (g := gb350) (o := .cells #[.slice Ao25 t344.length co25, .slice Ao30 t347.length co30] 29 (0, 0)) (by (with_reducible repeat (first | refine blk_drewN ?_ _ | refine blk_drew ?_ | refine blk_alloc ?_ _)); refine blk_put (cs := #[.slice Ao25 t344.length co25, .slice none 0 0]) ?_ 1 _ rfl; (with_reducible repeat (first | refine blk_drewN ?_ _ | refine blk_drew ?_ | refine blk_alloc ?_ _)); refine blk_put (cs := #[.slice none 0 0, .slice none 0 0]) ?_ 0 _ rfl; (with_reducible repeat (first | refine blk_drewN ?_ _ | refine blk_drew ?_ | refine blk_alloc ?_ _)); exact BK350.out) hb); have n8_ := Aside0.mk (below_step zB hb); clear HO343; clear HO346; clear HO349; clear BK331; clear BK332; clear BK340; clear BK350; clear HB; have HO343 := n0_; have HO346 := n1_; have HO349 := n2_; have HO353 := n3_; have BK331 := n4_; have BK332 := n5_; have BK340 := n6_; have BK350 := n7_; have HB := n8_; clear n0_ n1_ n2_ n3_ n4_ n5_ n6_ n7_ n8_; (try clear hb); (try clear hb2); (try clear hk); (try clear hi); (try clear ho0); obtain ⟨Ao34, co34, eo34⟩ := Kd.R_slice HO353.out; subst eo34) | ((with_reducible refine gate_callee (f := 59) rfl ?_); refine goesL_ (some 25) rfl rfl Try.func59 zK rfl #[.slice Ao34 t351.length co34, .func (.func 76) #[] #[.pointer (some ⟨gb331, 0, none⟩), .pointer (some ⟨gb340, 0, none⟩)]] rfl zM ?_; (with_reducible refine (table_over_table_vital_2.calls k1 _ _ t351 gb331 gb340 (some ad339) c0_0 l0_0 A0_1 c0_1 l0_1 (rd l0_0 x10_1) t354 t357 _ ?side1 ?side2 ?side3 ?side4 ?side5 ?side6 ?side7 ?side8 A12.out).mono ?_); (case side1 => repeat (first | exact (Kd.R_reads' HO353.out).2.2 | (with_reducible refine Kd.C_alloc ?_ _) | (with_reducible refine Kd.C_drewN ?_ _) | (with_reducible refine Kd.C_drew ?_))); (case side2 => exact (Kd.R_reads' HO353.out).2.1); (case side3 => repeat (first | exact (Kd.C_below HR0_0.out HB.out) | (with_reducible refine Kd.C_alloc ?_ _) | (with_reducible refine Kd.C_drewN ?_ _) | (with_reducible refine Kd.C_drew ?_))); (case side4 => exact HC0_0.out); (case side5 => repeat (first | exact (Kd.C_below HR0_1.out HB.out) | (with_reducible refine Kd.C_alloc ?_ _) | (with_reducible refine Kd.C_drewN ?_ _) | (with_reducible refine Kd.C_drew ?_))); (case side6 => exact HC0_1.out); (case side7 => (with_reducible repeat (first | refine blk_drewN ?_ _ | refine blk_drew ?_ | refine blk_alloc ?_ _)); exact BK331.out); (case side8 => (with_reducible repeat (first | refine blk_drewN ?_ _ | refine blk_drew ?_ | refine blk_alloc ?_ _)); exact BK340.out); rintro e w35 ⟨v355, v358, rfl, ho0, ho1, hb⟩; refine ⟨_, rfl, ?_⟩; have n0_ := Aside0.mk (Kd.R_mono (Kd.R_told (Kd.R_told (Kd.R_old (zR HO343) hb) (Kd.R_base ho0)) (Kd.R_base ho1)) (fun _ h_ => h_.1)); have n1_ := Aside0.mk (Kd.R_mono (Kd.R_told (Kd.R_told (Kd.R_old (zR HO346) hb) (Kd.R_base ho0)) (Kd.R_base ho1)) (fun _ h_ => h_.1)); have n2_ := Aside0.mk (Kd.R_mono (Kd.R_told (Kd.R_told (Kd.R_old (zR HO349) hb) (Kd.R_base ho0)) (Kd.R_base ho1)) (fun _ h_ => h_.1)); have n3_ := Aside0.mk (Kd.R_mono (Kd.R_told (Kd.R_told (Kd.R_old (zR HO353) hb) (Kd.R_base ho0)) (Kd.R_base ho1)) (fun _ h_ => h_.1)); have n4_ := Aside0.mk (Kd.R_lower (Kd.R_newB (Kd.R_new' (Kd.R_new' (Kd.R_new' (Kd.R_new' ho0 (Kd.R_lt (zR HO343))) (Kd.R_lt (zR HO346))) (Kd.R_lt (zR HO349))) (Kd.R_lt (zR HO353))) (g := gb340) (o := .cells #[.int .i64 (rd l0_0 x10_1)] 3 (0, 0)) (zk BK340)) (below_size zB)); have n5_ := Aside0.mk (Kd.R_lower (Kd.R_newB (Kd.R_new' (Kd.R_new' (Kd.R_new' (Kd.R_new' ho1 (Kd.R_lt (zR HO343))) (Kd.R_lt (zR HO346))) (Kd.R_lt (zR HO349))) (Kd.R_lt (zR HO353))) (g := gb340) (o := .cells #[.int .i64 (rd l0_0 x10_1)] 3 (0, 0)) (zk BK340)) (below_size zB)); have n6_ := Aside0.mk (blk_below (g := gb331) (o := .cells #[.slice (some ad339) l0_0.length c0_0, .slice A0_1 l0_1.length c0_1] 29 (0, 0)) (zk BK331) hb); have n7_ := Aside0.mk (blk_below (g := gb332) (o := .cells #[.slice none 0 0, .slice none 0 0] 29 (0, 0)) (zk BK332) hb); have n8_ := Aside0.mk (blk_below (g := gb340) (o := .cells #[.int .i64 (rd l0_0 x10_1)] 3 (0, 0)) (zk BK340) hb); have n9_ := Aside0.mk (blk_below (g := gb350) (o := .cells #[.slice Ao25 t344.length co25, .slice Ao30 t347.length co30] 29 (0, 0)) (zk BK350) hb); have n10_ := Aside0.mk (below_step zB hb); clear HO343; clear HO346; clear HO349; clear HO353; clear BK331; clear BK332; clear BK340; clear BK350; clear HB; have HO343 := n0_; have HO346 := n1_; have HO349 := n2_; have HO353 := n3_; have HO356 := n4_; have HO359 := n5_; have BK331 := n6_; have BK332 := n7_; have BK340 := n8_; have BK350 := n9_; have HB := n10_; clear n0_ n1_ n2_ n3_ n4_ n5_ n6_ n7_ n8_ n9_ n10_; (try clear hb); (try clear hb2); (try clear hk); (try clear hi); (try clear ho0); (try clear ho1)) | ((with_reducible refine gate_dst (N := 6) rfl ?_); refine box_event ?hg (N := 6) ?hd (cs := #[.slice none 0 0, .slice none 0 0]) (t := 29) ?hr ?_; (case hd => rfl); (case hg => rfl); (case hr => first | (go_simp; done) | (go_simp; rfl)); intro gb360 hg w36 hbox hb; have n0_ := Aside0.mk (Kd.R_below (zR HO343) hb); have n1_ := Aside0.mk (Kd.R_below (zR HO346) hb); have n2_ := Aside0.mk (Kd.R_below (zR HO349) hb); have n3_ := Aside0.mk (Kd.R_below (zR HO353) hb); have n4_ := Aside0.mk (Kd.R_below (zR HO356) hb); have n5_ := Aside0.mk (Kd.R_below (zR HO359) hb); have n6_ := Aside0.mk (blk_below (g := gb331) (o := .cells #[.slice (some ad339) l0_0.length c0_0, .slice A0_1 l0_1.length c0_1] 29 (0, 0)) (zk BK331) hb); have n7_ := Aside0.mk (blk_below (g := gb332) (o := .cells #[.slice none 0 0, .slice none 0 0] 29 (0, 0)) (zk BK332) hb); have n8_ := Aside0.mk (blk_below (g := gb340) (o := .cells #[.int .i64 (rd l0_0 x10_1)] 3 (0, 0)) (zk BK340) hb); have n9_ := Aside0.mk (blk_below (g := gb350) (o := .cells #[.slice Ao25 t344.length co25, .slice Ao30 t347.length co30] 29 (0, 0)) (zk BK350) hb); have n10_ := Aside0.mk (below_step zB hb); have n11_ := Aside0.mk (hbox); have n12_ := Aside0.mk ((by rw [hg]; exact (below_size zB) : w.heap.size ≤ gb360)); have n13_ := Aside0.mk ((by rw [hg]; exact (below_size zB) : w.heap.size ≤ gb360)); have n14_ := Aside0.mk ((by rw [hg]; exact Nat.ne_of_lt (blk_lt (g := gb331) (o := .cells #[.slice (some ad339) l0_0.length c0_0, .slice A0_1 l0_1.length c0_1] 29 (0, 0)) (zk BK331)) : gb331 ≠ gb360)); have n15_ := Aside0.mk ((by rw [hg]; exact Nat.ne_of_gt (blk_lt (g := gb331) (o := .cells #[.slice (some ad339) l0_0.length c0_0, .slice A0_1 l0_1.length c0_1] 29 (0, 0)) (zk BK331)) : gb360 ≠ gb331)); have n16_ := Aside0.mk ((by rw [hg]; exact Nat.ne_of_lt (blk_lt (g := gb332) (o := .cells #[.slice none 0 0, .slice none 0 0] 29 (0, 0)) (zk BK332)) : gb332 ≠ gb360)); have n17_ := Aside0.mk ((by rw [hg]; exact Nat.ne_of_gt (blk_lt (g := gb332) (o := .cells #[.slice none 0 0, .slice none 0 0] 29 (0, 0)) (zk BK332)) : gb360 ≠ gb332)); have n18_ := Aside0.mk ((by rw [hg]; exact Nat.ne_of_lt (blk_lt (g := gb340) (o := .cells #[.int .i64 (rd l0_0 x10_1)] 3 (0, 0)) (zk BK340)) : gb340 ≠ gb360)); have n19_ := Aside0.mk ((by rw [hg]; exact Nat.ne_of_gt (blk_lt (g := gb340) (o := .cells #[.int .i64 (rd l0_0 x10_1)] 3 (0, 0)) (zk BK340)) : gb360 ≠ gb340)); have n20_ := Aside0.mk ((by rw [hg]; exact Nat.ne_of_lt (blk_lt (g := gb350) (o := .cells #[.slice Ao25 t344.length co25, .slice Ao30 t347.length co30] 29 (0, 0)) (zk BK350)) : gb350 ≠ gb360)); have n21_ := Aside0.mk ((by rw [hg]; exact Nat.ne_of_gt (blk_lt (g := gb350) (o := .cells #[.slice Ao25 t344.length co25, .slice Ao30 t347.length co30] 29 (0, 0)) (zk BK350)) : gb360 ≠ gb350)); clear HO343; clear HO346; clear HO349; clear HO353; clear HO356; clear HO359; clear BK331; clear BK332; clear BK340; clear BK350; clear HB; have HO343 := n0_; have HO346 := n1_; have HO349 := n2_; have HO353 := n3_; have HO356 := n4_; have HO359 := n5_; have BK331 := n6_; have BK332 := n7_; have BK340 := n8_; have BK350 := n9_; have HB := n10_; have BK360 := n11_; have GW360 := n12_; have GE360 := n13_; have NB331_360 := n14_; have NB360_331 := n15_; have NB332_360 := n16_; have NB360_332 := n17_; have NB340_360 := n18_; have NB360_340 := n19_; have NB350_360 := n20_; have NB360_350 := n21_; clear n0_ n1_ n2_ n3_ n4_ n5_ n6_ n7_ n8_ n9_ n10_ n11_ n12_ n13_ n14_ n15_ n16_ n17_ n18_ n19_ n20_ n21_; clear hb hbox hg; obtain ⟨Ao37, co37, eo37⟩ := Kd.R_slice HO356.out; subst eo37; have hnb38 := NB360_331.out; have hnc38 := NB331_360.out; have hnb39 := NB360_332.out; have hnc39 := NB332_360.out; have hnb40 := NB360_340.out; have hnc40 := NB340_360.out; have hnb41 := NB360_350.out; have hnc41 := NB350_360.out; have hcz42_0 : w36.cell? ⟨gb360, 0, none⟩ = some (.slice none 0 0) := (blk_cell BK360.out 0).trans rfl; have hcz42_1 : w36.cell? ⟨gb360, 1, none⟩ = some (.slice none 0 0) := (blk_cell BK360.out 1).trans rfl; have hfz42_0 := blk_frozen BK360.out 0; have hfz42_1 := blk_frozen BK360.out 1; obtain ⟨Ao43, co43, eo43⟩ := Kd.R_slice HO359.out; subst eo43; have hcz44_0 : w36.cell? ⟨gb350, 0, none⟩ = some (.slice Ao25 t344.length co25) := (blk_cell BK350.out 0).trans rfl; have hcz44_1 : w36.cell? ⟨gb350, 1, none⟩ = some (.slice Ao30 t347.length co30) := (blk_cell BK350.out 1).trans rfl; have hfz44_0 := blk_frozen BK350.out 0; have hfz44_1 := blk_frozen BK350.out 1) | ((with_reducible refine gate_callee (f := 58) rfl ?_); refine goesL_ (some 30) rfl rfl Try.func58 zK rfl #[.slice Ao30 t347.length co30, .slice Ao43 t357.length co43] rfl zM ?_; (with_reducible refine (slices_Equal_int_int.calls k1 _ _ t347 _ _ t357 t361 _ ?side1 ?side2 ?side3 ?side4 A13.out).mono ?_); (case side1 => refine (Kd.R_reads' (e := 3) (base := w.heap.size) (ok := fun k_ => (((((some k_ ≠ (.slice Ao25 t344.length co25 : Value).ownBlock ∧ some k_ ≠ (.slice Ao22 t341.length co22 : Value).ownBlock) ∧ k_ ≠ gb340) ∧ some k_ ≠ (.slice Ao34 t351.length co34 : Value).ownBlock) ∧ some k_ ≠ (.slice Ao37 t354.length co37 : Value).ownBlock) ∧ some k_ ≠ (.slice Ao43 t357.length co43 : Value).ownBlock)) (n := t347.length) (c := co30) ?_).2.2; exact (by (with_reducible repeat (first | apply Kd.R_alloc | apply Kd.R_drewN | apply Kd.R_drew)); exact (Kd.R_mono (Kd.R_far (p := ⟨gb360, 1, none⟩) (Kd.R_far (p := ⟨gb360, 0, none⟩) (Kd.R_types HO349.out BK360.out (by decide)) (fun _ hk => hk.2) (.slice Ao37 t354.length co37)) (fun _ hk => hk.2) (.slice Ao43 t357.length co43)) (fun _ h_ => h_.1)))); (case side2 => exact (Kd.R_reads' HO349.out).2.1); (case side3 => refine (Kd.R_reads' (e := 3) (base := w.heap.size) (ok := fun k_ => (((((some k_ ≠ (.slice Ao37 t354.length co37 : Value).ownBlock ∧ some k_ ≠ (.slice Ao22 t341.length co22 : Value).ownBlock) ∧ some k_ ≠ (.slice Ao25 t344.length co25 : Value).ownBlock) ∧ some k_ ≠ (.slice Ao30 t347.length co30 : Value).ownBlock) ∧ some k_ ≠ (.slice Ao34 t351.length co34 : Value).ownBlock) ∧ k_ ≠ gb340)) (n := t357.length) (c := co43) ?_).2.2; exact (by (with_reducible repeat (first | apply Kd.R_alloc | apply Kd.R_drewN | apply Kd.R_drew)); exact (Kd.R_mono (Kd.R_far (p := ⟨gb360, 1, none⟩) (Kd.R_far (p := ⟨gb360, 0, none⟩) (Kd.R_types HO359.out BK360.out (by decide)) (fun _ hk => hk.2) (.slice Ao37 t354.length co37)) (fun _ hk => hk.2) (.slice Ao43 t357.length co43)) (fun _ h_ => h_.1)))); (case side4 => exact (Kd.R_reads' HO359.out).2.1); rintro e w' ⟨rfl, ⟨nd, rfl⟩⟩; refine ⟨_, rfl, ?_⟩))
      (try simp only [Act.put, List.setIfInBounds_toArray, List.set_cons_zero, List.set_cons_succ])
      have H := HC14.out
      clear HC14
      by_cases c45 : t361 = true
      ·subst c45
       have H1 : ((table_vital.f k1 t344 t347).bind fun bt362 => (some (bt362.1, bt362.2))) = some (r1, r2) := by rw [if_pos rfl] at H; exact H
       clear H
       have H := H1
       clear H1
       replace H := Option.bind_eq_some_iff.mp H
       obtain ⟨⟨t362, t365⟩, A460, H⟩ := H
       replace H : (some (t362, t365)) = some (r1, r2) := H
       have A46 := Aside0.mk A460
       clear A460
       simp only [Option.some.injEq, Prod.mk.injEq] at H
       obtain ⟨rfl, rfl⟩ := H
       have hnb47 := NB350_331.out
       have hnc47 := NB331_350.out
       have hnb48 := NB350_332.out
       have hnc48 := NB332_350.out
       have hnb49 := NB350_340.out
       have hnc49 := NB340_350.out
       have hnb50 := NB350_360.out
       have hnc50 := NB360_350.out
       have hcz51_0 : w36.cell? ⟨gb350, 0, none⟩ = some (.slice Ao25 t344.length co25) := (blk_cell BK350.out 0).trans rfl
       have hcz51_1 : w36.cell? ⟨gb350, 1, none⟩ = some (.slice Ao30 t347.length co30) := (blk_cell BK350.out 1).trans rfl
       have hfz51_0 := blk_frozen BK350.out 0
       have hfz51_1 := blk_frozen BK350.out 1
       go_wp2_with (first | ((with_reducible refine gate_callee (f := 51) rfl ?_); refine goesL_ (some 32) rfl rfl Try.func51 zK rfl #[.agg #[.slice Ao25 t344.length co25, .slice Ao30 t347.length co30]] rfl zM ?_; (with_reducible refine (ih k1 (by have := HK1.out; omega) _ _ t344 _ _ t347 t362 t365 _ ?side1 ?side2 ?side3 ?side4 A46.out).mono ?_); (case side1 => refine (Kd.R_reads' (e := 3) (base := w.heap.size) (ok := fun k_ => (((((some k_ ≠ (.slice Ao30 t347.length co30 : Value).ownBlock ∧ some k_ ≠ (.slice Ao22 t341.length co22 : Value).ownBlock) ∧ k_ ≠ gb340) ∧ some k_ ≠ (.slice Ao34 t351.length co34 : Value).ownBlock) ∧ some k_ ≠ (.slice Ao37 t354.length co37 : Value).ownBlock) ∧ some k_ ≠ (.slice Ao43 t357.length co43 : Value).ownBlock)) (n := t344.length) (c := co25) ?_).2.2; exact (by (with_reducible repeat (first | apply Kd.R_alloc | apply Kd.R_drewN | apply Kd.R_drew)); exact (Kd.R_mono (Kd.R_far (p := ⟨gb360, 1, none⟩) (Kd.R_far (p := ⟨gb360, 0, none⟩) (Kd.R_types HO346.out BK360.out (by decide)) (fun _ hk => hk.2) (.slice Ao37 t354.length co37)) (fun _ hk => hk.2) (.slice Ao43 t357.length co43)) (fun _ h_ => h_.1)))); (case side2 => exact (Kd.R_reads' HO346.out).2.1); (case side3 => refine (Kd.R_reads' (e := 3) (base := w.heap.size) (ok := fun k_ => (((((some k_ ≠ (.slice Ao25 t344.length co25 : Value).ownBlock ∧ some k_ ≠ (.slice Ao22 t341.length co22 : Value).ownBlock) ∧ k_ ≠ gb340) ∧ some k_ ≠ (.slice Ao34 t351.length co34 : Value).ownBlock) ∧ some k_ ≠ (.slice Ao37 t354.length co37 : Value).ownBlock) ∧ some k_ ≠ (.slice Ao43 t357.length co43 : Value).ownBlock)) (n := t347.length) (c := co30) ?_).2.2; exact (by (with_reducible repeat (first | apply Kd.R_alloc | apply Kd.R_drewN | apply Kd.R_drew)); exact (Kd.R_mono (Kd.R_far (p := ⟨gb360, 1, none⟩) (Kd.R_far (p := ⟨gb360, 0, none⟩) (Kd.R_types HO349.out BK360.out (by decide)) (fun _ hk => hk.2) (.slice Ao37 t354.length co37)) (fun _ hk => hk.2) (.slice Ao43 t357.length co43)) (fun _ h_ => h_.1)))); (case side4 => exact (Kd.R_reads' HO349.out).2.1); rintro e w52 ⟨v363, v366, rfl, ho0, ho1, hb⟩; refine ⟨_, rfl, ?_⟩; have n0_ := Aside0.mk (Kd.R_mono (Kd.R_told (Kd.R_told (Kd.R_old (by (with_reducible repeat (first | apply Kd.R_alloc | apply Kd.R_drewN | apply Kd.R_drew)); exact (Kd.R_mono (Kd.R_far (p := ⟨gb360, 1, none⟩) (Kd.R_far (p := ⟨gb360, 0, none⟩) (Kd.R_types HO343.out BK360.out (by decide)) (fun _ hk => hk.2) (.slice Ao37 t354.length co37)) (fun _ hk => hk.2) (.slice Ao43 t357.length co43)) (fun _ h_ => h_.1))) hb) (Kd.R_base ho0)) (Kd.R_base ho1)) (fun _ h_ => h_.1)); have n1_ := Aside0.mk (Kd.R_mono (Kd.R_told (Kd.R_told (Kd.R_old (by (with_reducible repeat (first | apply Kd.R_alloc | apply Kd.R_drewN | apply Kd.R_drew)); exact (Kd.R_mono (Kd.R_far (p := ⟨gb360, 1, none⟩) (Kd.R_far (p := ⟨gb360, 0, none⟩) (Kd.R_types HO346.out BK360.out (by decide)) (fun _ hk => hk.2) (.slice Ao37 t354.length co37)) (fun _ hk => hk.2) (.slice Ao43 t357.length co43)) (fun _ h_ => h_.1))) hb) (Kd.R_base ho0)) (Kd.R_base ho1)) (fun _ h_ => h_.1)); have n2_ := Aside0.mk (Kd.R_mono (Kd.R_told (Kd.R_told (Kd.R_old (by (with_reducible repeat (first | apply Kd.R_alloc | apply Kd.R_drewN | apply Kd.R_drew)); exact (Kd.R_mono (Kd.R_far (p := ⟨gb360, 1, none⟩) (Kd.R_far (p := ⟨gb360, 0, none⟩) (Kd.R_types HO349.out BK360.out (by decide)) (fun _ hk => hk.2) (.slice Ao37 t354.length co37)) (fun _ hk => hk.2) (.slice Ao43 t357.length co43)) (fun _ h_ => h_.1))) hb) (Kd.R_base ho0)) (Kd.R_base ho1)) (fun _ h_ => h_.1)); have n3_ := Aside0.mk (Kd.R_mono (Kd.R_told (Kd.R_told (Kd.R_old (by (with_reducible repeat (first | apply Kd.R_alloc | apply Kd.R_drewN | apply Kd.R_drew)); exact (Kd.R_mono (Kd.R_far (p := ⟨gb360, 1, none⟩) (Kd.R_far (p := ⟨gb360, 0, none⟩) (Kd.R_types HO353.out BK360.out (by decide)) (fun _ hk => hk.2) (.slice Ao37 t354.length co37)) (fun _ hk => hk.2) (.slice Ao43 t357.length co43)) (fun _ h_ => h_.1))) hb) (Kd.R_base ho0)) (Kd.R_base ho1)) (fun _ h_ => h_.1)); have n4_ := Aside0.mk (Kd.R_mono (Kd.R_told (Kd.R_told (Kd.R_old (by (with_reducible repeat (first | apply Kd.R_alloc | apply Kd.R_drewN | apply Kd.R_drew)); exact (Kd.R_mono (Kd.R_far (p := ⟨gb360, 1, none⟩) (Kd.R_far (p := ⟨gb360, 0, none⟩) (Kd.R_types HO356.out BK360.out (by decide)) (fun _ hk => hk.2) (.slice Ao37 t354.length co37)) (fun _ hk => hk.2) (.slice Ao43 t357.length co43)) (fun _ h_ => h_.1))) hb) (Kd.R_base ho0)) (Kd.R_base ho1)) (fun _ h_ => h_.1)); have n5_ := Aside0.mk (Kd.R_mono (Kd.R_told (Kd.R_told (Kd.R_old (by (with_reducible repeat (first | apply Kd.R_alloc | apply Kd.R_drewN | apply Kd.R_drew)); exact (Kd.R_mono (Kd.R_far (p := ⟨gb360, 1, none⟩) (Kd.R_far (p := ⟨gb360, 0, none⟩) (Kd.R_types HO359.out BK360.out (by decide)) (fun _ hk => hk.2) (.slice Ao37 t354.length co37)) (fun _ hk => hk.2) (.slice Ao43 t357.length co43)) (fun _ h_ => h_.1))) hb) (Kd.R_base ho0)) (Kd.R_base ho1)) (fun _ h_ => h_.1)); have n6_ := Aside0.mk (Kd.R_lower (Kd.R_newB (Kd.R_new' (Kd.R_new' (Kd.R_new' (Kd.R_new' (Kd.R_new' (Kd.R_new' ho0 (Kd.R_lt (by (with_reducible repeat (first | apply Kd.R_alloc | apply Kd.R_drewN | apply Kd.R_drew)); exact (Kd.R_mono (Kd.R_far (p := ⟨gb360, 1, none⟩) (Kd.R_far (p := ⟨gb360, 0, none⟩) (Kd.R_types HO343.out BK360.out (by decide)) (fun _ hk => hk.2) (.slice Ao37 t354.length co37)) (fun _ hk => hk.2) (.slice Ao43 t357.length co43)) (fun _ h_ => h_.1))))) (Kd.R_lt (by (with_reducible repeat (first | apply Kd.R_alloc | apply Kd.R_drewN | apply Kd.R_drew)); exact (Kd.R_mono (Kd.R_far (p := ⟨gb360, 1, none⟩) (Kd.R_far (p := ⟨gb360, 0, none⟩) (Kd.R_types HO346.out BK360.out (by decide)) (fun _ hk => hk.2) (.slice Ao37 t354.length co37)) (fun _ hk => hk.2) (.slice Ao43 t357.length co43)) (fun _ h_ => h_.1))))) (Kd.R_lt (by (with_reducible repeat (first | apply Kd.R_alloc | apply Kd.R_drewN | apply Kd.R_drew)); exact (Kd.R_mono (Kd.R_far (p := ⟨gb360, 1, none⟩) (Kd.R_far (p := ⟨gb360, 0, none⟩) (Kd.R_types HO349.out BK360.out (by decide)) (fun _ hk => hk.2) (.slice Ao37 t354.length co37)) (fun _ hk => hk.2) (.slice Ao43 t357.length co43)) (fun _ h_ => h_.1))))) (Kd.R_lt (by (with_reducible repeat (first | apply Kd.R_alloc | apply Kd.R_drewN | apply Kd.R_drew)); exact (Kd.R_mono (Kd.R_far (p := ⟨gb360, 1, none⟩) (Kd.R_far (p := ⟨gb360, 0, none⟩) (Kd.R_types HO353.out BK360.out (by decide)) (fun _ hk => hk.2) (.slice Ao37 t354.length co37)) (fun _ hk => hk.2) (.slice Ao43 t357.length co43)) (fun _ h_ => h_.1))))) (Kd.R_lt (by (with_reducible repeat (first | apply Kd.R_alloc | apply Kd.R_drewN | apply Kd.R_drew)); exact (Kd.R_mono (Kd.R_far (p := ⟨gb360, 1, none⟩) (Kd.R_far (p := ⟨gb360, 0, none⟩) (Kd.R_types HO356.out BK360.out (by decide)) (fun _ hk => hk.2) (.slice Ao37 t354.length co37)) (fun _ hk => hk.2) (.slice Ao43 t357.length co43)) (fun _ h_ => h_.1))))) (Kd.R_lt (by (with_reducible repeat (first | apply Kd.R_alloc | apply Kd.R_drewN | apply Kd.R_drew)); exact (Kd.R_mono (Kd.R_far (p := ⟨gb360, 1, none⟩) (Kd.R_far (p := ⟨gb360, 0, none⟩) (Kd.R_types HO359.out BK360.out (by decide)) (fun _ hk => hk.2) (.slice Ao37 t354.length co37)) (fun _ hk => hk.2) (.slice Ao43 t357.length co43)) (fun _ h_ => h_.1))))) (g := gb340) (o := .cells #[.int .i64 (rd l0_0 x10_1)] 3 (0, 0)) (by (with_reducible repeat (first | refine blk_drewN ?_ _ | refine blk_drew ?_ | refine blk_alloc ?_ _)); refine blk_far ?_ NB340_360.out _; (with_reducible repeat (first | refine blk_drewN ?_ _ | refine blk_drew ?_ | refine blk_alloc ?_ _)); refine blk_far ?_ NB340_360.out _; (with_reducible repeat (first | refine blk_drewN ?_ _ | refine blk_drew ?_ | refine blk_alloc ?_ _)); exact BK340.out)) (below_size zB)); have n7_ := Aside0.mk (Kd.R_lower (Kd.R_newB (Kd.R_new' (Kd.R_new' (Kd.R_new' (Kd.R_new' (Kd.R_new' (Kd.R_new' ho1 (Kd.R_lt (by (with_reducible repeat (first | apply Kd.R_alloc | apply Kd.R_drewN | apply Kd.R_drew)); exact (Kd.R_mono (Kd.R_far (p := ⟨gb360, 1, none⟩) (Kd.R_far (p := ⟨gb360, 0, none⟩) (Kd.R_types HO343.out BK360.out (by decide)) (fun _ hk => hk.2) (.slice Ao37 t354.length co37)) (fun _ hk => hk.2) (.slice Ao43 t357.length co43)) (fun _ h_ => h_.1))))) (Kd.R_lt (by (with_reducible repeat (first | apply Kd.R_alloc | apply Kd.R_drewN | apply Kd.R_drew)); exact (Kd.R_mono (Kd.R_far (p := ⟨gb360, 1, none⟩) (Kd.R_far (p := ⟨gb360, 0, none⟩) (Kd.R_types HO346.out BK360.out (by decide)) (fun _ hk => hk.2) (.slice Ao37 t354.length co37)) (fun _ hk => hk.2) (.slice Ao43 t357.length co43)) (fun _ h_ => h_.1))))) (Kd.R_lt (by (with_reducible repeat (first | apply Kd.R_alloc | apply Kd.R_drewN | apply Kd.R_drew)); exact (Kd.R_mono (Kd.R_far (p := ⟨gb360, 1, none⟩) (Kd.R_far (p := ⟨gb360, 0, none⟩) (Kd.R_types HO349.out BK360.out (by decide)) (fun _ hk => hk.2) (.slice Ao37 t354.length co37)) (fun _ hk => hk.2) (.slice Ao43 t357.length co43)) (fun _ h_ => h_.1))))) (Kd.R_lt (by (with_reducible repeat (first | apply Kd.R_alloc | apply Kd.R_drewN | apply Kd.R_drew)); exact (Kd.R_mono (Kd.R_far (p := ⟨gb360, 1, none⟩) (Kd.R_far (p := ⟨gb360, 0, none⟩) (Kd.R_types HO353.out BK360.out (by decide)) (fun _ hk => hk.2) (.slice Ao37 t354.length co37)) (fun _ hk => hk.2) (.slice Ao43 t357.length co43)) (fun _ h_ => h_.1))))) (Kd.R_lt (by (with_reducible repeat (first | apply Kd.R_alloc | apply Kd.R_drewN | apply Kd.R_drew)); exact (Kd.R_mono (Kd.R_far (p := ⟨gb360, 1, none⟩) (Kd.R_far (p := ⟨gb360, 0, none⟩) (Kd.R_types HO356.out BK360.out (by decide)) (fun _ hk => hk.2) (.slice Ao37 t354.length co37)) (fun _ hk => hk.2) (.slice Ao43 t357.length co43)) (fun _ h_ => h_.1))))) (Kd.R_lt (by (with_reducible repeat (first | apply Kd.R_alloc | apply Kd.R_drewN | apply Kd.R_drew)); exact (Kd.R_mono (Kd.R_far (p := ⟨gb360, 1, none⟩) (Kd.R_far (p := ⟨gb360, 0, none⟩) (Kd.R_types HO359.out BK360.out (by decide)) (fun _ hk => hk.2) (.slice Ao37 t354.length co37)) (fun _ hk => hk.2) (.slice Ao43 t357.length co43)) (fun _ h_ => h_.1))))) (g := gb340) (o := .cells #[.int .i64 (rd l0_0 x10_1)] 3 (0, 0)) (by (with_reducible repeat (first | refine blk_drewN ?_ _ | refine blk_drew ?_ | refine blk_alloc ?_ _)); refine blk_far ?_ NB340_360.out _; (with_reducible repeat (first | refine blk_drewN ?_ _ | refine blk_drew ?_ | refine blk_alloc ?_ _)); refine blk_far ?_ NB340_360.out _; (with_reducible repeat (first | refine blk_drewN ?_ _ | refine blk_drew ?_ | refine blk_alloc ?_ _)); exact BK340.out)) (below_size zB)); have n8_ := Aside0.mk (blk_below (g := gb331) (o := .cells #[.slice (some ad339) l0_0.length c0_0, .slice A0_1 l0_1.length c0_1] 29 (0, 0)) (by (with_reducible repeat (first | refine blk_drewN ?_ _ | refine blk_drew ?_ | refine blk_alloc ?_ _)); refine blk_far ?_ NB331_360.out _; (with_reducible repeat (first | refine blk_drewN ?_ _ | refine blk_drew ?_ | refine blk_alloc ?_ _)); refine blk_far ?_ NB331_360.out _; (with_reducible repeat (first | refine blk_drewN ?_ _ | refine blk_drew ?_ | refine blk_alloc ?_ _)); exact BK331.out) hb); have n9_ := Aside0.mk (blk_below (g := gb332) (o := .cells #[.slice none 0 0, .slice none 0 0] 29 (0, 0)) (by (with_reducible repeat (first | refine blk_drewN ?_ _ | refine blk_drew ?_ | refine blk_alloc ?_ _)); refine blk_far ?_ NB332_360.out _; (with_reducible repeat (first | refine blk_drewN ?_ _ | refine blk_drew ?_ | refine blk_alloc ?_ _)); refine blk_far ?_ NB332_360.out _; (with_reducible repeat (first | refine blk_drewN ?_ _ | refine blk_drew ?_ | refine blk_alloc ?_ _)); exact BK332.out) hb); have n10_ := Aside0.mk (blk_below (g := gb340) (o := .cells #[.int .i64 (rd l0_0 x10_1)] 3 (0, 0)) (by (with_reducible repeat (first | refine blk_drewN ?_ _ | refine blk_drew ?_ | refine blk_alloc ?_ _)); refine blk_far ?_ NB340_360.out _; (with_reducible repeat (first | refine blk_drewN ?_ _ | refine blk_drew ?_ | refine blk_alloc ?_ _)); refine blk_far ?_ NB340_360.out _; (with_reducible repeat (first | refine blk_drewN ?_ _ | refine blk_drew ?_ | refine blk_alloc ?_ _)); exact BK340.out) hb); have n11_ := Aside0.mk (blk_below (g := gb350) (o := .cells #[.slice Ao25 t344.length co25, .slice Ao30 t347.length co30] 29 (0, 0)) (by (with_reducible repeat (first | refine blk_drewN ?_ _ | refine blk_drew ?_ | refine blk_alloc ?_ _)); refine blk_far ?_ NB350_360.out _; (with_reducible repeat (first | refine blk_drewN ?_ _ | refine blk_drew ?_ | refine blk_alloc ?_ _)); refine blk_far ?_ NB350_360.out _; (with_reducible repeat (first | refine blk_drewN ?_ _ | refine blk_drew ?_ | refine blk_alloc ?_ _)); exact BK350.out) hb); have n12_ := Aside0.mk (blk_below (g := gb360) (o := .cells #[.slice Ao37 t354.length co37, .slice Ao43 t357.length co43] 29 (0, 0)) (by (with_reducible repeat (first | refine blk_drewN ?_ _ | refine blk_drew ?_ | refine blk_alloc ?_ _)); refine blk_put (cs := #[.slice Ao37 t354.length co37, .slice none 0 0]) ?_ 1 _ rfl; (with_reducible repeat (first | refine blk_drewN ?_ _ | refine blk_drew ?_ | refine blk_alloc ?_ _)); refine blk_put (cs := #[.slice none 0 0, .slice none 0 0]) ?_ 0 _ rfl; (with_reducible repeat (first | refine blk_drewN ?_ _ | refine blk_drew ?_ | refine blk_alloc ?_ _)); exact BK360.out) hb); have n13_ := Aside0.mk (below_step zB hb); clear HO343; clear HO346; clear HO349; clear HO353; clear HO356; clear HO359; clear BK331; clear BK332; clear BK340; clear BK350; clear BK360; clear HB; have HO343 := n0_; have HO346 := n1_; have HO349 := n2_; have HO353 := n3_; have HO356 := n4_; have HO359 := n5_; have HO364 := n6_; have HO367 := n7_; have BK331 := n8_; have BK332 := n9_; have BK340 := n10_; have BK350 := n11_; have BK360 := n12_; have HB := n13_; clear n0_ n1_ n2_ n3_ n4_ n5_ n6_ n7_ n8_ n9_ n10_ n11_ n12_ n13_; (try clear hb); (try clear hb2); (try clear hk); (try clear hi); (try clear ho0); (try clear ho1); obtain ⟨Ao53, co53, eo53⟩ := Kd.R_slice HO364.out; subst eo53; have hnb54 := NB332_331.out; have hnc54 := NB331_332.out; have hnb55 := NB332_340.out; have hnc55 := NB340_332.out; have hnb56 := NB332_360.out; have hnc56 := NB360_332.out; have hcz57_0 : w52.cell? ⟨gb332, 0, none⟩ = some (.slice none 0 0) := (blk_cell BK332.out 0).trans rfl; have hcz57_1 : w52.cell? ⟨gb332, 1, none⟩ = some (.slice none 0 0) := (blk_cell BK332.out 1).trans rfl; have hfz57_0 := blk_frozen BK332.out 0; have hfz57_1 := blk_frozen BK332.out 1; obtain ⟨Ao58, co58, eo58⟩ := Kd.R_slice HO367.out; subst eo58))
       refine bodyPost_ret (results_cell_row rfl _ _ gb332 29 #[.slice Ao53 t362.length co53, .slice Ao58 t365.length co58] (0, 0) _ rfl (by (with_reducible repeat (first | refine blk_drewN ?_ _ | refine blk_drew ?_ | refine blk_alloc ?_ _)); refine blk_put (cs := #[.slice Ao53 t362.length co53, .slice none 0 0]) ?_ 1 _ rfl; (with_reducible repeat (first | refine blk_drewN ?_ _ | refine blk_drew ?_ | refine blk_alloc ?_ _)); refine blk_put (cs := #[.slice none 0 0, .slice none 0 0]) ?_ 0 _ rfl; (with_reducible repeat (first | refine blk_drewN ?_ _ | refine blk_drew ?_ | refine blk_alloc ?_ _)); exact BK332.out) Try.underlying29 rfl zK) rfl ?_
       exact ⟨_, _, by first | rfl | (simp [errW_none, errW_some] <;> rfl) | (simp [*, errW_none, errW_some] <;> rfl), by (with_reducible repeat (first | apply Kd.R_alloc | apply Kd.R_drewN | apply Kd.R_drew)); exact Kd.R_mono (Kd.R_far (p := ⟨gb332, 1, none⟩) (Kd.R_far (p := ⟨gb332, 0, none⟩) (Kd.R_types HO364.out BK332.out (by decide)) (fun _ hk => hk.2) (.slice Ao53 t362.length co53)) (fun _ hk => hk.2) (.slice Ao58 t365.length co58)) (fun _ hk => hk.1.1.1.1.1.1.1.1), by (with_reducible repeat (first | apply Kd.R_alloc | apply Kd.R_drewN | apply Kd.R_drew)); exact Kd.R_mono (Kd.R_far (p := ⟨gb332, 1, none⟩) (Kd.R_far (p := ⟨gb332, 0, none⟩) (Kd.R_types HO367.out BK332.out (by decide)) (fun _ hk => hk.2) (.slice Ao53 t362.length co53)) (fun _ hk => hk.2) (.slice Ao58 t365.length co58)) (fun _ hk => hk.1.1.1.1.1.1.1.1), by repeat (first | (with_reducible first | exact HB.out | apply below_alloc | apply pw_below_drewN | apply below_drew1 | refine below_set ?_ GE331.out | refine below_set ?_ GE332.out | refine below_set ?_ GE340.out | refine below_set ?_ GE350.out | refine below_set ?_ GE360.out) | exact HB.out)⟩
      ·replace c45 := Bool.eq_false_iff.mpr c45
       subst c45
       have H1 : (table_vital.l0 k1 l0_0 (l0_0.length : Int) (wrap64 (x10_1 + 1)) l0_0 l0_1) = some (r1, r2) := by rw [if_neg (show ¬ (false = true) by decide)] at H; exact H
       clear H
       have H := H1
       clear H1
       have H' := Aside0.mk H
       clear H
       go_wp2
       go_roundg k1
       case measure => have := HK1.out; omega
       case rel => exact ⟨(wrap64 (x10_1 + 1)), zT, H', ⟨by have := HK1.out; omega⟩, ⟨by (with_reducible repeat (first | refine blk_drewN ?_ _ | refine blk_drew ?_ | refine blk_alloc ?_ _)); refine blk_far ?_ NB331_360.out _; (with_reducible repeat (first | refine blk_drewN ?_ _ | refine blk_drew ?_ | refine blk_alloc ?_ _)); refine blk_far ?_ NB331_360.out _; (with_reducible repeat (first | refine blk_drewN ?_ _ | refine blk_drew ?_ | refine blk_alloc ?_ _)); exact BK331.out⟩, ⟨by (with_reducible repeat (first | refine blk_drewN ?_ _ | refine blk_drew ?_ | refine blk_alloc ?_ _)); refine blk_far ?_ NB332_360.out _; (with_reducible repeat (first | refine blk_drewN ?_ _ | refine blk_drew ?_ | refine blk_alloc ?_ _)); refine blk_far ?_ NB332_360.out _; (with_reducible repeat (first | refine blk_drewN ?_ _ | refine blk_drew ?_ | refine blk_alloc ?_ _)); exact BK332.out⟩, ⟨by repeat (first | (with_reducible first | exact HB.out | apply below_alloc | apply pw_below_drewN | apply below_drew1 | refine below_set ?_ GE331.out | refine below_set ?_ GE332.out | refine below_set ?_ GE340.out | refine below_set ?_ GE350.out | refine below_set ?_ GE360.out) | exact HB.out)⟩⟩
     ·rw [if_neg c8] at H
      exact absurd H (by simp)
    ·rw [if_neg c7] at H
     exact absurd H (by simp)
   ·rw [if_neg c6] at H
    have c6b0 : decide (x10_1 < (l0_0.length : Int)) = false := decide_eq_false c6
    clear c6
    replace H := Option.bind_eq_some_iff.mp H
    obtain ⟨t333, A590, H⟩ := H
    replace H : ((slices_Clone_int_int.f l0_1).bind fun t336 => (some (t333, t336))) = some (r1, r2) := H
    have A59 := Aside0.mk A590
    clear A590
    replace H := Option.bind_eq_some_iff.mp H
    obtain ⟨t336, A600, H⟩ := H
    replace H : (some (t333, t336)) = some (r1, r2) := H
    have A60 := Aside0.mk A600
    clear A600
    simp only [Option.some.injEq, Prod.mk.injEq] at H
    obtain ⟨rfl, rfl⟩ := H
    try go_wp2
    have n0_ := Aside0.mk (blk_drew BK331.out)
    have n1_ := Aside0.mk (blk_drew BK332.out)
    have n2_ := Aside0.mk (below_drew1 HB.out)
    clear BK331
    clear BK332
    clear HB
    have BK331 := n0_
    have BK332 := n1_
    have HB := n2_
    clear n0_ n1_ n2_
    refine start_ (n := 8) (S := fun w' => w'.cell? ⟨gb331, 0, none⟩ = some (.slice A0_0 l0_0.length c0_0) ∧ w'.cell? ⟨gb331, 1, none⟩ = some (.slice A0_1 l0_1.length c0_1)) (ds := []) #[false, false, false, false, false, false, false, false] zK rfl rfl ⟨(blk_cell BK331.out 0).trans rfl, (blk_cell BK331.out 1).trans rfl⟩ (fun hHeld => ?_); refine with_tabW table_vital.tab9 table_vital.bits9 (fun HT_ HW_ => ?_)
    generalize wr.drew = w61 at BK331 BK332 HB hHeld ⊢
    refine pure_ (i := 0) (N := some 34) (v := ?_) (a' := ?_) #[true, false, false, false, false, false, false, false] rfl rfl (any_of HT_.out zK) (fun _ _ _ h => h) (Or.inl ⟨by rfl, ?_⟩) ?_ ?_
    rotate_left
    ·intro w'
     go_simp
     with_reducible rfl
    rotate_left
    ·simp only [Act.put, List.setIfInBounds_toArray, List.set_cons_zero, List.set_cons_succ, i64_w, i32_w]
     rfl
    refine pure_ (i := 3) (N := some 37) (v := ?_) (a' := ?_) #[true, false, false, true, false, false, false, false] rfl rfl (any_of HT_.out zK) (fun _ _ _ h => h) (Or.inl ⟨by rfl, ?_⟩) ?_ ?_
    rotate_left
    ·intro w'
     go_simp
     with_reducible rfl
    rotate_left
    ·simp only [Act.put, List.setIfInBounds_toArray, List.set_cons_zero, List.set_cons_succ, i64_w, i32_w]
     rfl
    refine take_ (i := 1) (N := some 35) (v := ?_) (a' := ?_) #[true, true, false, true, false, false, false, false] rfl rfl (take_ofW HT_.out HW_.out zK) (fun _ _ _ h => h) (Or.inl ⟨by rfl, ?_⟩) hHeld ?_ ?_
    rotate_left
    ·rintro w' ⟨s0, s1⟩
     go_simp
     with_reducible rfl
    rotate_left
    ·simp only [Act.put, List.setIfInBounds_toArray, List.set_cons_zero, List.set_cons_succ, i64_w, i32_w]
     rfl
    refine take_ (i := 4) (N := some 38) (v := ?_) (a' := ?_) #[true, true, false, true, true, false, false, false] rfl rfl (take_ofW HT_.out HW_.out zK) (fun _ _ _ h => h) (Or.inl ⟨by rfl, ?_⟩) hHeld ?_ ?_
    rotate_left
    ·rintro w' ⟨s0, s1⟩
     go_simp
     with_reducible rfl
    rotate_left
    ·simp only [Act.put, List.setIfInBounds_toArray, List.set_cons_zero, List.set_cons_succ, i64_w, i32_w]
     rfl
    refine one_ (i := 2) (N := some 36) #[true, true, true, true, true, false, false, false] rfl rfl (one_of HT_.out zK) (by decide) (fun K hK => ?_)
    refine goes_ Try.func42 zK rfl #[.slice A0_0 l0_0.length c0_0] (by rfl) rfl rfl zM ?_
    with_reducible refine (slices_Clone_int_int.calls _ _ l0_0 t333 _ ?side1 ?side2 A59.out).mono ?_
    (case side1 => repeat (first | exact (Kd.C_below HR0_0.out HB.out) | (with_reducible refine Kd.C_alloc ?_ _) | (with_reducible refine Kd.C_drewN ?_ _) | (with_reducible refine Kd.C_drew ?_)))
    (case side2 => exact HC0_0.out)
    rintro e w62 ⟨v334, rfl, ho0, hb⟩
    refine ⟨_, rfl, ?_⟩
    have n0_ := Aside0.mk (Kd.R_lower ho0 (below_size zB))
    have n1_ := Aside0.mk (blk_below (g := gb331) (o := .cells #[.slice A0_0 l0_0.length c0_0, .slice A0_1 l0_1.length c0_1] 29 (0, 0)) (zk BK331) hb)
    have n2_ := Aside0.mk (blk_below (g := gb332) (o := .cells #[.slice none 0 0, .slice none 0 0] 29 (0, 0)) (zk BK332) hb)
    have n3_ := Aside0.mk (below_step zB hb)
    clear BK331
    clear BK332
    clear HB
    have HO335 := n0_
    have BK331 := n1_
    have BK332 := n2_
    have HB := n3_
    clear n0_ n1_ n2_ n3_
    (try clear hb)
    (try clear hb2)
    (try clear hk)
    (try clear hi)
    (try clear ho0)
    refine hK.out _ _ ⟨(blk_cell BK331.out 0).trans rfl, (blk_cell BK331.out 1).trans rfl⟩ (fun hHeld => ?_)
    clear hK K
    refine norm_ (a' := ?_) ?_ ?_
    rotate_left
    ·show Act.put _ (some 36) _ = _
     simp only [Act.put, List.setIfInBounds_toArray, List.set_cons_zero, List.set_cons_succ, i64_w, i32_w]
     rfl
    refine one_ (i := 5) (N := some 39) #[true, true, true, true, true, true, false, false] rfl rfl (one_of HT_.out zK) (by decide) (fun K hK => ?_)
    refine goes_ Try.func42 zK rfl #[.slice A0_1 l0_1.length c0_1] (by rfl) rfl rfl zM ?_
    with_reducible refine (slices_Clone_int_int.calls _ _ l0_1 t336 _ ?side1 ?side2 A60.out).mono ?_
    (case side1 => repeat (first | exact (Kd.C_below HR0_1.out HB.out) | (with_reducible refine Kd.C_alloc ?_ _) | (with_reducible refine Kd.C_drewN ?_ _) | (with_reducible refine Kd.C_drew ?_)))
    (case side2 => exact HC0_1.out)
    rintro e w63 ⟨v337, rfl, ho0, hb⟩
    refine ⟨_, rfl, ?_⟩
    have n0_ := Aside0.mk (Kd.R_elder' (zR HO335) (Kd.R_base ho0) hb)
    have n1_ := Aside0.mk (Kd.R_lower (Kd.R_new' ho0 (Kd.R_lt (zR HO335))) (below_size zB))
    have n2_ := Aside0.mk (blk_below (g := gb331) (o := .cells #[.slice A0_0 l0_0.length c0_0, .slice A0_1 l0_1.length c0_1] 29 (0, 0)) (zk BK331) hb)
    have n3_ := Aside0.mk (blk_below (g := gb332) (o := .cells #[.slice none 0 0, .slice none 0 0] 29 (0, 0)) (zk BK332) hb)
    have n4_ := Aside0.mk (below_step zB hb)
    clear HO335
    clear BK331
    clear BK332
    clear HB
    have HO335 := n0_
    have HO338 := n1_
    have BK331 := n2_
    have BK332 := n3_
    have HB := n4_
    clear n0_ n1_ n2_ n3_ n4_
    (try clear hb)
    (try clear hb2)
    (try clear hk)
    (try clear hi)
    (try clear ho0)
    obtain ⟨Ao64, co64, eo64⟩ := Kd.R_slice HO338.out
    (first | subst eo64 | (injection eo64 with f1_ f2_ f3_; have f4_ := f1_.symm; have f5_ := f3_.symm; clear f1_ f2_ f3_; subst f4_; subst f5_))
    obtain ⟨Ao65, co65, eo65⟩ := Kd.R_slice HO335.out
    (first | subst eo65 | (injection eo65 with f1_ f2_ f3_; have f4_ := f1_.symm; have f5_ := f3_.symm; clear f1_ f2_ f3_; subst f4_; subst f5_))
    refine hK.out _ _ ⟨(blk_cell BK331.out 0).trans rfl, (blk_cell BK331.out 1).trans rfl⟩ (fun hHeld => ?_)
    clear hK K
    refine norm_ (a' := ?_) ?_ ?_
    rotate_left
    ·show Act.put _ (some 39) _ = _
     simp only [Act.put, List.setIfInBounds_toArray, List.set_cons_zero, List.set_cons_succ, i64_w, i32_w]
     rfl
    refine pure_ (i := 6) (N := some 40) (v := ?_) (a' := ?_) #[true, true, true, true, true, true, true, false] rfl rfl (any_of HT_.out zK) (fun _ _ _ h => h) (Or.inl ⟨by rfl, ?_⟩) ?_ ?_
    rotate_left
    ·intro w'
     go_simp
     with_reducible rfl
    rotate_left
    ·simp only [Act.put, List.setIfInBounds_toArray, List.set_cons_zero, List.set_cons_succ, i64_w, i32_w]
     rfl
    refine one_ (i := 7) (N := none) #[true, true, true, true, true, true, true, true] rfl rfl (one_of HT_.out zK) (by decide) (fun K hK => ?_)
    have hs66 : w63.cell? ⟨gb332, 0, none⟩ = some (.slice none 0 0) := (blk_cell BK332.out 0).trans rfl
    have hfs66 := blk_frozen BK332.out 0
    have hns66_0 := NB331_332.out
    have hms66_0 := NB332_331.out
    have hs67 : w63.cell? ⟨gb332, 1, none⟩ = some (.slice none 0 0) := (blk_cell BK332.out 1).trans rfl
    have hfs67 := blk_frozen BK332.out 1
    have hns67_0 := NB331_332.out
    have hms67_0 := NB332_331.out
    refine skip_ (w1 := ?_) (by rfl) rfl ?_ ?_
    rotate_left
    ·go_simp
     rfl
    refine hK.out _ _ ⟨((cell_far (p := ⟨gb332, _, none⟩) NB331_332.out _).trans (((cell_far (p := ⟨gb332, _, none⟩) NB331_332.out _).trans (hHeld.1)))), ((cell_far (p := ⟨gb332, _, none⟩) NB331_332.out _).trans (((cell_far (p := ⟨gb332, _, none⟩) NB331_332.out _).trans (hHeld.2))))⟩ (fun hHeld => ?_)
    clear hK K
    refine done_ (done_of HT_.out zK) ?_
    try go_wp2
    refine bodyPost_ret (results_cell_row rfl _ _ gb332 29 #[.slice Ao65 t333.length co65, .slice Ao64 t336.length co64] (0, 0) _ rfl (by (with_reducible repeat (first | refine blk_drewN ?_ _ | refine blk_drew ?_ | refine blk_alloc ?_ _)); refine blk_put (cs := #[.slice Ao65 t333.length co65, .slice none 0 0]) ?_ 1 _ rfl; (with_reducible repeat (first | refine blk_drewN ?_ _ | refine blk_drew ?_ | refine blk_alloc ?_ _)); refine blk_put (cs := #[.slice none 0 0, .slice none 0 0]) ?_ 0 _ rfl; (with_reducible repeat (first | refine blk_drewN ?_ _ | refine blk_drew ?_ | refine blk_alloc ?_ _)); exact BK332.out) Try.underlying29 rfl zK) rfl ?_
    exact ⟨_, _, by first | rfl | (simp [errW_none, errW_some] <;> rfl) | (simp [*, errW_none, errW_some] <;> rfl), by (with_reducible repeat (first | apply Kd.R_alloc | apply Kd.R_drewN | apply Kd.R_drew)); exact Kd.R_mono (Kd.R_far (p := ⟨gb332, 1, none⟩) (Kd.R_far (p := ⟨gb332, 0, none⟩) (Kd.R_types HO335.out BK332.out (by decide)) (fun _ hk => hk.2) (.slice Ao65 t333.length co65)) (fun _ hk => hk.2) (.slice Ao64 t336.length co64)) (fun _ hk => hk.1.2), by (with_reducible repeat (first | apply Kd.R_alloc | apply Kd.R_drewN | apply Kd.R_drew)); exact Kd.R_mono (Kd.R_far (p := ⟨gb332, 1, none⟩) (Kd.R_far (p := ⟨gb332, 0, none⟩) (Kd.R_types HO338.out BK332.out (by decide)) (fun _ hk => hk.2) (.slice Ao65 t333.length co65)) (fun _ hk => hk.2) (.slice Ao64 t336.length co64)) (fun _ hk => hk.1.2), by repeat (first | (with_reducible first | exact HB.out | apply below_alloc | apply pw_below_drewN | apply below_drew1 | refine below_set ?_ GE331.out | refine below_set ?_ GE332.out) | exact HB.out)⟩
/-! ### table_Vital: function 23 -/
def table_Vital.f (k : Nat) (l0_0 : List Int) (l0_1 : List Int) : Option (List Int × List Int × Int) := (table_Valid.f k l0_0 l0_1).bind fun t370 => (if t370 = 0 then ((table_vital.f k l0_0 l0_1).bind fun bt371 => (some (bt371.1, bt371.2, 0))) else (some (([] : List Int), ([] : List Int), t370)))
theorem table_Vital.mono : ∀ a0 a1 k, LeO (table_Vital.f k a0 a1) (table_Vital.f (k + 1) a0 a1) := by
 intro a0 a1 k
 unfold table_Vital.f
 repeat' first
   | (with_reducible exact table_Valid.mono _ _ _)
   | (with_reducible exact table_vital.mono _ _ _)
   | (with_reducible exact LeO.refl _)
   | (with_reducible exact LeO.none _)
   | (with_reducible refine LeO.ite ?_ ?_)
   | (with_reducible refine LeO.bind ?_ (fun _ => ?_))
   | exact table_Valid.mono _ _ _
   | exact table_vital.mono _ _ _
   | exact LeO.none _
   | refine LeO.ite ?_ ?_
   | refine LeO.bind ?_ (fun _ => ?_)
set_option maxHeartbeats 8000000 in
set_option maxRecDepth 100000 in
theorem table_Vital.calls (k : Nat) (A0_0 : Option Addr) (c0_0 : Nat) (l0_0 : List Int) (A0_1 : Option Addr) (c0_1 : Nat) (l0_1 : List Int) (r1 : List Int) (r2 : List Int) (r3 : Int) (w : World) (hr0_0 : Kd.C (Kd.int .i64) w A0_0 l0_0.length l0_0) (hc0_0 : l0_0.length ≤ c0_0) (hr0_1 : Kd.C (Kd.int .i64) w A0_1 l0_1.length l0_1) (hc0_1 : l0_1.length ≤ c0_1) (h : table_Vital.f k l0_0 l0_1 = some (r1, r2, r3)) :
  Calls Try.prog 23 #[.agg #[.slice A0_0 l0_0.length c0_0, .slice A0_1 l0_1.length c0_1]] w fun e w' => ∃ v0_ v1_ : Value, e = .returned (.tuple #[.agg #[v0_, v1_], .int .i64 r3]) ∧ Kd.R (Kd.int .i64) 3 w' w.heap.size (fun k_ => some k_ ≠ (v1_ : Value).ownBlock) v0_ r1 ∧ Kd.R (Kd.int .i64) 3 w' w.heap.size (fun k_ => some k_ ≠ (v0_ : Value).ownBlock) v1_ r2 ∧ Below w.heap.size w w' := by
 have hu29 := Try.underlying29
 have HR0_0 := Aside0.mk hr0_0
 have HC0_0 := Aside0.mk hc0_0
 clear hr0_0 hc0_0
 have HR0_1 := Aside0.mk hr0_1
 have HC0_1 := Aside0.mk hc0_1
 clear hr0_1 hc0_1
 have HB := Aside0.mk (Below.refl w.heap.size w)
 have H : ((table_Valid.f k l0_0 l0_1).bind fun t370 => (if t370 = 0 then ((table_vital.f k l0_0 l0_1).bind fun bt371 => (some (bt371.1, bt371.2, 0))) else (some (([] : List Int), ([] : List Int), t370)))) = some (r1, r2, r3) := h
 clear h
 replace H := Option.bind_eq_some_iff.mp H
 obtain ⟨t370, A20, H⟩ := H
 replace H : (if t370 = 0 then ((table_vital.f k l0_0 l0_1).bind fun bt371 => (some (bt371.1, bt371.2, 0))) else (some (([] : List Int), ([] : List Int), t370))) = some (r1, r2, r3) := H
 have A2 := Aside0.mk A20
 clear A20
 have HC3 := Aside0.mk H
 clear H
 go_enter Try.func23, Try.ntmps23
 go_upto_if 8 with (first | ((with_reducible refine gate_dst (N := 1) rfl ?_); refine box_event ?hg (N := 1) ?hd (cs := #[.slice A0_0 l0_0.length c0_0, .slice A0_1 l0_1.length c0_1]) (t := 29) ?hr ?_; (case hd => rfl); (case hg => rfl); (case hr => first | (go_simp; done) | (go_simp; rfl)); intro gb368 hg w4 hbox hb; have n0_ := Aside0.mk (below_step zB hb); have n1_ := Aside0.mk (hbox); have n2_ := Aside0.mk ((by rw [hg]; exact (below_size zB) : w.heap.size ≤ gb368)); have n3_ := Aside0.mk ((by rw [hg]; exact (below_size zB) : w.heap.size ≤ gb368)); clear HB; have HB := n0_; have BK368 := n1_; have GW368 := n2_; have GE368 := n3_; clear n0_ n1_ n2_ n3_; clear hb hbox hg) | ((with_reducible refine gate_dst (N := 2) rfl ?_); refine box_event ?hg (N := 2) ?hd (cs := #[.slice none 0 0, .slice none 0 0]) (t := 29) ?hr ?_; (case hd => rfl); (case hg => rfl); (case hr => first | (go_simp; done) | (go_simp; rfl)); intro gb369 hg w5 hbox hb; have n0_ := Aside0.mk (blk_below (g := gb368) (o := .cells #[.slice A0_0 l0_0.length c0_0, .slice A0_1 l0_1.length c0_1] 29 (0, 0)) (zk BK368) hb); have n1_ := Aside0.mk (below_step zB hb); have n2_ := Aside0.mk (hbox); have n3_ := Aside0.mk ((by rw [hg]; exact (below_size zB) : w.heap.size ≤ gb369)); have n4_ := Aside0.mk ((by rw [hg]; exact (below_size zB) : w.heap.size ≤ gb369)); have n5_ := Aside0.mk ((by rw [hg]; exact Nat.ne_of_lt (blk_lt (g := gb368) (o := .cells #[.slice A0_0 l0_0.length c0_0, .slice A0_1 l0_1.length c0_1] 29 (0, 0)) (zk BK368)) : gb368 ≠ gb369)); have n6_ := Aside0.mk ((by rw [hg]; exact Nat.ne_of_gt (blk_lt (g := gb368) (o := .cells #[.slice A0_0 l0_0.length c0_0, .slice A0_1 l0_1.length c0_1] 29 (0, 0)) (zk BK368)) : gb369 ≠ gb368)); clear BK368; clear HB; have BK368 := n0_; have HB := n1_; have BK369 := n2_; have GW369 := n3_; have GE369 := n4_; have NB368_369 := n5_; have NB369_368 := n6_; clear n0_ n1_ n2_ n3_ n4_ n5_ n6_; clear hb hbox hg; have hnb6 := NB368_369.out; have hnc6 := NB369_368.out; have hcz7_0 : w5.cell? ⟨gb368, 0, none⟩ = some (.slice A0_0 l0_0.length c0_0) := (blk_cell BK368.out 0).trans rfl; have hcz7_1 : w5.cell? ⟨gb368, 1, none⟩ = some (.slice A0_1 l0_1.length c0_1) := (blk_cell BK368.out 1).trans rfl; have hfz7_0 := blk_frozen BK368.out 0; have hfz7_1 := blk_frozen BK368.out 1) | ((with_reducible refine gate_callee (f := 25) rfl ?_); refine goesL_ (some 6) rfl rfl Try.func25 zK rfl #[.agg #[.slice A0_0 l0_0.length c0_0, .slice A0_1 l0_1.length c0_1]] rfl zM ?_; (with_reducible refine (table_Valid.calls k _ _ l0_0 _ _ l0_1 t370 _ ?side1 ?side2 ?side3 ?side4 A2.out).mono ?_); (case side1 => repeat (first | exact (Kd.C_below HR0_0.out HB.out) | (with_reducible refine Kd.C_alloc ?_ _) | (with_reducible refine Kd.C_drewN ?_ _) | (with_reducible refine Kd.C_drew ?_))); (case side2 => exact HC0_0.out); (case side3 => repeat (first | exact (Kd.C_below HR0_1.out HB.out) | (with_reducible refine Kd.C_alloc ?_ _) | (with_reducible refine Kd.C_drewN ?_ _) | (with_reducible refine Kd.C_drew ?_))); (case side4 => exact HC0_1.out); rintro e w8 ⟨rfl, hb⟩; refine ⟨_, rfl, ?_⟩; have n0_ := Aside0.mk (blk_below (g := gb368) (o := .cells #[.slice A0_0 l0_0.length c0_0, .slice A0_1 l0_1.length c0_1] 29 (0, 0)) (zk BK368) hb); have n1_ := Aside0.mk (blk_below (g := gb369) (o := .cells #[.slice none 0 0, .slice none 0 0] 29 (0, 0)) (zk BK369) hb); have n2_ := Aside0.mk (below_step zB hb); clear BK368; clear BK369; clear HB; have BK368 := n0_; have BK369 := n1_; have HB := n2_; clear n0_ n1_ n2_; (try clear hb); (try clear hb2); (try clear hk); (try clear hi)))
 (try simp only [Act.put, List.setIfInBounds_toArray, List.set_cons_zero, List.set_cons_succ])
 have H := HC3.out
 clear HC3
 by_cases c9 : t370 = 0
 ·rw [if_pos c9] at H
  have c9b0 : (t370 == 0) = true := beq_iff_eq.mpr c9
  have c9b1 : (t370 != 0) = false := bne_eq_false_iff_eq.mpr c9
  clear c9
  (first | rw [c9b0] | (simp only [i64_w, i32_w]; rw [c9b0]) | skip)
  (try rw [c9b1])
  replace H := Option.bind_eq_some_iff.mp H
  obtain ⟨⟨t371, t374⟩, A100, H⟩ := H
  replace H : (some (t371, t374, 0)) = some (r1, r2, r3) := H
  have A10 := Aside0.mk A100
  clear A100
  simp only [Option.some.injEq, Prod.mk.injEq] at H
  obtain ⟨rfl, rfl, rfl⟩ := H
  have hnb11 := NB368_369.out
  have hnc11 := NB369_368.out
  have hcz12_0 : w8.cell? ⟨gb368, 0, none⟩ = some (.slice A0_0 l0_0.length c0_0) := (blk_cell BK368.out 0).trans rfl
  have hcz12_1 : w8.cell? ⟨gb368, 1, none⟩ = some (.slice A0_1 l0_1.length c0_1) := (blk_cell BK368.out 1).trans rfl
  have hfz12_0 := blk_frozen BK368.out 0
  have hfz12_1 := blk_frozen BK368.out 1
  go_wp2_with (first | ((with_reducible refine gate_callee (f := 51) rfl ?_); refine goesL_ (some 12) rfl rfl Try.func51 zK rfl #[.agg #[.slice A0_0 l0_0.length c0_0, .slice A0_1 l0_1.length c0_1]] rfl zM ?_; (with_reducible refine (table_vital.calls k _ _ l0_0 _ _ l0_1 t371 t374 _ ?side1 ?side2 ?side3 ?side4 A10.out).mono ?_); (case side1 => repeat (first | exact (Kd.C_below HR0_0.out HB.out) | (with_reducible refine Kd.C_alloc ?_ _) | (with_reducible refine Kd.C_drewN ?_ _) | (with_reducible refine Kd.C_drew ?_))); (case side2 => exact HC0_0.out); (case side3 => repeat (first | exact (Kd.C_below HR0_1.out HB.out) | (with_reducible refine Kd.C_alloc ?_ _) | (with_reducible refine Kd.C_drewN ?_ _) | (with_reducible refine Kd.C_drew ?_))); (case side4 => exact HC0_1.out); rintro e w13 ⟨v372, v375, rfl, ho0, ho1, hb⟩; refine ⟨_, rfl, ?_⟩; have n0_ := Aside0.mk (Kd.R_lower ho0 (below_size zB)); have n1_ := Aside0.mk (Kd.R_lower ho1 (below_size zB)); have n2_ := Aside0.mk (blk_below (g := gb368) (o := .cells #[.slice A0_0 l0_0.length c0_0, .slice A0_1 l0_1.length c0_1] 29 (0, 0)) (zk BK368) hb); have n3_ := Aside0.mk (blk_below (g := gb369) (o := .cells #[.slice none 0 0, .slice none 0 0] 29 (0, 0)) (zk BK369) hb); have n4_ := Aside0.mk (below_step zB hb); clear BK368; clear BK369; clear HB; have HO373 := n0_; have HO376 := n1_; have BK368 := n2_; have BK369 := n3_; have HB := n4_; clear n0_ n1_ n2_ n3_ n4_; (try clear hb); (try clear hb2); (try clear hk); (try clear hi); (try clear ho0); (try clear ho1); obtain ⟨Ao14, co14, eo14⟩ := Kd.R_slice HO373.out; subst eo14; have hcz15_0 : w13.cell? ⟨gb369, 0, none⟩ = some (.slice none 0 0) := (blk_cell BK369.out 0).trans rfl; have hcz15_1 : w13.cell? ⟨gb369, 1, none⟩ = some (.slice none 0 0) := (blk_cell BK369.out 1).trans rfl; have hfz15_0 := blk_frozen BK369.out 0; have hfz15_1 := blk_frozen BK369.out 1; obtain ⟨Ao16, co16, eo16⟩ := Kd.R_slice HO376.out; subst eo16))
  refine bodyPost_ret (results_ct rfl _ _ gb369 29 #[.slice Ao14 t371.length co14, .slice Ao16 t374.length co16] (0, 0) _ rfl (by (with_reducible repeat (first | refine blk_drewN ?_ _ | refine blk_drew ?_ | refine blk_alloc ?_ _)); refine blk_put (cs := #[.slice Ao14 t371.length co14, .slice none 0 0]) ?_ 1 _ rfl; (with_reducible repeat (first | refine blk_drewN ?_ _ | refine blk_drew ?_ | refine blk_alloc ?_ _)); refine blk_put (cs := #[.slice none 0 0, .slice none 0 0]) ?_ 0 _ rfl; (with_reducible repeat (first | refine blk_drewN ?_ _ | refine blk_drew ?_ | refine blk_alloc ?_ _)); exact BK369.out) Try.underlying29 rfl zK) rfl ?_
  exact ⟨_, _, by first | rfl | (simp [errW_none, errW_some] <;> rfl) | (simp [*, errW_none, errW_some] <;> rfl), by (with_reducible repeat (first | apply Kd.R_alloc | apply Kd.R_drewN | apply Kd.R_drew)); exact Kd.R_mono (Kd.R_far (p := ⟨gb369, 1, none⟩) (Kd.R_far (p := ⟨gb369, 0, none⟩) (Kd.R_types HO373.out BK369.out (by decide)) (fun _ hk => hk.2) (.slice Ao14 t371.length co14)) (fun _ hk => hk.2) (.slice Ao16 t374.length co16)) (fun _ hk => hk.1), by (with_reducible repeat (first | apply Kd.R_alloc | apply Kd.R_drewN | apply Kd.R_drew)); exact Kd.R_mono (Kd.R_far (p := ⟨gb369, 1, none⟩) (Kd.R_far (p := ⟨gb369, 0, none⟩) (Kd.R_types HO376.out BK369.out (by decide)) (fun _ hk => hk.2) (.slice Ao14 t371.length co14)) (fun _ hk => hk.2) (.slice Ao16 t374.length co16)) (fun _ hk => hk.1), by repeat (first | (with_reducible first | exact HB.out | apply below_alloc | apply pw_below_drewN | apply below_drew1 | refine below_set ?_ GE368.out | refine below_set ?_ GE369.out) | exact HB.out)⟩
 ·rw [if_neg c9] at H
  have c9b0 : (t370 == 0) = false := beq_eq_false_iff_ne.mpr c9
  have c9b1 : (t370 != 0) = true := bne_iff_ne.mpr c9
  (first | rw [c9b0] | (simp only [i64_w, i32_w]; rw [c9b0]) | skip)
  (try rw [c9b1])
  simp only [Option.some.injEq, Prod.mk.injEq] at H
  obtain ⟨rfl, rfl, rfl⟩ := H
  have hnb17 := NB369_368.out
  have hnc17 := NB368_369.out
  have hcz18_0 : w8.cell? ⟨gb369, 0, none⟩ = some (.slice none 0 0) := (blk_cell BK369.out 0).trans rfl
  have hcz18_1 : w8.cell? ⟨gb369, 1, none⟩ = some (.slice none 0 0) := (blk_cell BK369.out 1).trans rfl
  have hfz18_0 := blk_frozen BK369.out 0
  have hfz18_1 := blk_frozen BK369.out 1
  go_wp2
  refine bodyPost_ret (results_ct rfl _ _ gb369 29 #[.slice none 0 0, .slice none 0 0] (0, 0) _ rfl (by (with_reducible repeat (first | refine blk_drewN ?_ _ | refine blk_drew ?_ | refine blk_alloc ?_ _)); refine blk_put (cs := #[.slice none 0 0, .slice none 0 0]) ?_ 1 _ rfl; (with_reducible repeat (first | refine blk_drewN ?_ _ | refine blk_drew ?_ | refine blk_alloc ?_ _)); refine blk_put (cs := #[.slice none 0 0, .slice none 0 0]) ?_ 0 _ rfl; (with_reducible repeat (first | refine blk_drewN ?_ _ | refine blk_drew ?_ | refine blk_alloc ?_ _)); exact BK369.out) Try.underlying29 rfl zK) rfl ?_
  exact ⟨_, _, by first | rfl | (simp [errW_none, errW_some] <;> rfl) | (simp [*, errW_none, errW_some] <;> rfl), by first | exact Kd.R_nil _ _ _ _ _ | exact Kd.N_nil _ _ _ _ _ | exact Kd.V_nil _ _ _ _ _ | exact Kd.Q_nil _ _ _ _ _ | exact Kd.S_nil _ _ _ _ _, by first | exact Kd.R_nil _ _ _ _ _ | exact Kd.N_nil _ _ _ _ _ | exact Kd.V_nil _ _ _ _ _ | exact Kd.Q_nil _ _ _ _ _ | exact Kd.S_nil _ _ _ _ _, by repeat (first | (with_reducible first | exact HB.out | apply below_alloc | apply pw_below_drewN | apply below_drew1 | refine below_set ?_ GE368.out | refine below_set ?_ GE369.out) | exact HB.out)⟩
end Go.Proofs.Ythcfmdkhkikbcaa.D
