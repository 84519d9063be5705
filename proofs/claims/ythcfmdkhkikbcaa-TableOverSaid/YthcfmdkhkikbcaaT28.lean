-- Written by wip/tools/myprint.py, a program of this session's.
import Derived.Test.YthcfmdkhkikbcaaT0
import Derived.Test.YthcfmdkhkikbcaaT6
import Derived.Test.YthcfmdkhkikbcaaT7
import Derived.Test.YthcfmdkhkikbcaaT9
import Derived.Test.YthcfmdkhkikbcaaT21
namespace Go.Proofs.Ythcfmdkhkikbcaa.T
open Go.RowKit Go.Proofs.YthcfmdkhkikbcaaW.PrintWords Go.Proofs.YthcfmdkhkikbcaaW.PrintLast Go.Proofs.YthcfmdkhkikbcaaW.PrintMore
attribute [local go_sem] max2_int min2_int max_two min_two max_three min_three max_four min_four   -- for this text's walks alone
set_option linter.unusedVariables false
set_option linter.unusedSimpArgs false
/-! ### ancepsref38_Project: function 43 -/
def ancepsref38_Project.l0 : Nat → List Int → Int → List Int → List Int → Option (List Int × List Int × Int)
 | 0, _, _, _, _ => none
 | k + 1, x1, x8, x948000, x948001 => if x8 < (x1.length : Int) then (if 0 ≤ x8 then ((ancepsref38_in.f k x948000 (rd x1 x8)).bind fun t952 => (if t952 = true then (ancepsref38_Project.l0 k x1 (wrap64 (x8 + 1)) x948000 x948001) else (some (([] : List Int), ([] : List Int), 4)))) else (none)) else ((ancepsref38_projected.f k x948000 x948001 x1).bind fun bt953 => (some (bt953.1, bt953.2, 0)))
def ancepsref38_Project.f (k : Nat) (l0_0 : List Int) (l0_1 : List Int) (l1 : List Int) : Option (List Int × List Int × Int) := (ancepsref38_Valid.f k l0_0 l0_1).bind fun t949 => (if t949 = 0 then ((ancepsref38_Variables.f k l1).bind fun t950 => (if t950 = 0 then (ancepsref38_Project.l0 k l1 0 l0_0 l0_1) else (some (([] : List Int), ([] : List Int), t950)))) else (some (([] : List Int), ([] : List Int), t949)))
theorem ancepsref38_Project.mono_l : ∀ k, (∀ y0 y1 y2 y3, LeO (ancepsref38_Project.l0 k y0 y1 y2 y3) (ancepsref38_Project.l0 (k + 1) y0 y1 y2 y3))
 | 0 => fun _ _ _ _ r h => by simp [ancepsref38_Project.l0] at h
 | k + 1 => by
  have ih0 := ancepsref38_Project.mono_l k
  ·intro y0 y1 y2 y3
   unfold ancepsref38_Project.l0
   repeat' first
   | (with_reducible exact ih0 _ _ _ _)
   | (with_reducible exact ancepsref38_Valid.mono _ _ _)
   | (with_reducible exact ancepsref38_Variables.mono _ _)
   | (with_reducible exact ancepsref38_in.mono _ _ _)
   | (with_reducible exact ancepsref38_projected.mono _ _ _ _)
   | (with_reducible exact LeO.refl _)
   | (with_reducible exact LeO.none _)
   | (with_reducible refine LeO.ite ?_ ?_)
   | (with_reducible refine LeO.bind ?_ (fun _ => ?_))
   | exact ih0 _ _ _ _
   | exact ancepsref38_Valid.mono _ _ _
   | exact ancepsref38_Variables.mono _ _
   | exact ancepsref38_in.mono _ _ _
   | exact ancepsref38_projected.mono _ _ _ _
   | exact LeO.none _
   | refine LeO.ite ?_ ?_
   | refine LeO.bind ?_ (fun _ => ?_)
theorem ancepsref38_Project.mono : ∀ a0 a1 a2 k, LeO (ancepsref38_Project.f k a0 a1 a2) (ancepsref38_Project.f (k + 1) a0 a1 a2) := by
 intro a0 a1 a2 k
 have ih0 := ancepsref38_Project.mono_l k
 unfold ancepsref38_Project.f
 repeat' first
   | (with_reducible exact ih0 _ _ _ _)
   | (with_reducible exact ancepsref38_Valid.mono _ _ _)
   | (with_reducible exact ancepsref38_Variables.mono _ _)
   | (with_reducible exact ancepsref38_in.mono _ _ _)
   | (with_reducible exact ancepsref38_projected.mono _ _ _ _)
   | (with_reducible exact LeO.refl _)
   | (with_reducible exact LeO.none _)
   | (with_reducible refine LeO.ite ?_ ?_)
   | (with_reducible refine LeO.bind ?_ (fun _ => ?_))
   | exact ih0 _ _ _ _
   | exact ancepsref38_Valid.mono _ _ _
   | exact ancepsref38_Variables.mono _ _
   | exact ancepsref38_in.mono _ _ _
   | exact ancepsref38_projected.mono _ _ _ _
   | exact LeO.none _
   | refine LeO.ite ?_ ?_
   | refine LeO.bind ?_ (fun _ => ?_)
set_option maxHeartbeats 8000000 in
set_option maxRecDepth 100000 in
theorem ancepsref38_Project.calls (k : Nat) (A0_0 : Option Addr) (c0_0 : Nat) (l0_0 : List Int) (A0_1 : Option Addr) (c0_1 : Nat) (l0_1 : List Int) (A1 : Option Addr) (c1 : Nat) (l1 : List Int) (r1 : List Int) (r2 : List Int) (r3 : Int) (w : World) (hr0_0 : Kd.C (Kd.int .i64) w A0_0 l0_0.length l0_0) (hc0_0 : l0_0.length ≤ c0_0) (hr0_1 : Kd.C (Kd.int .i64) w A0_1 l0_1.length l0_1) (hc0_1 : l0_1.length ≤ c0_1) (hr1 : Kd.C (Kd.int .i64) w A1 l1.length l1) (hc1 : l1.length ≤ c1) (h : ancepsref38_Project.f k l0_0 l0_1 l1 = some (r1, r2, r3)) :
  Calls Try.prog 43 #[.agg #[.slice A0_0 l0_0.length c0_0, .slice A0_1 l0_1.length c0_1], .slice A1 l1.length c1] w fun e w' => ∃ v0_ v1_ : Value, e = .returned (.tuple #[.agg #[v0_, v1_], .int .i64 r3]) ∧ Kd.R (Kd.int .i64) 3 w' w.heap.size (fun k_ => some k_ ≠ (v1_ : Value).ownBlock) v0_ r1 ∧ Kd.R (Kd.int .i64) 3 w' w.heap.size (fun k_ => some k_ ≠ (v0_ : Value).ownBlock) v1_ r2 ∧ Below w.heap.size w w' := by
 have hu29 := Try.underlying29
 have hu27 := Try.underlying27
 have hu3 := Try.underlying3
 have HR0_0 := Aside0.mk hr0_0
 have HC0_0 := Aside0.mk hc0_0
 clear hr0_0 hc0_0
 have HR0_1 := Aside0.mk hr0_1
 have HC0_1 := Aside0.mk hc0_1
 clear hr0_1 hc0_1
 have HR1 := Aside0.mk hr1
 have HC1 := Aside0.mk hc1
 clear hr1 hc1
 have HB := Aside0.mk (Below.refl w.heap.size w)
 have H : ((ancepsref38_Valid.f k l0_0 l0_1).bind fun t949 => (if t949 = 0 then ((ancepsref38_Variables.f k l1).bind fun t950 => (if t950 = 0 then (ancepsref38_Project.l0 k l1 0 l0_0 l0_1) else (some (([] : List Int), ([] : List Int), t950)))) else (some (([] : List Int), ([] : List Int), t949)))) = some (r1, r2, r3) := h
 clear h
 replace H := Option.bind_eq_some_iff.mp H
 obtain ⟨t949, A30, H⟩ := H
 replace H : (if t949 = 0 then ((ancepsref38_Variables.f k l1).bind fun t950 => (if t950 = 0 then (ancepsref38_Project.l0 k l1 0 l0_0 l0_1) else (some (([] : List Int), ([] : List Int), t950)))) else (some (([] : List Int), ([] : List Int), t949))) = some (r1, r2, r3) := H
 have A3 := Aside0.mk A30
 clear A30
 have HC4 := Aside0.mk H
 clear H
 go_enter Try.func43, Try.ntmps43
 go_upto_if 12 with (first | ((with_reducible refine gate_dst (N := 2) rfl ?_); refine box_event ?hg (N := 2) ?hd (cs := #[.slice A0_0 l0_0.length c0_0, .slice A0_1 l0_1.length c0_1]) (t := 29) ?hr ?_; (case hd => rfl); (case hg => rfl); (case hr => first | (go_simp; done) | (go_simp; rfl)); intro gb947 hg w5 hbox hb; have n0_ := Aside0.mk (below_step zB hb); have n1_ := Aside0.mk (hbox); have n2_ := Aside0.mk ((by rw [hg]; exact (below_size zB) : w.heap.size ≤ gb947)); have n3_ := Aside0.mk ((by rw [hg]; exact (below_size zB) : w.heap.size ≤ gb947)); clear HB; have HB := n0_; have BK947 := n1_; have GW947 := n2_; have GE947 := n3_; clear n0_ n1_ n2_ n3_; clear hb hbox hg) | ((with_reducible refine gate_dst (N := 4) rfl ?_); refine box_event ?hg (N := 4) ?hd (cs := #[.slice none 0 0, .slice none 0 0]) (t := 29) ?hr ?_; (case hd => rfl); (case hg => rfl); (case hr => first | (go_simp; done) | (go_simp; rfl)); intro gb948 hg w6 hbox hb; have n0_ := Aside0.mk (blk_below (g := gb947) (o := .cells #[.slice A0_0 l0_0.length c0_0, .slice A0_1 l0_1.length c0_1] 29 (0, 0)) (zk BK947) hb); have n1_ := Aside0.mk (below_step zB hb); have n2_ := Aside0.mk (hbox); have n3_ := Aside0.mk ((by rw [hg]; exact (below_size zB) : w.heap.size ≤ gb948)); have n4_ := Aside0.mk ((by rw [hg]; exact (below_size zB) : w.heap.size ≤ gb948)); have n5_ := Aside0.mk ((by rw [hg]; exact Nat.ne_of_lt (blk_lt (g := gb947) (o := .cells #[.slice A0_0 l0_0.length c0_0, .slice A0_1 l0_1.length c0_1] 29 (0, 0)) (zk BK947)) : gb947 ≠ gb948)); have n6_ := Aside0.mk ((by rw [hg]; exact Nat.ne_of_gt (blk_lt (g := gb947) (o := .cells #[.slice A0_0 l0_0.length c0_0, .slice A0_1 l0_1.length c0_1] 29 (0, 0)) (zk BK947)) : gb948 ≠ gb947)); clear BK947; clear HB; have BK947 := n0_; have HB := n1_; have BK948 := n2_; have GW948 := n3_; have GE948 := n4_; have NB947_948 := n5_; have NB948_947 := n6_; clear n0_ n1_ n2_ n3_ n4_ n5_ n6_; clear hb hbox hg; have hnb7 := NB947_948.out; have hnc7 := NB948_947.out; have hcz8_0 : w6.cell? ⟨gb947, 0, none⟩ = some (.slice A0_0 l0_0.length c0_0) := (blk_cell BK947.out 0).trans rfl; have hcz8_1 : w6.cell? ⟨gb947, 1, none⟩ = some (.slice A0_1 l0_1.length c0_1) := (blk_cell BK947.out 1).trans rfl; have hfz8_0 := blk_frozen BK947.out 0; have hfz8_1 := blk_frozen BK947.out 1) | (go_at_call 26; (with_reducible refine (ancepsref38_Valid.calls k _ _ l0_0 _ _ l0_1 t949 _ ?side1 ?side2 ?side3 ?side4 A3.out).mono ?_); (case side1 => repeat (first | exact (Kd.C_below HR0_0.out HB.out) | (with_reducible refine Kd.C_alloc ?_ _) | (with_reducible refine Kd.C_drewN ?_ _) | (with_reducible refine Kd.C_drew ?_))); (case side2 => exact HC0_0.out); (case side3 => repeat (first | exact (Kd.C_below HR0_1.out HB.out) | (with_reducible refine Kd.C_alloc ?_ _) | (with_reducible refine Kd.C_drewN ?_ _) | (with_reducible refine Kd.C_drew ?_))); (case side4 => exact HC0_1.out); rintro e w9 ⟨rfl, hb⟩; have n0_ := Aside0.mk (blk_below (g := gb947) (o := .cells #[.slice A0_0 l0_0.length c0_0, .slice A0_1 l0_1.length c0_1] 29 (0, 0)) (zk BK947) hb); have n1_ := Aside0.mk (blk_below (g := gb948) (o := .cells #[.slice none 0 0, .slice none 0 0] 29 (0, 0)) (zk BK948) hb); have n2_ := Aside0.mk (below_step zB hb); clear BK947; clear BK948; clear HB; have BK947 := n0_; have BK948 := n1_; have HB := n2_; clear n0_ n1_ n2_; (try clear hb); (try clear hb2); (try clear hk); (try clear hi)))
 repeat (go_quiet (first | ((with_reducible refine gate_dst (N := 2) rfl ?_); refine box_event ?hg (N := 2) ?hd (cs := #[.slice A0_0 l0_0.length c0_0, .slice A0_1 l0_1.length c0_1]) (t := 29) ?hr ?_; (case hd => rfl); (case hg => rfl); (case hr => first | (go_simp; done) | (go_simp; rfl)); intro gb947 hg w5 hbox hb; have n0_ := Aside0.mk (below_step zB hb); have n1_ := Aside0.mk (hbox); have n2_ := Aside0.mk ((by rw [hg]; exact (below_size zB) : w.heap.size ≤ gb947)); have n3_ := Aside0.mk ((by rw [hg]; exact (below_size zB) : w.heap.size ≤ gb947)); clear HB; have HB := n0_; have BK947 := n1_; have GW947 := n2_; have GE947 := n3_; clear n0_ n1_ n2_ n3_; clear hb hbox hg) | ((with_reducible refine gate_dst (N := 4) rfl ?_); refine box_event ?hg (N := 4) ?hd (cs := #[.slice none 0 0, .slice none 0 0]) (t := 29) ?hr ?_; (case hd => rfl); (case hg => rfl); (case hr => first | (go_simp; done) | (go_simp; rfl)); intro gb948 hg w6 hbox hb; have n0_ := Aside0.mk (blk_below (g := gb947) (o := .cells #[.slice A0_0 l0_0.length c0_0, .slice A0_1 l0_1.length c0_1] 29 (0, 0)) (zk BK947) hb); have n1_ := Aside0.mk (below_step zB hb); have n2_ := Aside0.mk (hbox); have n3_ := Aside0.mk ((by rw [hg]; exact (below_size zB) : w.heap.size ≤ gb948)); have n4_ := Aside0.mk ((by rw [hg]; exact (below_size zB) : w.heap.size ≤ gb948)); have n5_ := Aside0.mk ((by rw [hg]; exact Nat.ne_of_lt (blk_lt (g := gb947) (o := .cells #[.slice A0_0 l0_0.length c0_0, .slice A0_1 l0_1.length c0_1] 29 (0, 0)) (zk BK947)) : gb947 ≠ gb948)); have n6_ := Aside0.mk ((by rw [hg]; exact Nat.ne_of_gt (blk_lt (g := gb947) (o := .cells #[.slice A0_0 l0_0.length c0_0, .slice A0_1 l0_1.length c0_1] 29 (0, 0)) (zk BK947)) : gb948 ≠ gb947)); clear BK947; clear HB; have BK947 := n0_; have HB := n1_; have BK948 := n2_; have GW948 := n3_; have GE948 := n4_; have NB947_948 := n5_; have NB948_947 := n6_; clear n0_ n1_ n2_ n3_ n4_ n5_ n6_; clear hb hbox hg; have hnb7 := NB947_948.out; have hnc7 := NB948_947.out; have hcz8_0 : w6.cell? ⟨gb947, 0, none⟩ = some (.slice A0_0 l0_0.length c0_0) := (blk_cell BK947.out 0).trans rfl; have hcz8_1 : w6.cell? ⟨gb947, 1, none⟩ = some (.slice A0_1 l0_1.length c0_1) := (blk_cell BK947.out 1).trans rfl; have hfz8_0 := blk_frozen BK947.out 0; have hfz8_1 := blk_frozen BK947.out 1) | (go_at_call 26; (with_reducible refine (ancepsref38_Valid.calls k _ _ l0_0 _ _ l0_1 t949 _ ?side1 ?side2 ?side3 ?side4 A3.out).mono ?_); (case side1 => repeat (first | exact (Kd.C_below HR0_0.out HB.out) | (with_reducible refine Kd.C_alloc ?_ _) | (with_reducible refine Kd.C_drewN ?_ _) | (with_reducible refine Kd.C_drew ?_))); (case side2 => exact HC0_0.out); (case side3 => repeat (first | exact (Kd.C_below HR0_1.out HB.out) | (with_reducible refine Kd.C_alloc ?_ _) | (with_reducible refine Kd.C_drewN ?_ _) | (with_reducible refine Kd.C_drew ?_))); (case side4 => exact HC0_1.out); rintro e w9 ⟨rfl, hb⟩; have n0_ := Aside0.mk (blk_below (g := gb947) (o := .cells #[.slice A0_0 l0_0.length c0_0, .slice A0_1 l0_1.length c0_1] 29 (0, 0)) (zk BK947) hb); have n1_ := Aside0.mk (blk_below (g := gb948) (o := .cells #[.slice none 0 0, .slice none 0 0] 29 (0, 0)) (zk BK948) hb); have n2_ := Aside0.mk (below_step zB hb); clear BK947; clear BK948; clear HB; have BK947 := n0_; have BK948 := n1_; have HB := n2_; clear n0_ n1_ n2_; (try clear hb); (try clear hb2); (try clear hk); (try clear hi))); go_upto_if 12 with (first | ((with_reducible refine gate_dst (N := 2) rfl ?_); refine box_event ?hg (N := 2) ?hd (cs := #[.slice A0_0 l0_0.length c0_0, .slice A0_1 l0_1.length c0_1]) (t := 29) ?hr ?_; (case hd => rfl); (case hg => rfl); (case hr => first | (go_simp; done) | (go_simp; rfl)); intro gb947 hg w5 hbox hb; have n0_ := Aside0.mk (below_step zB hb); have n1_ := Aside0.mk (hbox); have n2_ := Aside0.mk ((by rw [hg]; exact (below_size zB) : w.heap.size ≤ gb947)); have n3_ := Aside0.mk ((by rw [hg]; exact (below_size zB) : w.heap.size ≤ gb947)); clear HB; have HB := n0_; have BK947 := n1_; have GW947 := n2_; have GE947 := n3_; clear n0_ n1_ n2_ n3_; clear hb hbox hg) | ((with_reducible refine gate_dst (N := 4) rfl ?_); refine box_event ?hg (N := 4) ?hd (cs := #[.slice none 0 0, .slice none 0 0]) (t := 29) ?hr ?_; (case hd => rfl); (case hg => rfl); (case hr => first | (go_simp; done) | (go_simp; rfl)); intro gb948 hg w6 hbox hb; have n0_ := Aside0.mk (blk_below (g := gb947) (o := .cells #[.slice A0_0 l0_0.length c0_0, .slice A0_1 l0_1.length c0_1] 29 (0, 0)) (zk BK947) hb); have n1_ := Aside0.mk (below_step zB hb); have n2_ := Aside0.mk (hbox); have n3_ := Aside0.mk ((by rw [hg]; exact (below_size zB) : w.heap.size ≤ gb948)); have n4_ := Aside0.mk ((by rw [hg]; exact (below_size zB) : w.heap.size ≤ gb948)); have n5_ := Aside0.mk ((by rw [hg]; exact Nat.ne_of_lt (blk_lt (g := gb947) (o := .cells #[.slice A0_0 l0_0.length c0_0, .slice A0_1 l0_1.length c0_1] 29 (0, 0)) (zk BK947)) : gb947 ≠ gb948)); have n6_ := Aside0.mk ((by rw [hg]; exact Nat.ne_of_gt (blk_lt (g := gb947) (o := .cells #[.slice A0_0 l0_0.length c0_0, .slice A0_1 l0_1.length c0_1] 29 (0, 0)) (zk BK947)) : gb948 ≠ gb947)); clear BK947; clear HB; have BK947 := n0_; have HB := n1_; have BK948 := n2_; have GW948 := n3_; have GE948 := n4_; have NB947_948 := n5_; have NB948_947 := n6_; clear n0_ n1_ n2_ n3_ n4_ n5_ n6_; clear hb hbox hg; have hnb7 := NB947_948.out; have hnc7 := NB948_947.out; have hcz8_0 : w6.cell? ⟨gb947, 0, none⟩ = some (.slice A0_0 l0_0.length c0_0) := (blk_cell BK947.out 0).trans rfl; have hcz8_1 : w6.cell? ⟨gb947, 1, none⟩ = some (.slice A0_1 l0_1.length c0_1) := (blk_cell BK947.out 1).trans rfl; have hfz8_0 := blk_frozen BK947.out 0; have hfz8_1 := blk_frozen BK947.out 1) | (go_at_call 26; (with_reducible refine (ancepsref38_Valid.calls k _ _ l0_0 _ _ l0_1 t949 _ ?side1 ?side2 ?side3 ?side4 A3.out).mono ?_); (case side1 => repeat (first | exact (Kd.C_below HR0_0.out HB.out) | (with_reducible refine Kd.C_alloc ?_ _) | (with_reducible refine Kd.C_drewN ?_ _) | (with_reducible refine Kd.C_drew ?_))); (case side2 => exact HC0_0.out); (case side3 => repeat (first | exact (Kd.C_below HR0_1.out HB.out) | (with_reducible refine Kd.C_alloc ?_ _) | (with_reducible refine Kd.C_drewN ?_ _) | (with_reducible refine Kd.C_drew ?_))); (case side4 => exact HC0_1.out); rintro e w9 ⟨rfl, hb⟩; have n0_ := Aside0.mk (blk_below (g := gb947) (o := .cells #[.slice A0_0 l0_0.length c0_0, .slice A0_1 l0_1.length c0_1] 29 (0, 0)) (zk BK947) hb); have n1_ := Aside0.mk (blk_below (g := gb948) (o := .cells #[.slice none 0 0, .slice none 0 0] 29 (0, 0)) (zk BK948) hb); have n2_ := Aside0.mk (below_step zB hb); clear BK947; clear BK948; clear HB; have BK947 := n0_; have BK948 := n1_; have HB := n2_; clear n0_ n1_ n2_; (try clear hb); (try clear hb2); (try clear hk); (try clear hi))))
 (try simp only [Act.put, List.setIfInBounds_toArray, List.set_cons_zero, List.set_cons_succ])
 have H := HC4.out
 clear HC4
 by_cases c10 : t949 = 0
 ·rw [if_pos c10] at H
  have c10b0 : (t949 == 0) = true := beq_iff_eq.mpr c10
  have c10b1 : (t949 != 0) = false := bne_eq_false_iff_eq.mpr c10
  clear c10
  (first | rw [c10b0] | (simp only [i64_w, i32_w]; rw [c10b0]) | skip)
  (try rw [c10b1])
  replace H := Option.bind_eq_some_iff.mp H
  obtain ⟨t950, A110, H⟩ := H
  replace H : (if t950 = 0 then (ancepsref38_Project.l0 k l1 0 l0_0 l0_1) else (some (([] : List Int), ([] : List Int), t950))) = some (r1, r2, r3) := H
  have A11 := Aside0.mk A110
  clear A110
  have HC12 := Aside0.mk H
  clear H
  go_upto_if 18 with (first | (go_at_call 54; (with_reducible refine (ancepsref38_Variables.calls k _ _ l1 t950 _ ?side1 ?side2 A11.out).mono ?_); (case side1 => repeat (first | exact (Kd.C_below HR1.out HB.out) | (with_reducible refine Kd.C_alloc ?_ _) | (with_reducible refine Kd.C_drewN ?_ _) | (with_reducible refine Kd.C_drew ?_))); (case side2 => exact HC1.out); rintro e w' ⟨rfl, ⟨nd, rfl⟩⟩; (try first | exact ⟨rfl, _, World.drewN_drewN _ _ _⟩ | exact ⟨rfl, _, Eq.trans (World.drewN_drewN _ _ _) (congrArg (World.drewN _) (Nat.add_assoc _ _ _))⟩)))
  repeat (go_quiet (first | (go_at_call 54; (with_reducible refine (ancepsref38_Variables.calls k _ _ l1 t950 _ ?side1 ?side2 A11.out).mono ?_); (case side1 => repeat (first | exact (Kd.C_below HR1.out HB.out) | (with_reducible refine Kd.C_alloc ?_ _) | (with_reducible refine Kd.C_drewN ?_ _) | (with_reducible refine Kd.C_drew ?_))); (case side2 => exact HC1.out); rintro e w' ⟨rfl, ⟨nd, rfl⟩⟩; (try first | exact ⟨rfl, _, World.drewN_drewN _ _ _⟩ | exact ⟨rfl, _, Eq.trans (World.drewN_drewN _ _ _) (congrArg (World.drewN _) (Nat.add_assoc _ _ _))⟩))); go_upto_if 18 with (first | (go_at_call 54; (with_reducible refine (ancepsref38_Variables.calls k _ _ l1 t950 _ ?side1 ?side2 A11.out).mono ?_); (case side1 => repeat (first | exact (Kd.C_below HR1.out HB.out) | (with_reducible refine Kd.C_alloc ?_ _) | (with_reducible refine Kd.C_drewN ?_ _) | (with_reducible refine Kd.C_drew ?_))); (case side2 => exact HC1.out); rintro e w' ⟨rfl, ⟨nd, rfl⟩⟩; (try first | exact ⟨rfl, _, World.drewN_drewN _ _ _⟩ | exact ⟨rfl, _, Eq.trans (World.drewN_drewN _ _ _) (congrArg (World.drewN _) (Nat.add_assoc _ _ _))⟩))))
  (try simp only [Act.put, List.setIfInBounds_toArray, List.set_cons_zero, List.set_cons_succ])
  have H := HC12.out
  clear HC12
  by_cases c13 : t950 = 0
  ·rw [if_pos c13] at H
   have c13b0 : (t950 == 0) = true := beq_iff_eq.mpr c13
   have c13b1 : (t950 != 0) = false := bne_eq_false_iff_eq.mpr c13
   clear c13
   (first | rw [c13b0] | (simp only [i64_w, i32_w]; rw [c13b0]) | skip)
   (try rw [c13b1])
   have H' := Aside0.mk H
   clear H
   go_wp2
   repeat (go_quiet (fail); try go_wp2)
   go_loopg [8] k (fun kq v8 w' => ∃ (x8_1 : Int), v8 = .int .i64 x8_1 ∧ Aside0 (ancepsref38_Project.l0 kq l1 x8_1 l0_0 l0_1 = some (r1, r2, r3)) ∧ Aside0 (kq ≤ k) ∧ Aside0 (w'.heap[gb947]? = some (.cells #[(.slice A0_0 l0_0.length c0_0), (.slice A0_1 l0_1.length c0_1)] 29 (0, 0))) ∧ Aside0 (w'.heap[gb948]? = some (.cells #[(.slice none 0 0), (.slice none 0 0)] 29 (0, 0))) ∧ Aside0 (Below w.heap.size w w'))
   case atStart => exact ⟨(0), zT, H', ⟨Nat.le_refl _⟩, ⟨by (with_reducible repeat (first | refine blk_drewN ?_ _ | refine blk_drew ?_ | refine blk_alloc ?_ _)); exact BK947.out⟩, ⟨by (with_reducible repeat (first | refine blk_drewN ?_ _ | refine blk_drew ?_ | refine blk_alloc ?_ _)); exact BK948.out⟩, ⟨by repeat (first | (with_reducible first | exact HB.out | apply below_alloc | apply pw_below_drewN | apply below_drew1 | refine below_set ?_ GE947.out | refine below_set ?_ GE948.out) | exact HB.out)⟩⟩
   case round =>
    clear H'
    try clear c10
    try clear c10b0
    try clear c10b1
    try clear c13
    try clear c13b0
    try clear c13b1
    try clear hcz8_0
    try clear hcz8_1
    try clear hfz8_0
    try clear hfz8_1
    obtain ⟨x8_1, rfl, HA, HK1, BK947, BK948, HB⟩ := hrel
    cases gk with
    | zero => exact absurd HA.out (by simp [ancepsref38_Project.l0])
    | succ k1 =>
     have H := HA.out
     clear HA
     simp only [ancepsref38_Project.l0] at H
     by_cases c14 : x8_1 < (l1.length : Int)
     ·rw [if_pos c14] at H
      have c14b0 : decide (x8_1 < (l1.length : Int)) = true := decide_eq_true c14
      clear c14
      by_cases c15 : 0 ≤ x8_1
      ·rw [if_pos c15] at H
       have c15b0 : decide (0 ≤ x8_1) = true := decide_eq_true c15
       clear c15
       replace H := Option.bind_eq_some_iff.mp H
       obtain ⟨t952, A160, H⟩ := H
       replace H : (if t952 = true then (ancepsref38_Project.l0 k1 l1 (wrap64 (x8_1 + 1)) l0_0 l0_1) else (some (([] : List Int), ([] : List Int), 4))) = some (r1, r2, r3) := H
       have A16 := Aside0.mk A160
       clear A160
       have HC17 := Aside0.mk H
       clear H
       have hnb18 := NB947_948.out
       have hnc18 := NB948_947.out
       have hcz19_0 : wr.cell? ⟨gb947, 0, none⟩ = some (.slice A0_0 l0_0.length c0_0) := (blk_cell BK947.out 0).trans rfl
       have hcz19_1 : wr.cell? ⟨gb947, 1, none⟩ = some (.slice A0_1 l0_1.length c0_1) := (blk_cell BK947.out 1).trans rfl
       have hfz19_0 := blk_frozen BK947.out 0
       have hfz19_1 := blk_frozen BK947.out 1
       have p951 : 0 ≤ (x8_1 : Int) := of_decide_eq_true zh
       have q951 : x8_1 < (l1.length : Int) := of_decide_eq_true zh
       obtain ⟨ad951, e951, hx951_0⟩ := Kd.at_int HR1.out x8_1 p951 q951
       cases e951
       replace hx951_0 := (HB.out.cell (World.block_lt_of_cell? w _ hx951_0)).trans hx951_0
       replace p951 := eq_true p951
       replace q951 := eq_true q951
       go_upto_if 34 with (first | (go_at_call 45; (with_reducible refine (ancepsref38_in.calls k1 _ _ l0_0 (rd l1 x8_1) t952 _ ?side1 ?side2 A16.out).mono ?_); (case side1 => repeat (first | exact (Kd.C_below HR0_0.out HB.out) | (with_reducible refine Kd.C_alloc ?_ _) | (with_reducible refine Kd.C_drewN ?_ _) | (with_reducible refine Kd.C_drew ?_))); (case side2 => exact HC0_0.out); rintro e w' ⟨rfl, ⟨nd, rfl⟩⟩; (try first | exact ⟨rfl, _, World.drewN_drewN _ _ _⟩ | exact ⟨rfl, _, Eq.trans (World.drewN_drewN _ _ _) (congrArg (World.drewN _) (Nat.add_assoc _ _ _))⟩)))
       repeat (go_quiet (first | (go_at_call 45; (with_reducible refine (ancepsref38_in.calls k1 _ _ l0_0 (rd l1 x8_1) t952 _ ?side1 ?side2 A16.out).mono ?_); (case side1 => repeat (first | exact (Kd.C_below HR0_0.out HB.out) | (with_reducible refine Kd.C_alloc ?_ _) | (with_reducible refine Kd.C_drewN ?_ _) | (with_reducible refine Kd.C_drew ?_))); (case side2 => exact HC0_0.out); rintro e w' ⟨rfl, ⟨nd, rfl⟩⟩; (try first | exact ⟨rfl, _, World.drewN_drewN _ _ _⟩ | exact ⟨rfl, _, Eq.trans (World.drewN_drewN _ _ _) (congrArg (World.drewN _) (Nat.add_assoc _ _ _))⟩))); go_upto_if 34 with (first | (go_at_call 45; (with_reducible refine (ancepsref38_in.calls k1 _ _ l0_0 (rd l1 x8_1) t952 _ ?side1 ?side2 A16.out).mono ?_); (case side1 => repeat (first | exact (Kd.C_below HR0_0.out HB.out) | (with_reducible refine Kd.C_alloc ?_ _) | (with_reducible refine Kd.C_drewN ?_ _) | (with_reducible refine Kd.C_drew ?_))); (case side2 => exact HC0_0.out); rintro e w' ⟨rfl, ⟨nd, rfl⟩⟩; (try first | exact ⟨rfl, _, World.drewN_drewN _ _ _⟩ | exact ⟨rfl, _, Eq.trans (World.drewN_drewN _ _ _) (congrArg (World.drewN _) (Nat.add_assoc _ _ _))⟩))))
       (try simp only [Act.put, List.setIfInBounds_toArray, List.set_cons_zero, List.set_cons_succ])
       have H := HC17.out
       clear HC17
       by_cases c20 : t952 = true
       ·subst c20
        have H1 : (ancepsref38_Project.l0 k1 l1 (wrap64 (x8_1 + 1)) l0_0 l0_1) = some (r1, r2, r3) := by rw [if_pos rfl] at H; exact H
        clear H
        have H := H1
        clear H1
        have H' := Aside0.mk H
        clear H
        go_wp2
        repeat (go_quiet (fail); try go_wp2)
        go_roundg k1
        case measure => have := HK1.out; omega
        case rel => exact ⟨(wrap64 (x8_1 + 1)), zT, H', ⟨by have := HK1.out; omega⟩, ⟨by (with_reducible repeat (first | refine blk_drewN ?_ _ | refine blk_drew ?_ | refine blk_alloc ?_ _)); exact BK947.out⟩, ⟨by (with_reducible repeat (first | refine blk_drewN ?_ _ | refine blk_drew ?_ | refine blk_alloc ?_ _)); exact BK948.out⟩, ⟨by repeat (first | (with_reducible first | exact HB.out | apply below_alloc | apply pw_below_drewN | apply below_drew1 | refine below_set ?_ GE947.out | refine below_set ?_ GE948.out) | exact HB.out)⟩⟩
       ·replace c20 := Bool.eq_false_iff.mpr c20
        subst c20
        have H1 : (some (([] : List Int), ([] : List Int), 4)) = some (r1, r2, r3) := by rw [if_neg (show ¬ (false = true) by decide)] at H; exact H
        clear H
        have H := H1
        clear H1
        simp only [Option.some.injEq, Prod.mk.injEq] at H
        obtain ⟨rfl, rfl, rfl⟩ := H
        have hnb21 := NB948_947.out
        have hnc21 := NB947_948.out
        have hcz22_0 : wr.cell? ⟨gb948, 0, none⟩ = some (.slice none 0 0) := (blk_cell BK948.out 0).trans rfl
        have hcz22_1 : wr.cell? ⟨gb948, 1, none⟩ = some (.slice none 0 0) := (blk_cell BK948.out 1).trans rfl
        have hfz22_0 := blk_frozen BK948.out 0
        have hfz22_1 := blk_frozen BK948.out 1
        go_wp2
        repeat (go_quiet (fail); try go_wp2)
        refine bodyPost_ret (results_ct rfl _ _ gb948 29 #[.slice none 0 0, .slice none 0 0] (0, 0) _ rfl (by (with_reducible repeat (first | refine blk_drewN ?_ _ | refine blk_drew ?_ | refine blk_alloc ?_ _)); refine blk_put (cs := #[.slice none 0 0, .slice none 0 0]) ?_ 1 _ rfl; (with_reducible repeat (first | refine blk_drewN ?_ _ | refine blk_drew ?_ | refine blk_alloc ?_ _)); refine blk_put (cs := #[.slice none 0 0, .slice none 0 0]) ?_ 0 _ rfl; (with_reducible repeat (first | refine blk_drewN ?_ _ | refine blk_drew ?_ | refine blk_alloc ?_ _)); exact BK948.out) Try.underlying29 rfl zK) rfl ?_
        exact ⟨_, _, by first | rfl | (simp [errW_none, errW_some] <;> rfl) | (simp [*, errW_none, errW_some] <;> rfl), by first | exact Kd.R_nil _ _ _ _ _ | exact Kd.N_nil _ _ _ _ _ | exact Kd.V_nil _ _ _ _ _ | exact Kd.Q_nil _ _ _ _ _ | exact Kd.S_nil _ _ _ _ _, by first | exact Kd.R_nil _ _ _ _ _ | exact Kd.N_nil _ _ _ _ _ | exact Kd.V_nil _ _ _ _ _ | exact Kd.Q_nil _ _ _ _ _ | exact Kd.S_nil _ _ _ _ _, by repeat (first | (with_reducible first | exact HB.out | apply below_alloc | apply pw_below_drewN | apply below_drew1 | refine below_set ?_ GE947.out | refine below_set ?_ GE948.out) | exact HB.out)⟩
      ·rw [if_neg c15] at H
       exact absurd H (by simp)
     ·rw [if_neg c14] at H
      have c14b0 : decide (x8_1 < (l1.length : Int)) = false := decide_eq_false c14
      clear c14
      replace H := Option.bind_eq_some_iff.mp H
      obtain ⟨⟨t953, t956⟩, A230, H⟩ := H
      replace H : (some (t953, t956, 0)) = some (r1, r2, r3) := H
      have A23 := Aside0.mk A230
      clear A230
      simp only [Option.some.injEq, Prod.mk.injEq] at H
      obtain ⟨rfl, rfl, rfl⟩ := H
      have hnb24 := NB947_948.out
      have hnc24 := NB948_947.out
      have hcz25_0 : wr.cell? ⟨gb947, 0, none⟩ = some (.slice A0_0 l0_0.length c0_0) := (blk_cell BK947.out 0).trans rfl
      have hcz25_1 : wr.cell? ⟨gb947, 1, none⟩ = some (.slice A0_1 l0_1.length c0_1) := (blk_cell BK947.out 1).trans rfl
      have hfz25_0 := blk_frozen BK947.out 0
      have hfz25_1 := blk_frozen BK947.out 1
      go_wp2_with (first | (go_at_call 52; (with_reducible refine (ancepsref38_projected.calls k1 _ _ l0_0 _ _ l0_1 _ _ l1 t953 t956 _ ?side1 ?side2 ?side3 ?side4 ?side5 ?side6 A23.out).mono ?_); (case side1 => repeat (first | exact (Kd.C_below HR0_0.out HB.out) | (with_reducible refine Kd.C_alloc ?_ _) | (with_reducible refine Kd.C_drewN ?_ _) | (with_reducible refine Kd.C_drew ?_))); (case side2 => exact HC0_0.out); (case side3 => repeat (first | exact (Kd.C_below HR0_1.out HB.out) | (with_reducible refine Kd.C_alloc ?_ _) | (with_reducible refine Kd.C_drewN ?_ _) | (with_reducible refine Kd.C_drew ?_))); (case side4 => exact HC0_1.out); (case side5 => repeat (first | exact (Kd.C_below HR1.out HB.out) | (with_reducible refine Kd.C_alloc ?_ _) | (with_reducible refine Kd.C_drewN ?_ _) | (with_reducible refine Kd.C_drew ?_))); (case side6 => exact HC1.out); rintro e w26 ⟨v954, v957, rfl, ho0, ho1, hb⟩; have n0_ := Aside0.mk (Kd.R_lower ho0 (below_size zB)); have n1_ := Aside0.mk (Kd.R_lower ho1 (below_size zB)); have n2_ := Aside0.mk (blk_below (g := gb947) (o := .cells #[.slice A0_0 l0_0.length c0_0, .slice A0_1 l0_1.length c0_1] 29 (0, 0)) (zk BK947) hb); have n3_ := Aside0.mk (blk_below (g := gb948) (o := .cells #[.slice none 0 0, .slice none 0 0] 29 (0, 0)) (zk BK948) hb); have n4_ := Aside0.mk (below_step zB hb); clear BK947; clear BK948; clear HB; have HO955 := n0_; have HO958 := n1_; have BK947 := n2_; have BK948 := n3_; have HB := n4_; clear n0_ n1_ n2_ n3_ n4_; (try clear hb); (try clear hb2); (try clear hk); (try clear hi); (try clear ho0); (try clear ho1); obtain ⟨Ao27, co27, eo27⟩ := Kd.R_slice HO955.out; subst eo27; have hcz28_0 : w26.cell? ⟨gb948, 0, none⟩ = some (.slice none 0 0) := (blk_cell BK948.out 0).trans rfl; have hcz28_1 : w26.cell? ⟨gb948, 1, none⟩ = some (.slice none 0 0) := (blk_cell BK948.out 1).trans rfl; have hfz28_0 := blk_frozen BK948.out 0; have hfz28_1 := blk_frozen BK948.out 1; obtain ⟨Ao29, co29, eo29⟩ := Kd.R_slice HO958.out; subst eo29))
      repeat (go_quiet (first | (go_at_call 52; (with_reducible refine (ancepsref38_projected.calls k1 _ _ l0_0 _ _ l0_1 _ _ l1 t953 t956 _ ?side1 ?side2 ?side3 ?side4 ?side5 ?side6 A23.out).mono ?_); (case side1 => repeat (first | exact (Kd.C_below HR0_0.out HB.out) | (with_reducible refine Kd.C_alloc ?_ _) | (with_reducible refine Kd.C_drewN ?_ _) | (with_reducible refine Kd.C_drew ?_))); (case side2 => exact HC0_0.out); (case side3 => repeat (first | exact (Kd.C_below HR0_1.out HB.out) | (with_reducible refine Kd.C_alloc ?_ _) | (with_reducible refine Kd.C_drewN ?_ _) | (with_reducible refine Kd.C_drew ?_))); (case side4 => exact HC0_1.out); (case side5 => repeat (first | exact (Kd.C_below HR1.out HB.out) | (with_reducible refine Kd.C_alloc ?_ _) | (with_reducible refine Kd.C_drewN ?_ _) | (with_reducible refine Kd.C_drew ?_))); (case side6 => exact HC1.out); rintro e w26 ⟨v954, v957, rfl, ho0, ho1, hb⟩; have n0_ := Aside0.mk (Kd.R_lower ho0 (below_size zB)); have n1_ := Aside0.mk (Kd.R_lower ho1 (below_size zB)); have n2_ := Aside0.mk (blk_below (g := gb947) (o := .cells #[.slice A0_0 l0_0.length c0_0, .slice A0_1 l0_1.length c0_1] 29 (0, 0)) (zk BK947) hb); have n3_ := Aside0.mk (blk_below (g := gb948) (o := .cells #[.slice none 0 0, .slice none 0 0] 29 (0, 0)) (zk BK948) hb); have n4_ := Aside0.mk (below_step zB hb); clear BK947; clear BK948; clear HB; have HO955 := n0_; have HO958 := n1_; have BK947 := n2_; have BK948 := n3_; have HB := n4_; clear n0_ n1_ n2_ n3_ n4_; (try clear hb); (try clear hb2); (try clear hk); (try clear hi); (try clear ho0); (try clear ho1); obtain ⟨Ao27, co27, eo27⟩ := Kd.R_slice HO955.out; subst eo27; have hcz28_0 : w26.cell? ⟨gb948, 0, none⟩ = some (.slice none 0 0) := (blk_cell BK948.out 0).trans rfl; have hcz28_1 : w26.cell? ⟨gb948, 1, none⟩ = some (.slice none 0 0) := (blk_cell BK948.out 1).trans rfl; have hfz28_0 := blk_frozen BK948.out 0; have hfz28_1 := blk_frozen BK948.out 1; obtain ⟨Ao29, co29, eo29⟩ := Kd.R_slice HO958.out; subst eo29)); try go_wp2_with (first | (go_at_call 52; (with_reducible refine (ancepsref38_projected.calls k1 _ _ l0_0 _ _ l0_1 _ _ l1 t953 t956 _ ?side1 ?side2 ?side3 ?side4 ?side5 ?side6 A23.out).mono ?_); (case side1 => repeat (first | exact (Kd.C_below HR0_0.out HB.out) | (with_reducible refine Kd.C_alloc ?_ _) | (with_reducible refine Kd.C_drewN ?_ _) | (with_reducible refine Kd.C_drew ?_))); (case side2 => exact HC0_0.out); (case side3 => repeat (first | exact (Kd.C_below HR0_1.out HB.out) | (with_reducible refine Kd.C_alloc ?_ _) | (with_reducible refine Kd.C_drewN ?_ _) | (with_reducible refine Kd.C_drew ?_))); (case side4 => exact HC0_1.out); (case side5 => repeat (first | exact (Kd.C_below HR1.out HB.out) | (with_reducible refine Kd.C_alloc ?_ _) | (with_reducible refine Kd.C_drewN ?_ _) | (with_reducible refine Kd.C_drew ?_))); (case side6 => exact HC1.out); rintro e w26 ⟨v954, v957, rfl, ho0, ho1, hb⟩; have n0_ := Aside0.mk (Kd.R_lower ho0 (below_size zB)); have n1_ := Aside0.mk (Kd.R_lower ho1 (below_size zB)); have n2_ := Aside0.mk (blk_below (g := gb947) (o := .cells #[.slice A0_0 l0_0.length c0_0, .slice A0_1 l0_1.length c0_1] 29 (0, 0)) (zk BK947) hb); have n3_ := Aside0.mk (blk_below (g := gb948) (o := .cells #[.slice none 0 0, .slice none 0 0] 29 (0, 0)) (zk BK948) hb); have n4_ := Aside0.mk (below_step zB hb); clear BK947; clear BK948; clear HB; have HO955 := n0_; have HO958 := n1_; have BK947 := n2_; have BK948 := n3_; have HB := n4_; clear n0_ n1_ n2_ n3_ n4_; (try clear hb); (try clear hb2); (try clear hk); (try clear hi); (try clear ho0); (try clear ho1); obtain ⟨Ao27, co27, eo27⟩ := Kd.R_slice HO955.out; subst eo27; have hcz28_0 : w26.cell? ⟨gb948, 0, none⟩ = some (.slice none 0 0) := (blk_cell BK948.out 0).trans rfl; have hcz28_1 : w26.cell? ⟨gb948, 1, none⟩ = some (.slice none 0 0) := (blk_cell BK948.out 1).trans rfl; have hfz28_0 := blk_frozen BK948.out 0; have hfz28_1 := blk_frozen BK948.out 1; obtain ⟨Ao29, co29, eo29⟩ := Kd.R_slice HO958.out; subst eo29)))
      refine bodyPost_ret (results_ct rfl _ _ gb948 29 #[.slice Ao27 t953.length co27, .slice Ao29 t956.length co29] (0, 0) _ rfl (by (with_reducible repeat (first | refine blk_drewN ?_ _ | refine blk_drew ?_ | refine blk_alloc ?_ _)); refine blk_put (cs := #[.slice Ao27 t953.length co27, .slice none 0 0]) ?_ 1 _ rfl; (with_reducible repeat (first | refine blk_drewN ?_ _ | refine blk_drew ?_ | refine blk_alloc ?_ _)); refine blk_put (cs := #[.slice none 0 0, .slice none 0 0]) ?_ 0 _ rfl; (with_reducible repeat (first | refine blk_drewN ?_ _ | refine blk_drew ?_ | refine blk_alloc ?_ _)); exact BK948.out) Try.underlying29 rfl zK) rfl ?_
      exact ⟨_, _, by first | rfl | (simp [errW_none, errW_some] <;> rfl) | (simp [*, errW_none, errW_some] <;> rfl), by (with_reducible repeat (first | apply Kd.R_alloc | apply Kd.R_drewN | apply Kd.R_drew)); exact Kd.R_mono (Kd.R_far (p := ⟨gb948, 1, none⟩) (Kd.R_far (p := ⟨gb948, 0, none⟩) (Kd.R_types HO955.out BK948.out (by decide)) (fun _ hk => hk.2) (.slice Ao27 t953.length co27)) (fun _ hk => hk.2) (.slice Ao29 t956.length co29)) (fun _ hk => hk.1), by (with_reducible repeat (first | apply Kd.R_alloc | apply Kd.R_drewN | apply Kd.R_drew)); exact Kd.R_mono (Kd.R_far (p := ⟨gb948, 1, none⟩) (Kd.R_far (p := ⟨gb948, 0, none⟩) (Kd.R_types HO958.out BK948.out (by decide)) (fun _ hk => hk.2) (.slice Ao27 t953.length co27)) (fun _ hk => hk.2) (.slice Ao29 t956.length co29)) (fun _ hk => hk.1), by repeat (first | (with_reducible first | exact HB.out | apply below_alloc | apply pw_below_drewN | apply below_drew1 | refine below_set ?_ GE947.out | refine below_set ?_ GE948.out) | exact HB.out)⟩
  ·rw [if_neg c13] at H
   have c13b0 : (t950 == 0) = false := beq_eq_false_iff_ne.mpr c13
   have c13b1 : (t950 != 0) = true := bne_iff_ne.mpr c13
   (first | rw [c13b0] | (simp only [i64_w, i32_w]; rw [c13b0]) | skip)
   (try rw [c13b1])
   simp only [Option.some.injEq, Prod.mk.injEq] at H
   obtain ⟨rfl, rfl, rfl⟩ := H
   have hnb30 := NB948_947.out
   have hnc30 := NB947_948.out
   have hcz31_0 : w9.cell? ⟨gb948, 0, none⟩ = some (.slice none 0 0) := (blk_cell BK948.out 0).trans rfl
   have hcz31_1 : w9.cell? ⟨gb948, 1, none⟩ = some (.slice none 0 0) := (blk_cell BK948.out 1).trans rfl
   have hfz31_0 := blk_frozen BK948.out 0
   have hfz31_1 := blk_frozen BK948.out 1
   go_wp2
   repeat (go_quiet (fail); try go_wp2)
   refine bodyPost_ret (results_ct rfl _ _ gb948 29 #[.slice none 0 0, .slice none 0 0] (0, 0) _ rfl (by (with_reducible repeat (first | refine blk_drewN ?_ _ | refine blk_drew ?_ | refine blk_alloc ?_ _)); refine blk_put (cs := #[.slice none 0 0, .slice none 0 0]) ?_ 1 _ rfl; (with_reducible repeat (first | refine blk_drewN ?_ _ | refine blk_drew ?_ | refine blk_alloc ?_ _)); refine blk_put (cs := #[.slice none 0 0, .slice none 0 0]) ?_ 0 _ rfl; (with_reducible repeat (first | refine blk_drewN ?_ _ | refine blk_drew ?_ | refine blk_alloc ?_ _)); exact BK948.out) Try.underlying29 rfl zK) rfl ?_
   exact ⟨_, _, by first | rfl | (simp [errW_none, errW_some] <;> rfl) | (simp [*, errW_none, errW_some] <;> rfl), by first | exact Kd.R_nil _ _ _ _ _ | exact Kd.N_nil _ _ _ _ _ | exact Kd.V_nil _ _ _ _ _ | exact Kd.Q_nil _ _ _ _ _ | exact Kd.S_nil _ _ _ _ _, by first | exact Kd.R_nil _ _ _ _ _ | exact Kd.N_nil _ _ _ _ _ | exact Kd.V_nil _ _ _ _ _ | exact Kd.Q_nil _ _ _ _ _ | exact Kd.S_nil _ _ _ _ _, by repeat (first | (with_reducible first | exact HB.out | apply below_alloc | apply pw_below_drewN | apply below_drew1 | refine below_set ?_ GE947.out | refine below_set ?_ GE948.out) | exact HB.out)⟩
 ·rw [if_neg c10] at H
  have c10b0 : (t949 == 0) = false := beq_eq_false_iff_ne.mpr c10
  have c10b1 : (t949 != 0) = true := bne_iff_ne.mpr c10
  (first | rw [c10b0] | (simp only [i64_w, i32_w]; rw [c10b0]) | skip)
  (try rw [c10b1])
  simp only [Option.some.injEq, Prod.mk.injEq] at H
  obtain ⟨rfl, rfl, rfl⟩ := H
  have hnb32 := NB948_947.out
  have hnc32 := NB947_948.out
  have hcz33_0 : w9.cell? ⟨gb948, 0, none⟩ = some (.slice none 0 0) := (blk_cell BK948.out 0).trans rfl
  have hcz33_1 : w9.cell? ⟨gb948, 1, none⟩ = some (.slice none 0 0) := (blk_cell BK948.out 1).trans rfl
  have hfz33_0 := blk_frozen BK948.out 0
  have hfz33_1 := blk_frozen BK948.out 1
  go_wp2
  repeat (go_quiet (fail); try go_wp2)
  refine bodyPost_ret (results_ct rfl _ _ gb948 29 #[.slice none 0 0, .slice none 0 0] (0, 0) _ rfl (by (with_reducible repeat (first | refine blk_drewN ?_ _ | refine blk_drew ?_ | refine blk_alloc ?_ _)); refine blk_put (cs := #[.slice none 0 0, .slice none 0 0]) ?_ 1 _ rfl; (with_reducible repeat (first | refine blk_drewN ?_ _ | refine blk_drew ?_ | refine blk_alloc ?_ _)); refine blk_put (cs := #[.slice none 0 0, .slice none 0 0]) ?_ 0 _ rfl; (with_reducible repeat (first | refine blk_drewN ?_ _ | refine blk_drew ?_ | refine blk_alloc ?_ _)); exact BK948.out) Try.underlying29 rfl zK) rfl ?_
  exact ⟨_, _, by first | rfl | (simp [errW_none, errW_some] <;> rfl) | (simp [*, errW_none, errW_some] <;> rfl), by first | exact Kd.R_nil _ _ _ _ _ | exact Kd.N_nil _ _ _ _ _ | exact Kd.V_nil _ _ _ _ _ | exact Kd.Q_nil _ _ _ _ _ | exact Kd.S_nil _ _ _ _ _, by first | exact Kd.R_nil _ _ _ _ _ | exact Kd.N_nil _ _ _ _ _ | exact Kd.V_nil _ _ _ _ _ | exact Kd.Q_nil _ _ _ _ _ | exact Kd.S_nil _ _ _ _ _, by repeat (first | (with_reducible first | exact HB.out | apply below_alloc | apply pw_below_drewN | apply below_drew1 | refine below_set ?_ GE947.out | refine below_set ?_ GE948.out) | exact HB.out)⟩
/-! ### ancepsref38_rows: function 72 -/
def ancepsref38_rows.l0 : Nat → Int → List Int → Int → Option (List Int)
 | 0, _, _, _ => none
 | k + 1, x0, x3, x4 => if 0 ≤ x0 then (if x4 < (shl .i64 1 x0) then (if x3.length < 17592186044416 then (ancepsref38_rows.l0 k x0 (x3 ++ [x4]) (wrap64 (x4 + 1))) else (none)) else (some x3)) else (none)
def ancepsref38_rows.f (k : Nat) (a0 : Int) : Option (List Int) := ancepsref38_rows.l0 k a0 ([] : List Int) 0
theorem ancepsref38_rows.mono_l : ∀ k, (∀ y0 y1 y2, LeO (ancepsref38_rows.l0 k y0 y1 y2) (ancepsref38_rows.l0 (k + 1) y0 y1 y2))
 | 0 => fun _ _ _ r h => by simp [ancepsref38_rows.l0] at h
 | k + 1 => by
  have ih0 := ancepsref38_rows.mono_l k
  ·intro y0 y1 y2
   unfold ancepsref38_rows.l0
   repeat' first
   | (with_reducible exact ih0 _ _ _)
   | (with_reducible exact LeO.refl _)
   | (with_reducible exact LeO.none _)
   | (with_reducible refine LeO.ite ?_ ?_)
   | (with_reducible refine LeO.bind ?_ (fun _ => ?_))
   | exact ih0 _ _ _
   | exact LeO.none _
   | refine LeO.ite ?_ ?_
   | refine LeO.bind ?_ (fun _ => ?_)
theorem ancepsref38_rows.mono : ∀ a0 k, LeO (ancepsref38_rows.f k a0) (ancepsref38_rows.f (k + 1) a0) := by
 intro a0 k
 have ih0 := ancepsref38_rows.mono_l k
 unfold ancepsref38_rows.f
 repeat' first
   | (with_reducible exact ih0 _ _ _)
   | (with_reducible exact LeO.refl _)
   | (with_reducible exact LeO.none _)
   | (with_reducible refine LeO.ite ?_ ?_)
   | (with_reducible refine LeO.bind ?_ (fun _ => ?_))
   | exact ih0 _ _ _
   | exact LeO.none _
   | refine LeO.ite ?_ ?_
   | refine LeO.bind ?_ (fun _ => ?_)
set_option maxHeartbeats 8000000 in
set_option maxRecDepth 100000 in
theorem ancepsref38_rows.calls (k : Nat) (a0 : Int) (r : List Int) (w : World) (h : ancepsref38_rows.f k a0 = some r) :
  Calls Try.prog 72 #[.int .i64 a0] w fun e w' => ∃ v0_ : Value, e = .returned (v0_) ∧ Kd.R (Kd.int .i64) 3 w' w.heap.size (fun _ => True) v0_ r ∧ Below w.heap.size w w' := by
 have HB := Aside0.mk (Below.refl w.heap.size w)
 have H : (ancepsref38_rows.l0 k a0 ([] : List Int) 0) = some r := h
 clear h
 have H' := Aside0.mk H
 clear H
 go_enter Try.func72, Try.ntmps72
 go_wp2
 go_loopg [3, 4] k (fun kq v3 v4 w' => ∃ (x3_1 : List Int) (x4_1 : Int), v4 = .int .i64 x4_1 ∧ Aside0 (ancepsref38_rows.l0 kq a0 x3_1 x4_1 = some r) ∧ Aside0 (kq ≤ k) ∧ Aside0 (Kd.R (Kd.int .i64) 3 w' w.heap.size (fun _ => True) v3 x3_1) ∧ Aside0 (Below w.heap.size w w'))
 case atStart => exact ⟨(([] : List Int)), (0), zT, H', ⟨Nat.le_refl _⟩, ⟨by first | exact Kd.R_nil _ _ _ _ _ | exact Kd.N_nil _ _ _ _ _ | exact Kd.V_nil _ _ _ _ _ | exact Kd.Q_nil _ _ _ _ _ | exact Kd.S_nil _ _ _ _ _⟩, ⟨by repeat (first | (with_reducible first | exact HB.out | apply below_alloc | apply pw_below_drewN | apply below_drew1) | exact HB.out)⟩⟩
 case round =>
  clear H'
  obtain ⟨x3_1, x4_1, rfl, HA, HK1, HO_3, HB⟩ := hrel
  cases gk with
  | zero => exact absurd HA.out (by simp [ancepsref38_rows.l0])
  | succ k1 =>
   have H := HA.out
   clear HA
   simp only [ancepsref38_rows.l0] at H
   by_cases c2 : 0 ≤ a0
   ·rw [if_pos c2] at H
    have c2b0 := eq_true c2
    have c2b1 : decide (0 ≤ a0) = true := decide_eq_true c2
    clear c2
    obtain ⟨ji3, hji3⟩ : ∃ j_ : Int, (shl .i64 1 a0) = j_ := ⟨_, rfl⟩
    replace H : (if x4_1 < (ji3) then (if x3_1.length < 17592186044416 then (ancepsref38_rows.l0 k1 a0 (x3_1 ++ [x4_1]) (wrap64 (x4_1 + 1))) else (none)) else (some x3_1)) = some r := by first | (rw [hji3] at H; exact H) | (simp only [hji3] at H ⊢; exact H)
    have hji3_ : (IntKind.i64.wrap (1 * 2 ^ min a0.toNat 64)) = ji3 := hji3
    have hji3z : a0 ≤ 64 → (IntKind.i64.wrap (1 * 2 ^ a0.toNat)) = ji3 := shl_small hji3
    have hji3u : (IntKind.i64.wrap (2 ^ min a0.toNat 64)) = ji3 := by have h_ := hji3_; rw [Int.one_mul] at h_; exact h_
    have hji3v : a0 ≤ 64 → (IntKind.i64.wrap (2 ^ a0.toNat)) = ji3 := fun hle_ => by have h_ := hji3z hle_; rw [Int.one_mul] at h_; exact h_
    have hji3y : (wrap64 (1 * 2 ^ min a0.toNat 64)) = ji3 := (i64_w _).symm.trans hji3_
    have hji3x : a0 ≤ 64 → (wrap64 (1 * 2 ^ a0.toNat)) = ji3 := fun h_ => (i64_w _).symm.trans (hji3z h_)
    by_cases c4 : x4_1 < (ji3)
    ·rw [if_pos c4] at H
     have c4b0 : decide (x4_1 < (ji3)) = true := decide_eq_true c4
     clear c4
     by_cases c5 : x3_1.length < 17592186044416
     ·rw [if_pos c5] at H
      have LMc5 := Aside0.mk c5
      clear c5
      obtain ⟨y959, hy959⟩ : ∃ y_ : List Int, y_ = (x3_1 ++ [x4_1]) := ⟨_, rfl⟩
      replace H : (ancepsref38_rows.l0 k1 a0 y959 (wrap64 (x4_1 + 1))) = some r := by first | (rw [hy959]; with_reducible exact H) | (have H2_ := (Option.bind_some _ _).symm.trans H; rw [hy959]; with_reducible exact H2_) | (have H2_ := (Option.bind_some _ _).symm.trans H; with_reducible exact H2_) | with_reducible exact H | (rw [hy959]; exact H) | exact H
      have Ny959 := Aside0.mk hy959
      clear hy959
      have H' := Aside0.mk H
      clear H
      go_wp2_with (first | ((with_reducible refine gate_builtin (b := .append) (xs := #[.tmp 11, .tmp 13]) rfl ?_); at_builtin; refine Kd.R_append (Kd.int .i64) (w0 := w) w.heap.size rfl (.tmp 11) (.tmp 13) 27 3 (.int .i64 0) 8 rfl Try.underlying27 info3 rfl (by decide) (by omega) u3 x3_1 x4_1 [.int .i64 x4_1] (fun _ => True) (fun _ => False) rfl rfl ?aP (fun _ hk => hk.elim) ?aF ?aO ?aB ?aS ?aL ?_; (case aP => exact rfl); (case aB => exact zB); (case aF => exact (fun _ _ => trivial)); (case aO => exact (zR HO_3)); (case aS => exact (below_size zB)); (case aL => have := LMc5.out; omega); intro v960 w6 ho hb hg hat; rw [← Ny959.out] at ho; have n0_ := Aside0.mk (hb); have n1_ := Aside0.mk (ho); clear HB; clear HO_3; have HB := n0_; have HO961 := n1_; clear n0_ n1_; clear ho hb hg hat))
      go_roundg k1
      case measure => have := HK1.out; omega
      case rel => exact ⟨(y959), (wrap64 (x4_1 + 1)), zT, H', ⟨by have := HK1.out; omega⟩, ⟨by (with_reducible repeat (first | apply Kd.R_alloc | apply Kd.R_drewN | apply Kd.R_drew)); exact HO961.out⟩, ⟨by repeat (first | (with_reducible first | exact HB.out | apply below_alloc | apply pw_below_drewN | apply below_drew1) | exact HB.out)⟩⟩
     ·rw [if_neg c5] at H
      exact absurd H (by simp)
    ·rw [if_neg c4] at H
     have c4b0 : decide (x4_1 < (ji3)) = false := decide_eq_false c4
     clear c4
     obtain rfl := Option.some.inj H
     go_wp2
     go_ret
     exact ⟨_, by first | rfl | (simp [errW_none, errW_some] <;> rfl) | (simp only [← hji3]; first | rfl | (simp [errW_none, errW_some] <;> rfl)) | (simp [*, errW_none, errW_some] <;> rfl), by (with_reducible repeat (first | apply Kd.R_alloc | apply Kd.R_drewN | apply Kd.R_drew)); exact HO_3.out, by repeat (first | (with_reducible first | exact HB.out | apply below_alloc | apply pw_below_drewN | apply below_drew1) | exact HB.out)⟩
   ·rw [if_neg c2] at H
    exact absurd H (by simp)
/-! ### ancepsref38_Extend: function 44 -/
def ancepsref38_Extend.f (k : Nat) (l0_0 : List Int) (l0_1 : List Int) (l1 : List Int) : Option (List Int × List Int × Int) := (ancepsref38_Valid.f k l0_0 l0_1).bind fun t964 => (if t964 = 0 then ((ancepsref38_Variables.f k l1).bind fun t965 => (if t965 = 0 then ((ancepsref38_rows.f k (l1.length : Int)).bind fun t966 => ((ancepsref38_Join.f k l0_0 l0_1 l1 t966).bind fun bt969 => (some (bt969.1, bt969.2.1, bt969.2.2)))) else (some (([] : List Int), ([] : List Int), t965)))) else (some (([] : List Int), ([] : List Int), t964)))
theorem ancepsref38_Extend.mono : ∀ a0 a1 a2 k, LeO (ancepsref38_Extend.f k a0 a1 a2) (ancepsref38_Extend.f (k + 1) a0 a1 a2) := by
 intro a0 a1 a2 k
 unfold ancepsref38_Extend.f
 repeat' first
   | (with_reducible exact ancepsref38_Join.mono _ _ _ _ _)
   | (with_reducible exact ancepsref38_Valid.mono _ _ _)
   | (with_reducible exact ancepsref38_Variables.mono _ _)
   | (with_reducible exact ancepsref38_rows.mono _ _)
   | (with_reducible exact LeO.refl _)
   | (with_reducible exact LeO.none _)
   | (with_reducible refine LeO.ite ?_ ?_)
   | (with_reducible refine LeO.bind ?_ (fun _ => ?_))
   | exact ancepsref38_Join.mono _ _ _ _ _
   | exact ancepsref38_Valid.mono _ _ _
   | exact ancepsref38_Variables.mono _ _
   | exact ancepsref38_rows.mono _ _
   | exact LeO.none _
   | refine LeO.ite ?_ ?_
   | refine LeO.bind ?_ (fun _ => ?_)
def ancepsref38_Extend.T7 : Bool × List (List Nat × List Nat) := (true, [([], []), ([], []), ([], []), ([2], [2]), ([3], [3]), ([1, 4], [1, 4]), ([0, 5, 4], [0, 5]), ([6], [6]), ([6], [6]), ([7, 6, 0, 1, 2, 3, 4, 5, 6, 7, 8], [7]), ([8, 9, 0, 1, 2, 3, 4, 5, 6, 7, 8, 9], [8])])
def ancepsref38_Extend.B7 : List Nat := [0, 0, 0, 4, 12, 30, 63, 127, 127, 511, 1023]
theorem ancepsref38_Extend.tab7 : rtab .any (opsOf Try.f44 7) = ancepsref38_Extend.T7 := by kernel_rfl
theorem ancepsref38_Extend.bits7 : waitsOk ancepsref38_Extend.T7.2 ancepsref38_Extend.B7 = true := by kernel_rfl
set_option maxHeartbeats 8000000 in
set_option maxRecDepth 100000 in
theorem ancepsref38_Extend.calls (k : Nat) (A0_0 : Option Addr) (c0_0 : Nat) (l0_0 : List Int) (A0_1 : Option Addr) (c0_1 : Nat) (l0_1 : List Int) (A1 : Option Addr) (c1 : Nat) (l1 : List Int) (r1 : List Int) (r2 : List Int) (r3 : Int) (w : World) (hr0_0 : Kd.C (Kd.int .i64) w A0_0 l0_0.length l0_0) (hc0_0 : l0_0.length ≤ c0_0) (hr0_1 : Kd.C (Kd.int .i64) w A0_1 l0_1.length l0_1) (hc0_1 : l0_1.length ≤ c0_1) (hr1 : Kd.C (Kd.int .i64) w A1 l1.length l1) (hc1 : l1.length ≤ c1) (h : ancepsref38_Extend.f k l0_0 l0_1 l1 = some (r1, r2, r3)) :
  Calls Try.prog 44 #[.agg #[.slice A0_0 l0_0.length c0_0, .slice A0_1 l0_1.length c0_1], .slice A1 l1.length c1] w fun e w' => ∃ v0_ v1_ : Value, e = .returned (.tuple #[.agg #[v0_, v1_], .int .i64 r3]) ∧ Kd.R (Kd.int .i64) 3 w' w.heap.size (fun k_ => some k_ ≠ (v1_ : Value).ownBlock) v0_ r1 ∧ Kd.R (Kd.int .i64) 3 w' w.heap.size (fun k_ => some k_ ≠ (v0_ : Value).ownBlock) v1_ r2 ∧ Below w.heap.size w w' := by
 have hu29 := Try.underlying29
 have HR0_0 := Aside0.mk hr0_0
 have HC0_0 := Aside0.mk hc0_0
 clear hr0_0 hc0_0
 have HR0_1 := Aside0.mk hr0_1
 have HC0_1 := Aside0.mk hc0_1
 clear hr0_1 hc0_1
 have HR1 := Aside0.mk hr1
 have HC1 := Aside0.mk hc1
 clear hr1 hc1
 have HB := Aside0.mk (Below.refl w.heap.size w)
 have H : ((ancepsref38_Valid.f k l0_0 l0_1).bind fun t964 => (if t964 = 0 then ((ancepsref38_Variables.f k l1).bind fun t965 => (if t965 = 0 then ((ancepsref38_rows.f k (l1.length : Int)).bind fun t966 => ((ancepsref38_Join.f k l0_0 l0_1 l1 t966).bind fun bt969 => (some (bt969.1, bt969.2.1, bt969.2.2)))) else (some (([] : List Int), ([] : List Int), t965)))) else (some (([] : List Int), ([] : List Int), t964)))) = some (r1, r2, r3) := h
 clear h
 replace H := Option.bind_eq_some_iff.mp H
 obtain ⟨t964, A30, H⟩ := H
 replace H : (if t964 = 0 then ((ancepsref38_Variables.f k l1).bind fun t965 => (if t965 = 0 then ((ancepsref38_rows.f k (l1.length : Int)).bind fun t966 => ((ancepsref38_Join.f k l0_0 l0_1 l1 t966).bind fun bt969 => (some (bt969.1, bt969.2.1, bt969.2.2)))) else (some (([] : List Int), ([] : List Int), t965)))) else (some (([] : List Int), ([] : List Int), t964))) = some (r1, r2, r3) := H
 have A3 := Aside0.mk A30
 clear A30
 have HC4 := Aside0.mk H
 clear H
 go_enter Try.func44, Try.ntmps44
 go_upto_if 11 with (first | ((with_reducible refine gate_dst (N := 2) rfl ?_); refine box_event ?hg (N := 2) ?hd (cs := #[.slice A0_0 l0_0.length c0_0, .slice A0_1 l0_1.length c0_1]) (t := 29) ?hr ?_; (case hd => rfl); (case hg => rfl); (case hr => first | (go_simp; done) | (go_simp; rfl)); intro gb962 hg w5 hbox hb; have n0_ := Aside0.mk (below_step zB hb); have n1_ := Aside0.mk (hbox); have n2_ := Aside0.mk ((by rw [hg]; exact (below_size zB) : w.heap.size ≤ gb962)); have n3_ := Aside0.mk ((by rw [hg]; exact (below_size zB) : w.heap.size ≤ gb962)); clear HB; have HB := n0_; have BK962 := n1_; have GW962 := n2_; have GE962 := n3_; clear n0_ n1_ n2_ n3_; clear hb hbox hg) | ((with_reducible refine gate_dst (N := 4) rfl ?_); refine box_event ?hg (N := 4) ?hd (cs := #[.slice none 0 0, .slice none 0 0]) (t := 29) ?hr ?_; (case hd => rfl); (case hg => rfl); (case hr => first | (go_simp; done) | (go_simp; rfl)); intro gb963 hg w6 hbox hb; have n0_ := Aside0.mk (blk_below (g := gb962) (o := .cells #[.slice A0_0 l0_0.length c0_0, .slice A0_1 l0_1.length c0_1] 29 (0, 0)) (zk BK962) hb); have n1_ := Aside0.mk (below_step zB hb); have n2_ := Aside0.mk (hbox); have n3_ := Aside0.mk ((by rw [hg]; exact (below_size zB) : w.heap.size ≤ gb963)); have n4_ := Aside0.mk ((by rw [hg]; exact (below_size zB) : w.heap.size ≤ gb963)); have n5_ := Aside0.mk ((by rw [hg]; exact Nat.ne_of_lt (blk_lt (g := gb962) (o := .cells #[.slice A0_0 l0_0.length c0_0, .slice A0_1 l0_1.length c0_1] 29 (0, 0)) (zk BK962)) : gb962 ≠ gb963)); have n6_ := Aside0.mk ((by rw [hg]; exact Nat.ne_of_gt (blk_lt (g := gb962) (o := .cells #[.slice A0_0 l0_0.length c0_0, .slice A0_1 l0_1.length c0_1] 29 (0, 0)) (zk BK962)) : gb963 ≠ gb962)); clear BK962; clear HB; have BK962 := n0_; have HB := n1_; have BK963 := n2_; have GW963 := n3_; have GE963 := n4_; have NB962_963 := n5_; have NB963_962 := n6_; clear n0_ n1_ n2_ n3_ n4_ n5_ n6_; clear hb hbox hg; have hnb7 := NB962_963.out; have hnc7 := NB963_962.out; have hcz8_0 : w6.cell? ⟨gb962, 0, none⟩ = some (.slice A0_0 l0_0.length c0_0) := (blk_cell BK962.out 0).trans rfl; have hcz8_1 : w6.cell? ⟨gb962, 1, none⟩ = some (.slice A0_1 l0_1.length c0_1) := (blk_cell BK962.out 1).trans rfl; have hfz8_0 := blk_frozen BK962.out 0; have hfz8_1 := blk_frozen BK962.out 1) | ((with_reducible refine gate_callee (f := 26) rfl ?_); refine goesL_ (some 9) rfl rfl Try.func26 zK rfl #[.agg #[.slice A0_0 l0_0.length c0_0, .slice A0_1 l0_1.length c0_1]] rfl zM ?_; (with_reducible refine (ancepsref38_Valid.calls k _ _ l0_0 _ _ l0_1 t964 _ ?side1 ?side2 ?side3 ?side4 A3.out).mono ?_); (case side1 => repeat (first | exact (Kd.C_below HR0_0.out HB.out) | (with_reducible refine Kd.C_alloc ?_ _) | (with_reducible refine Kd.C_drewN ?_ _) | (with_reducible refine Kd.C_drew ?_))); (case side2 => exact HC0_0.out); (case side3 => repeat (first | exact (Kd.C_below HR0_1.out HB.out) | (with_reducible refine Kd.C_alloc ?_ _) | (with_reducible refine Kd.C_drewN ?_ _) | (with_reducible refine Kd.C_drew ?_))); (case side4 => exact HC0_1.out); rintro e w9 ⟨rfl, hb⟩; refine ⟨_, rfl, ?_⟩; have n0_ := Aside0.mk (blk_below (g := gb962) (o := .cells #[.slice A0_0 l0_0.length c0_0, .slice A0_1 l0_1.length c0_1] 29 (0, 0)) (zk BK962) hb); have n1_ := Aside0.mk (blk_below (g := gb963) (o := .cells #[.slice none 0 0, .slice none 0 0] 29 (0, 0)) (zk BK963) hb); have n2_ := Aside0.mk (below_step zB hb); clear BK962; clear BK963; clear HB; have BK962 := n0_; have BK963 := n1_; have HB := n2_; clear n0_ n1_ n2_; (try clear hb); (try clear hb2); (try clear hk); (try clear hi)))
 (try simp only [Act.put, List.setIfInBounds_toArray, List.set_cons_zero, List.set_cons_succ])
 have H := HC4.out
 clear HC4
 by_cases c10 : t964 = 0
 ·rw [if_pos c10] at H
  have c10b0 : (t964 == 0) = true := beq_iff_eq.mpr c10
  have c10b1 : (t964 != 0) = false := bne_eq_false_iff_eq.mpr c10
  clear c10
  (first | rw [c10b0] | (simp only [i64_w, i32_w]; rw [c10b0]) | skip)
  (try rw [c10b1])
  replace H := Option.bind_eq_some_iff.mp H
  obtain ⟨t965, A110, H⟩ := H
  replace H : (if t965 = 0 then ((ancepsref38_rows.f k (l1.length : Int)).bind fun t966 => ((ancepsref38_Join.f k l0_0 l0_1 l1 t966).bind fun bt969 => (some (bt969.1, bt969.2.1, bt969.2.2)))) else (some (([] : List Int), ([] : List Int), t965))) = some (r1, r2, r3) := H
  have A11 := Aside0.mk A110
  clear A110
  have HC12 := Aside0.mk H
  clear H
  go_upto_if 17 with (first | ((with_reducible refine gate_callee (f := 54) rfl ?_); refine goesL_ (some 15) rfl rfl Try.func54 zK rfl #[.slice A1 l1.length c1] rfl zM ?_; (with_reducible refine (ancepsref38_Variables.calls k _ _ l1 t965 _ ?side1 ?side2 A11.out).mono ?_); (case side1 => repeat (first | exact (Kd.C_below HR1.out HB.out) | (with_reducible refine Kd.C_alloc ?_ _) | (with_reducible refine Kd.C_drewN ?_ _) | (with_reducible refine Kd.C_drew ?_))); (case side2 => exact HC1.out); rintro e w' ⟨rfl, ⟨nd, rfl⟩⟩; refine ⟨_, rfl, ?_⟩))
  (try simp only [Act.put, List.setIfInBounds_toArray, List.set_cons_zero, List.set_cons_succ])
  have H := HC12.out
  clear HC12
  by_cases c13 : t965 = 0
  ·rw [if_pos c13] at H
   have c13b0 : (t965 == 0) = true := beq_iff_eq.mpr c13
   have c13b1 : (t965 != 0) = false := bne_eq_false_iff_eq.mpr c13
   clear c13
   (first | rw [c13b0] | (simp only [i64_w, i32_w]; rw [c13b0]) | skip)
   (try rw [c13b1])
   replace H := Option.bind_eq_some_iff.mp H
   obtain ⟨t966, A140, H⟩ := H
   replace H : ((ancepsref38_Join.f k l0_0 l0_1 l1 t966).bind fun bt969 => (some (bt969.1, bt969.2.1, bt969.2.2))) = some (r1, r2, r3) := H
   have A14 := Aside0.mk A140
   clear A140
   replace H := Option.bind_eq_some_iff.mp H
   obtain ⟨⟨t969, t972, t975⟩, A150, H⟩ := H
   replace H : (some (t969, t972, t975)) = some (r1, r2, r3) := H
   have A15 := Aside0.mk A150
   clear A150
   simp only [Option.some.injEq, Prod.mk.injEq] at H
   obtain ⟨rfl, rfl, rfl⟩ := H
   try go_wp2
   (try (rw [drewN_self w9]; generalize hq_ : World.drewN w9 _ = w9; have n0_ : Aside0 (w9.heap[gb962]? = some (.cells #[.slice A0_0 l0_0.length c0_0, .slice A0_1 l0_1.length c0_1] 29 (0, 0))) := ⟨by rw [← hq_]; exact (zk BK962)⟩; have n1_ : Aside0 (w9.heap[gb963]? = some (.cells #[.slice none 0 0, .slice none 0 0] 29 (0, 0))) := ⟨by rw [← hq_]; exact (zk BK963)⟩; have n2_ : Aside0 (Below w.heap.size w w9) := ⟨by rw [← hq_]; exact zB⟩; clear BK962 BK963 HB hq_; have BK962 := n0_; have BK963 := n1_; have HB := n2_; clear n0_ n1_ n2_))
   have n0_ := Aside0.mk (blk_drew BK962.out)
   have n1_ := Aside0.mk (blk_drew BK963.out)
   have n2_ := Aside0.mk (below_drew1 HB.out)
   clear BK962
   clear BK963
   clear HB
   have BK962 := n0_
   have BK963 := n1_
   have HB := n2_
   clear n0_ n1_ n2_
   refine start_ (n := 11) (S := fun w' => w'.cell? ⟨gb962, 0, none⟩ = some (.slice A0_0 l0_0.length c0_0) ∧ w'.cell? ⟨gb962, 1, none⟩ = some (.slice A0_1 l0_1.length c0_1)) (ds := []) #[false, false, false, false, false, false, false, false, false, false, false] zK rfl rfl ⟨(blk_cell BK962.out 0).trans rfl, (blk_cell BK962.out 1).trans rfl⟩ (fun hHeld => ?_); refine with_tabW ancepsref38_Extend.tab7 ancepsref38_Extend.bits7 (fun HT_ HW_ => ?_)
   generalize w9.drew = w16 at BK962 BK963 HB hHeld ⊢
   refine pure_ (i := 1) (N := some 21) (v := ?_) (a' := ?_) #[false, true, false, false, false, false, false, false, false, false, false] rfl rfl (any_of HT_.out zK) (fun _ _ _ h => h) (Or.inl ⟨by rfl, ?_⟩) ?_ ?_
   rotate_left
   ·intro w'
    go_simp
    with_reducible rfl
   rotate_left
   ·simp only [Act.put, List.setIfInBounds_toArray, List.set_cons_zero, List.set_cons_succ, i64_w, i32_w]
    rfl
   refine pure_ (i := 2) (N := some 22) (v := ?_) (a' := ?_) #[false, true, true, false, false, false, false, false, false, false, false] rfl rfl (any_of HT_.out zK) (fun _ _ _ h => h) (Or.inl ⟨by rfl, ?_⟩) ?_ ?_
   rotate_left
   ·intro w'
    go_simp
    with_reducible rfl
   rotate_left
   ·simp only [Act.put, List.setIfInBounds_toArray, List.set_cons_zero, List.set_cons_succ, i64_w, i32_w]
    rfl
   refine pure_ (i := 3) (N := some 23) (v := ?_) (a' := ?_) #[false, true, true, true, false, false, false, false, false, false, false] rfl rfl (any_of HT_.out zK) (fun _ _ _ h => h) (Or.inl ⟨by rfl, ?_⟩) ?_ ?_
   rotate_left
   ·intro w'
    go_simp
    with_reducible rfl
   rotate_left
   ·simp only [Act.put, List.setIfInBounds_toArray, List.set_cons_zero, List.set_cons_succ, i64_w, i32_w]
    rfl
   refine take_ (i := 0) (N := some 20) (v := ?_) (a' := ?_) #[true, true, true, true, false, false, false, false, false, false, false] rfl rfl (take_ofW HT_.out HW_.out zK) (fun _ _ _ h => h) (Or.inl ⟨by rfl, ?_⟩) hHeld ?_ ?_
   rotate_left
   ·rintro w' ⟨s0, s1⟩
    go_simp
    with_reducible rfl
   rotate_left
   ·simp only [Act.put, List.setIfInBounds_toArray, List.set_cons_zero, List.set_cons_succ, i64_w, i32_w]
    rfl
   refine one_ (i := 4) (N := some 24) #[true, true, true, true, true, false, false, false, false, false, false] rfl rfl (one_of HT_.out zK) (by decide) (fun K hK => ?_)
   refine goes_ Try.func72 zK rfl #[.int .i64 (l1.length : Int)] (by rfl) rfl rfl zM ?_
   with_reducible refine (ancepsref38_rows.calls k (l1.length : Int) t966 _ A14.out).mono ?_
   rintro e w17 ⟨v967, rfl, ho0, hb⟩
   refine ⟨_, rfl, ?_⟩
   have n0_ := Aside0.mk (Kd.R_lower ho0 (below_size zB))
   have n1_ := Aside0.mk (blk_below (g := gb962) (o := .cells #[.slice A0_0 l0_0.length c0_0, .slice A0_1 l0_1.length c0_1] 29 (0, 0)) (zk BK962) hb)
   have n2_ := Aside0.mk (blk_below (g := gb963) (o := .cells #[.slice none 0 0, .slice none 0 0] 29 (0, 0)) (zk BK963) hb)
   have n3_ := Aside0.mk (below_step zB hb)
   clear BK962
   clear BK963
   clear HB
   have HO968 := n0_
   have BK962 := n1_
   have BK963 := n2_
   have HB := n3_
   clear n0_ n1_ n2_ n3_
   (try clear hb)
   (try clear hb2)
   (try clear hk)
   (try clear hi)
   (try clear ho0)
   obtain ⟨Ao18, co18, eo18⟩ := Kd.R_slice HO968.out
   (first | subst eo18 | (injection eo18 with f1_ f2_ f3_; have f4_ := f1_.symm; have f5_ := f3_.symm; clear f1_ f2_ f3_; subst f4_; subst f5_))
   refine hK.out _ _ ⟨(blk_cell BK962.out 0).trans rfl, (blk_cell BK962.out 1).trans rfl⟩ (fun hHeld => ?_)
   clear hK K
   refine norm_ (a' := ?_) ?_ ?_
   rotate_left
   ·show Act.put _ (some 24) _ = _
    simp only [Act.put, List.setIfInBounds_toArray, List.set_cons_zero, List.set_cons_succ, i64_w, i32_w]
    rfl
   refine pure_ (i := 5) (N := some 25) (v := ?_) (a' := ?_) #[true, true, true, true, true, true, false, false, false, false, false] rfl rfl (any_of HT_.out zK) (fun _ _ _ h => h) (Or.inl ⟨by rfl, ?_⟩) ?_ ?_
   rotate_left
   ·intro w'
    go_simp
    with_reducible rfl
   rotate_left
   ·simp only [Act.put, List.setIfInBounds_toArray, List.set_cons_zero, List.set_cons_succ, i64_w, i32_w]
    rfl
   refine one_ (i := 6) (N := some 26) #[true, true, true, true, true, true, true, false, false, false, false] rfl rfl (one_of HT_.out zK) (by decide) (fun K hK => ?_)
   refine goes_ Try.func30 zK rfl #[.agg #[.slice A0_0 l0_0.length c0_0, .slice A0_1 l0_1.length c0_1], .agg #[.slice A1 l1.length c1, .slice Ao18 t966.length co18]] (by rfl) rfl rfl zM ?_
   with_reducible refine (ancepsref38_Join.calls k _ _ l0_0 _ _ l0_1 _ _ l1 _ _ t966 t969 t972 t975 _ ?side1 ?side2 ?side3 ?side4 ?side5 ?side6 ?side7 ?side8 A15.out).mono ?_
   (case side1 => repeat (first | exact (Kd.C_below HR0_0.out HB.out) | (with_reducible refine Kd.C_alloc ?_ _) | (with_reducible refine Kd.C_drewN ?_ _) | (with_reducible refine Kd.C_drew ?_)))
   (case side2 => exact HC0_0.out)
   (case side3 => repeat (first | exact (Kd.C_below HR0_1.out HB.out) | (with_reducible refine Kd.C_alloc ?_ _) | (with_reducible refine Kd.C_drewN ?_ _) | (with_reducible refine Kd.C_drew ?_)))
   (case side4 => exact HC0_1.out)
   (case side5 => repeat (first | exact (Kd.C_below HR1.out HB.out) | (with_reducible refine Kd.C_alloc ?_ _) | (with_reducible refine Kd.C_drewN ?_ _) | (with_reducible refine Kd.C_drew ?_)))
   (case side6 => exact HC1.out)
   (case side7 => repeat (first | exact (Kd.R_reads' HO968.out).2.2 | (with_reducible refine Kd.C_alloc ?_ _) | (with_reducible refine Kd.C_drewN ?_ _) | (with_reducible refine Kd.C_drew ?_)))
   (case side8 => exact (Kd.R_reads' HO968.out).2.1)
   rintro e w19 ⟨v970, v973, rfl, ho0, ho1, hb⟩
   refine ⟨_, rfl, ?_⟩
   have n0_ := Aside0.mk (Kd.R_mono (Kd.R_told (Kd.R_told (Kd.R_old (zR HO968) hb) (Kd.R_base ho0)) (Kd.R_base ho1)) (fun _ h_ => h_.1))
   have n1_ := Aside0.mk (Kd.R_lower (Kd.R_new' ho0 (Kd.R_lt (zR HO968))) (below_size zB))
   have n2_ := Aside0.mk (Kd.R_lower (Kd.R_new' ho1 (Kd.R_lt (zR HO968))) (below_size zB))
   have n3_ := Aside0.mk (blk_below (g := gb962) (o := .cells #[.slice A0_0 l0_0.length c0_0, .slice A0_1 l0_1.length c0_1] 29 (0, 0)) (zk BK962) hb)
   have n4_ := Aside0.mk (blk_below (g := gb963) (o := .cells #[.slice none 0 0, .slice none 0 0] 29 (0, 0)) (zk BK963) hb)
   have n5_ := Aside0.mk (below_step zB hb)
   clear HO968
   clear BK962
   clear BK963
   clear HB
   have HO968 := n0_
   have HO971 := n1_
   have HO974 := n2_
   have BK962 := n3_
   have BK963 := n4_
   have HB := n5_
   clear n0_ n1_ n2_ n3_ n4_ n5_
   (try clear hb)
   (try clear hb2)
   (try clear hk)
   (try clear hi)
   (try clear ho0)
   (try clear ho1)
   obtain ⟨Ao20, co20, eo20⟩ := Kd.R_slice HO971.out
   (first | subst eo20 | (injection eo20 with f1_ f2_ f3_; have f4_ := f1_.symm; have f5_ := f3_.symm; clear f1_ f2_ f3_; subst f4_; subst f5_))
   obtain ⟨Ao22, co22, eo22⟩ := Kd.R_slice HO974.out
   (first | subst eo22 | (injection eo22 with f1_ f2_ f3_; have f4_ := f1_.symm; have f5_ := f3_.symm; clear f1_ f2_ f3_; subst f4_; subst f5_))
   refine hK.out _ _ ⟨(blk_cell BK962.out 0).trans rfl, (blk_cell BK962.out 1).trans rfl⟩ (fun hHeld => ?_)
   clear hK K
   refine norm_ (a' := ?_) ?_ ?_
   rotate_left
   ·show Act.put _ (some 26) _ = _
    simp only [Act.put, List.setIfInBounds_toArray, List.set_cons_zero, List.set_cons_succ, i64_w, i32_w]
    rfl
   refine pure_ (i := 7) (N := some 27) (v := ?_) (a' := ?_) #[true, true, true, true, true, true, true, true, false, false, false] rfl rfl (any_of HT_.out zK) (fun _ _ _ h => h) (Or.inl ⟨by rfl, ?_⟩) ?_ ?_
   rotate_left
   ·intro w'
    go_simp
    with_reducible rfl
   rotate_left
   ·simp only [Act.put, List.setIfInBounds_toArray, List.set_cons_zero, List.set_cons_succ, i64_w, i32_w]
    rfl
   refine pure_ (i := 8) (N := some 28) (v := ?_) (a' := ?_) #[true, true, true, true, true, true, true, true, true, false, false] rfl rfl (any_of HT_.out zK) (fun _ _ _ h => h) (Or.inl ⟨by rfl, ?_⟩) ?_ ?_
   rotate_left
   ·intro w'
    go_simp
    with_reducible rfl
   rotate_left
   ·simp only [Act.put, List.setIfInBounds_toArray, List.set_cons_zero, List.set_cons_succ, i64_w, i32_w]
    rfl
   refine one_ (i := 9) (N := none) #[true, true, true, true, true, true, true, true, true, true, false] rfl rfl (one_of HT_.out zK) (by decide) (fun K hK => ?_)
   have hs21 : w19.cell? ⟨gb963, 0, none⟩ = some (.slice none 0 0) := (blk_cell BK963.out 0).trans rfl
   have hfs21 := blk_frozen BK963.out 0
   have hns21_0 := NB962_963.out
   have hms21_0 := NB963_962.out
   have hs23 : w19.cell? ⟨gb963, 1, none⟩ = some (.slice none 0 0) := (blk_cell BK963.out 1).trans rfl
   have hfs23 := blk_frozen BK963.out 1
   have hns23_0 := NB962_963.out
   have hms23_0 := NB963_962.out
   refine skip_ (w1 := ?_) (by rfl) rfl ?_ ?_
   rotate_left
   ·go_simp
    rfl
   refine hK.out _ _ ⟨((cell_far (p := ⟨gb963, _, none⟩) NB962_963.out _).trans (((cell_far (p := ⟨gb963, _, none⟩) NB962_963.out _).trans (hHeld.1)))), ((cell_far (p := ⟨gb963, _, none⟩) NB962_963.out _).trans (((cell_far (p := ⟨gb963, _, none⟩) NB962_963.out _).trans (hHeld.2))))⟩ (fun hHeld => ?_)
   clear hK K
   refine pure_ (i := 10) (N := some 5) (v := ?_) (a' := ?_) #[true, true, true, true, true, true, true, true, true, true, true] rfl rfl (any_of HT_.out zK) (fun _ _ _ h => h) (Or.inl ⟨by rfl, ?_⟩) ?_ ?_
   rotate_left
   ·intro w'
    go_simp
    with_reducible rfl
   rotate_left
   ·simp only [Act.put, List.setIfInBounds_toArray, List.set_cons_zero, List.set_cons_succ, i64_w, i32_w]
    rfl
   refine done_ (done_of HT_.out zK) ?_
   try go_wp2
   refine bodyPost_ret (results_ct rfl _ _ gb963 29 #[.slice Ao20 t969.length co20, .slice Ao22 t972.length co22] (0, 0) _ rfl (by (with_reducible repeat (first | refine blk_drewN ?_ _ | refine blk_drew ?_ | refine blk_alloc ?_ _)); refine blk_put (cs := #[.slice Ao20 t969.length co20, .slice none 0 0]) ?_ 1 _ rfl; (with_reducible repeat (first | refine blk_drewN ?_ _ | refine blk_drew ?_ | refine blk_alloc ?_ _)); refine blk_put (cs := #[.slice none 0 0, .slice none 0 0]) ?_ 0 _ rfl; (with_reducible repeat (first | refine blk_drewN ?_ _ | refine blk_drew ?_ | refine blk_alloc ?_ _)); exact BK963.out) Try.underlying29 rfl zK) rfl ?_
   exact ⟨_, _, by first | rfl | (simp [errW_none, errW_some] <;> rfl) | (simp [*, errW_none, errW_some] <;> rfl), by (with_reducible repeat (first | apply Kd.R_alloc | apply Kd.R_drewN | apply Kd.R_drew)); exact Kd.R_mono (Kd.R_far (p := ⟨gb963, 1, none⟩) (Kd.R_far (p := ⟨gb963, 0, none⟩) (Kd.R_types HO971.out BK963.out (by decide)) (fun _ hk => hk.2) (.slice Ao20 t969.length co20)) (fun _ hk => hk.2) (.slice Ao22 t972.length co22)) (fun _ hk => hk.1.1), by (with_reducible repeat (first | apply Kd.R_alloc | apply Kd.R_drewN | apply Kd.R_drew)); exact Kd.R_mono (Kd.R_far (p := ⟨gb963, 1, none⟩) (Kd.R_far (p := ⟨gb963, 0, none⟩) (Kd.R_types HO974.out BK963.out (by decide)) (fun _ hk => hk.2) (.slice Ao20 t969.length co20)) (fun _ hk => hk.2) (.slice Ao22 t972.length co22)) (fun _ hk => hk.1.1), by repeat (first | (with_reducible first | exact HB.out | apply below_alloc | apply pw_below_drewN | apply below_drew1 | refine below_set ?_ GE962.out | refine below_set ?_ GE963.out) | exact HB.out)⟩
  ·rw [if_neg c13] at H
   have c13b0 : (t965 == 0) = false := beq_eq_false_iff_ne.mpr c13
   have c13b1 : (t965 != 0) = true := bne_iff_ne.mpr c13
   (first | rw [c13b0] | (simp only [i64_w, i32_w]; rw [c13b0]) | skip)
   (try rw [c13b1])
   simp only [Option.some.injEq, Prod.mk.injEq] at H
   obtain ⟨rfl, rfl, rfl⟩ := H
   have hnb24 := NB963_962.out
   have hnc24 := NB962_963.out
   have hcz25_0 : w9.cell? ⟨gb963, 0, none⟩ = some (.slice none 0 0) := (blk_cell BK963.out 0).trans rfl
   have hcz25_1 : w9.cell? ⟨gb963, 1, none⟩ = some (.slice none 0 0) := (blk_cell BK963.out 1).trans rfl
   have hfz25_0 := blk_frozen BK963.out 0
   have hfz25_1 := blk_frozen BK963.out 1
   go_wp2
   refine bodyPost_ret (results_ct rfl _ _ gb963 29 #[.slice none 0 0, .slice none 0 0] (0, 0) _ rfl (by (with_reducible repeat (first | refine blk_drewN ?_ _ | refine blk_drew ?_ | refine blk_alloc ?_ _)); refine blk_put (cs := #[.slice none 0 0, .slice none 0 0]) ?_ 1 _ rfl; (with_reducible repeat (first | refine blk_drewN ?_ _ | refine blk_drew ?_ | refine blk_alloc ?_ _)); refine blk_put (cs := #[.slice none 0 0, .slice none 0 0]) ?_ 0 _ rfl; (with_reducible repeat (first | refine blk_drewN ?_ _ | refine blk_drew ?_ | refine blk_alloc ?_ _)); exact BK963.out) Try.underlying29 rfl zK) rfl ?_
   exact ⟨_, _, by first | rfl | (simp [errW_none, errW_some] <;> rfl) | (simp [*, errW_none, errW_some] <;> rfl), by first | exact Kd.R_nil _ _ _ _ _ | exact Kd.N_nil _ _ _ _ _ | exact Kd.V_nil _ _ _ _ _ | exact Kd.Q_nil _ _ _ _ _ | exact Kd.S_nil _ _ _ _ _, by first | exact Kd.R_nil _ _ _ _ _ | exact Kd.N_nil _ _ _ _ _ | exact Kd.V_nil _ _ _ _ _ | exact Kd.Q_nil _ _ _ _ _ | exact Kd.S_nil _ _ _ _ _, by repeat (first | (with_reducible first | exact HB.out | apply below_alloc | apply pw_below_drewN | apply below_drew1 | refine below_set ?_ GE962.out | refine below_set ?_ GE963.out) | exact HB.out)⟩
 ·rw [if_neg c10] at H
  have c10b0 : (t964 == 0) = false := beq_eq_false_iff_ne.mpr c10
  have c10b1 : (t964 != 0) = true := bne_iff_ne.mpr c10
  (first | rw [c10b0] | (simp only [i64_w, i32_w]; rw [c10b0]) | skip)
  (try rw [c10b1])
  simp only [Option.some.injEq, Prod.mk.injEq] at H
  obtain ⟨rfl, rfl, rfl⟩ := H
  have hnb26 := NB963_962.out
  have hnc26 := NB962_963.out
  have hcz27_0 : w9.cell? ⟨gb963, 0, none⟩ = some (.slice none 0 0) := (blk_cell BK963.out 0).trans rfl
  have hcz27_1 : w9.cell? ⟨gb963, 1, none⟩ = some (.slice none 0 0) := (blk_cell BK963.out 1).trans rfl
  have hfz27_0 := blk_frozen BK963.out 0
  have hfz27_1 := blk_frozen BK963.out 1
  go_wp2
  refine bodyPost_ret (results_ct rfl _ _ gb963 29 #[.slice none 0 0, .slice none 0 0] (0, 0) _ rfl (by (with_reducible repeat (first | refine blk_drewN ?_ _ | refine blk_drew ?_ | refine blk_alloc ?_ _)); refine blk_put (cs := #[.slice none 0 0, .slice none 0 0]) ?_ 1 _ rfl; (with_reducible repeat (first | refine blk_drewN ?_ _ | refine blk_drew ?_ | refine blk_alloc ?_ _)); refine blk_put (cs := #[.slice none 0 0, .slice none 0 0]) ?_ 0 _ rfl; (with_reducible repeat (first | refine blk_drewN ?_ _ | refine blk_drew ?_ | refine blk_alloc ?_ _)); exact BK963.out) Try.underlying29 rfl zK) rfl ?_
  exact ⟨_, _, by first | rfl | (simp [errW_none, errW_some] <;> rfl) | (simp [*, errW_none, errW_some] <;> rfl), by first | exact Kd.R_nil _ _ _ _ _ | exact Kd.N_nil _ _ _ _ _ | exact Kd.V_nil _ _ _ _ _ | exact Kd.Q_nil _ _ _ _ _ | exact Kd.S_nil _ _ _ _ _, by first | exact Kd.R_nil _ _ _ _ _ | exact Kd.N_nil _ _ _ _ _ | exact Kd.V_nil _ _ _ _ _ | exact Kd.Q_nil _ _ _ _ _ | exact Kd.S_nil _ _ _ _ _, by repeat (first | (with_reducible first | exact HB.out | apply below_alloc | apply pw_below_drewN | apply below_drew1 | refine below_set ?_ GE962.out | refine below_set ?_ GE963.out) | exact HB.out)⟩
end Go.Proofs.Ythcfmdkhkikbcaa.T
