-- Written by wip/tools/myprint.py, a program of this session's.
import Derived.Test.YtbagnalcabdlhaaS0
import Derived.Test.YtbagnalcabdlhaaS11
namespace Go.Proofs.Ytbagnalcabdlhaa.S
open Go.RowKit Go.Proofs.YtbagnalcabdlhaaW.PrintWords Go.Proofs.YtbagnalcabdlhaaW.PrintLast Go.Proofs.YtbagnalcabdlhaaW.PrintMore
attribute [local go_sem] max2_int min2_int max_two min_two max_three min_three max_four min_four   -- for this text's walks alone
set_option linter.unusedVariables false
set_option linter.unusedSimpArgs false
/-! ### ancepsref40_fails: function 89 -/
mutual
def ancepsref40_fails.l0 : Nat → Int → List Int → List Int → Int → Int → Option (Bool)
 | 0, _, _, _, _, _ => none
 | k + 1, x5, x513000, x513001, x514000, x514001 => if x5 < (x513001.length : Int) then (if 0 ≤ x5 then ((ancepsref38_Assignment.f k x513000 (rd x513001 x5)).bind fun t515 => (ancepsref40_fails.l1 k x5 t515 true 0 x513000 x513001 x514000 x514001)) else (none)) else (some true)
def ancepsref40_fails.l1 : Nat → Int → Int → Bool → Int → List Int → List Int → Int → Int → Option (Bool)
 | 0, _, _, _, _, _, _, _, _ => none
 | k + 1, x5, x6, x7, x8, x513000, x513001, x514000, x514001 => if x8 < (x513000.length : Int) then (if 0 ≤ x8 then (if 0 ≤ (rd x513000 x8) then (if x7 = true then (if (Go.bits .and .i64 x514000 (shl .i64 1 (rd x513000 x8))) = 0 then (ancepsref40_fails.l1 k x5 x6 true (wrap64 (x8 + 1)) x513000 x513001 x514000 x514001) else (ancepsref40_fails.l1 k x5 x6 ((Go.bits .and .i64 x6 (shl .i64 1 (rd x513000 x8))) == (Go.bits .and .i64 x514001 (shl .i64 1 (rd x513000 x8)))) (wrap64 (x8 + 1)) x513000 x513001 x514000 x514001)) else (ancepsref40_fails.l1 k x5 x6 false (wrap64 (x8 + 1)) x513000 x513001 x514000 x514001)) else (none)) else (none)) else (if x7 = true then (some false) else (ancepsref40_fails.l0 k (wrap64 (x5 + 1)) x513000 x513001 x514000 x514001))
end
def ancepsref40_fails.f (k : Nat) (l0_0 : List Int) (l0_1 : List Int) (a1_0 : Int) (a1_1 : Int) : Option (Bool) := ancepsref40_fails.l0 k 0 l0_0 l0_1 a1_0 a1_1
theorem ancepsref40_fails.mono_l : ∀ k, (∀ y0 y1 y2 y3 y4, LeO (ancepsref40_fails.l0 k y0 y1 y2 y3 y4) (ancepsref40_fails.l0 (k + 1) y0 y1 y2 y3 y4)) ∧ (∀ y0 y1 y2 y3 y4 y5 y6 y7, LeO (ancepsref40_fails.l1 k y0 y1 y2 y3 y4 y5 y6 y7) (ancepsref40_fails.l1 (k + 1) y0 y1 y2 y3 y4 y5 y6 y7))
 | 0 => ⟨fun _ _ _ _ _ r h => by simp [ancepsref40_fails.l0] at h, fun _ _ _ _ _ _ _ _ r h => by simp [ancepsref40_fails.l1] at h⟩
 | k + 1 => by
  obtain ⟨ih0, ih1⟩ := ancepsref40_fails.mono_l k
  refine ⟨?_, ?_⟩
  ·intro y0 y1 y2 y3 y4
   unfold ancepsref40_fails.l0
   repeat' first
   | (with_reducible exact ih0 _ _ _ _ _)
   | (with_reducible exact ih1 _ _ _ _ _ _ _ _)
   | (with_reducible exact ancepsref38_Assignment.mono _ _ _)
   | (with_reducible exact LeO.refl _)
   | (with_reducible exact LeO.none _)
   | (with_reducible refine LeO.ite ?_ ?_)
   | (with_reducible refine LeO.bind ?_ (fun _ => ?_))
   | exact ih0 _ _ _ _ _
   | exact ih1 _ _ _ _ _ _ _ _
   | exact ancepsref38_Assignment.mono _ _ _
   | exact LeO.none _
   | refine LeO.ite ?_ ?_
   | refine LeO.bind ?_ (fun _ => ?_)
  ·intro y0 y1 y2 y3 y4 y5 y6 y7
   unfold ancepsref40_fails.l1
   repeat' first
   | (with_reducible exact ih0 _ _ _ _ _)
   | (with_reducible exact ih1 _ _ _ _ _ _ _ _)
   | (with_reducible exact ancepsref38_Assignment.mono _ _ _)
   | (with_reducible exact LeO.refl _)
   | (with_reducible exact LeO.none _)
   | (with_reducible refine LeO.ite ?_ ?_)
   | (with_reducible refine LeO.bind ?_ (fun _ => ?_))
   | exact ih0 _ _ _ _ _
   | exact ih1 _ _ _ _ _ _ _ _
   | exact ancepsref38_Assignment.mono _ _ _
   | exact LeO.none _
   | refine LeO.ite ?_ ?_
   | refine LeO.bind ?_ (fun _ => ?_)
theorem ancepsref40_fails.mono : ∀ a0 a1 a2 a3 k, LeO (ancepsref40_fails.f k a0 a1 a2 a3) (ancepsref40_fails.f (k + 1) a0 a1 a2 a3) := by
 intro a0 a1 a2 a3 k
 obtain ⟨ih0, ih1⟩ := ancepsref40_fails.mono_l k
 unfold ancepsref40_fails.f
 repeat' first
   | (with_reducible exact ih0 _ _ _ _ _)
   | (with_reducible exact ih1 _ _ _ _ _ _ _ _)
   | (with_reducible exact ancepsref38_Assignment.mono _ _ _)
   | (with_reducible exact LeO.refl _)
   | (with_reducible exact LeO.none _)
   | (with_reducible refine LeO.ite ?_ ?_)
   | (with_reducible refine LeO.bind ?_ (fun _ => ?_))
   | exact ih0 _ _ _ _ _
   | exact ih1 _ _ _ _ _ _ _ _
   | exact ancepsref38_Assignment.mono _ _ _
   | exact LeO.none _
   | refine LeO.ite ?_ ?_
   | refine LeO.bind ?_ (fun _ => ?_)
set_option maxHeartbeats 8000000 in
set_option maxRecDepth 100000 in
theorem ancepsref40_fails.calls (k : Nat) (A0_0 : Option Addr) (c0_0 : Nat) (l0_0 : List Int) (A0_1 : Option Addr) (c0_1 : Nat) (l0_1 : List Int) (a1_0 : Int) (a1_1 : Int) (r : Bool) (w : World) (hr0_0 : Kd.C (Kd.int .i64) w A0_0 l0_0.length l0_0) (hc0_0 : l0_0.length ≤ c0_0) (hr0_1 : Kd.C (Kd.int .i64) w A0_1 l0_1.length l0_1) (hc0_1 : l0_1.length ≤ c0_1) (h : ancepsref40_fails.f k l0_0 l0_1 a1_0 a1_1 = some r) :
  Calls Try.prog 89 #[.agg #[.slice A0_0 l0_0.length c0_0, .slice A0_1 l0_1.length c0_1], .agg #[.int .i64 a1_0, .int .i64 a1_1]] w fun e w' => e = .returned (.bool r) ∧ Below w.heap.size w w' := by
 have hu61 := Try.underlying61
 have hu74 := Try.underlying74
 have hu42 := Try.underlying42
 have hu3 := Try.underlying3
 have HR0_0 := Aside0.mk hr0_0
 have HC0_0 := Aside0.mk hc0_0
 clear hr0_0 hc0_0
 have HR0_1 := Aside0.mk hr0_1
 have HC0_1 := Aside0.mk hc0_1
 clear hr0_1 hc0_1
 have HB := Aside0.mk (Below.refl w.heap.size w)
 have H : (ancepsref40_fails.l0 k 0 l0_0 l0_1 a1_0 a1_1) = some r := h
 clear h
 have H' := Aside0.mk H
 clear H
 go_enter Try.func89, Try.ntmps89
 go_wp2_with (first | ((with_reducible refine gate_dst (N := 2) rfl ?_); refine box_event ?hg (N := 2) ?hd (cs := #[.slice A0_0 l0_0.length c0_0, .slice A0_1 l0_1.length c0_1]) (t := 61) ?hr ?_; (case hd => rfl); (case hg => rfl); (case hr => first | (go_simp; done) | (go_simp; rfl)); intro gb512 hg w3 hbox hb; have n0_ := Aside0.mk (below_step zB hb); have n1_ := Aside0.mk (hbox); have n2_ := Aside0.mk ((by rw [hg]; exact (below_size zB) : w.heap.size ≤ gb512)); have n3_ := Aside0.mk ((by rw [hg]; exact (below_size zB) : w.heap.size ≤ gb512)); clear HB; have HB := n0_; have BK512 := n1_; have GW512 := n2_; have GE512 := n3_; clear n0_ n1_ n2_ n3_; clear hb hbox hg) | ((with_reducible refine gate_dst (N := 3) rfl ?_); refine box_event ?hg (N := 3) ?hd (cs := #[.int .i64 a1_0, .int .i64 a1_1]) (t := 74) ?hr ?_; (case hd => rfl); (case hg => rfl); (case hr => first | (go_simp; done) | (go_simp; rfl)); intro gb513 hg w4 hbox hb; have n0_ := Aside0.mk (blk_below (g := gb512) (o := .cells #[.slice A0_0 l0_0.length c0_0, .slice A0_1 l0_1.length c0_1] 61 (0, 0)) (zk BK512) hb); have n1_ := Aside0.mk (below_step zB hb); have n2_ := Aside0.mk (hbox); have n3_ := Aside0.mk ((by rw [hg]; exact (below_size zB) : w.heap.size ≤ gb513)); have n4_ := Aside0.mk ((by rw [hg]; exact (below_size zB) : w.heap.size ≤ gb513)); have n5_ := Aside0.mk ((by rw [hg]; exact Nat.ne_of_lt (blk_lt (g := gb512) (o := .cells #[.slice A0_0 l0_0.length c0_0, .slice A0_1 l0_1.length c0_1] 61 (0, 0)) (zk BK512)) : gb512 ≠ gb513)); have n6_ := Aside0.mk ((by rw [hg]; exact Nat.ne_of_gt (blk_lt (g := gb512) (o := .cells #[.slice A0_0 l0_0.length c0_0, .slice A0_1 l0_1.length c0_1] 61 (0, 0)) (zk BK512)) : gb513 ≠ gb512)); clear BK512; clear HB; have BK512 := n0_; have HB := n1_; have BK513 := n2_; have GW513 := n3_; have GE513 := n4_; have NB512_513 := n5_; have NB513_512 := n6_; clear n0_ n1_ n2_ n3_ n4_ n5_ n6_; clear hb hbox hg))
 repeat (go_quiet (first | ((with_reducible refine gate_dst (N := 2) rfl ?_); refine box_event ?hg (N := 2) ?hd (cs := #[.slice A0_0 l0_0.length c0_0, .slice A0_1 l0_1.length c0_1]) (t := 61) ?hr ?_; (case hd => rfl); (case hg => rfl); (case hr => first | (go_simp; done) | (go_simp; rfl)); intro gb512 hg w3 hbox hb; have n0_ := Aside0.mk (below_step zB hb); have n1_ := Aside0.mk (hbox); have n2_ := Aside0.mk ((by rw [hg]; exact (below_size zB) : w.heap.size ≤ gb512)); have n3_ := Aside0.mk ((by rw [hg]; exact (below_size zB) : w.heap.size ≤ gb512)); clear HB; have HB := n0_; have BK512 := n1_; have GW512 := n2_; have GE512 := n3_; clear n0_ n1_ n2_ n3_; clear hb hbox hg) | ((with_reducible refine gate_dst (N := 3) rfl ?_); refine box_event ?hg (N := 3) ?hd (cs := #[.int .i64 a1_0, .int .i64 a1_1]) (t := 74) ?hr ?_; (case hd => rfl); (case hg => rfl); (case hr => first | (go_simp; done) | (go_simp; rfl)); intro gb513 hg w4 hbox hb; have n0_ := Aside0.mk (blk_below (g := gb512) (o := .cells #[.slice A0_0 l0_0.length c0_0, .slice A0_1 l0_1.length c0_1] 61 (0, 0)) (zk BK512) hb); have n1_ := Aside0.mk (below_step zB hb); have n2_ := Aside0.mk (hbox); have n3_ := Aside0.mk ((by rw [hg]; exact (below_size zB) : w.heap.size ≤ gb513)); have n4_ := Aside0.mk ((by rw [hg]; exact (below_size zB) : w.heap.size ≤ gb513)); have n5_ := Aside0.mk ((by rw [hg]; exact Nat.ne_of_lt (blk_lt (g := gb512) (o := .cells #[.slice A0_0 l0_0.length c0_0, .slice A0_1 l0_1.length c0_1] 61 (0, 0)) (zk BK512)) : gb512 ≠ gb513)); have n6_ := Aside0.mk ((by rw [hg]; exact Nat.ne_of_gt (blk_lt (g := gb512) (o := .cells #[.slice A0_0 l0_0.length c0_0, .slice A0_1 l0_1.length c0_1] 61 (0, 0)) (zk BK512)) : gb513 ≠ gb512)); clear BK512; clear HB; have BK512 := n0_; have HB := n1_; have BK513 := n2_; have GW513 := n3_; have GE513 := n4_; have NB512_513 := n5_; have NB513_512 := n6_; clear n0_ n1_ n2_ n3_ n4_ n5_ n6_; clear hb hbox hg)); try go_wp2_with (first | ((with_reducible refine gate_dst (N := 2) rfl ?_); refine box_event ?hg (N := 2) ?hd (cs := #[.slice A0_0 l0_0.length c0_0, .slice A0_1 l0_1.length c0_1]) (t := 61) ?hr ?_; (case hd => rfl); (case hg => rfl); (case hr => first | (go_simp; done) | (go_simp; rfl)); intro gb512 hg w3 hbox hb; have n0_ := Aside0.mk (below_step zB hb); have n1_ := Aside0.mk (hbox); have n2_ := Aside0.mk ((by rw [hg]; exact (below_size zB) : w.heap.size ≤ gb512)); have n3_ := Aside0.mk ((by rw [hg]; exact (below_size zB) : w.heap.size ≤ gb512)); clear HB; have HB := n0_; have BK512 := n1_; have GW512 := n2_; have GE512 := n3_; clear n0_ n1_ n2_ n3_; clear hb hbox hg) | ((with_reducible refine gate_dst (N := 3) rfl ?_); refine box_event ?hg (N := 3) ?hd (cs := #[.int .i64 a1_0, .int .i64 a1_1]) (t := 74) ?hr ?_; (case hd => rfl); (case hg => rfl); (case hr => first | (go_simp; done) | (go_simp; rfl)); intro gb513 hg w4 hbox hb; have n0_ := Aside0.mk (blk_below (g := gb512) (o := .cells #[.slice A0_0 l0_0.length c0_0, .slice A0_1 l0_1.length c0_1] 61 (0, 0)) (zk BK512) hb); have n1_ := Aside0.mk (below_step zB hb); have n2_ := Aside0.mk (hbox); have n3_ := Aside0.mk ((by rw [hg]; exact (below_size zB) : w.heap.size ≤ gb513)); have n4_ := Aside0.mk ((by rw [hg]; exact (below_size zB) : w.heap.size ≤ gb513)); have n5_ := Aside0.mk ((by rw [hg]; exact Nat.ne_of_lt (blk_lt (g := gb512) (o := .cells #[.slice A0_0 l0_0.length c0_0, .slice A0_1 l0_1.length c0_1] 61 (0, 0)) (zk BK512)) : gb512 ≠ gb513)); have n6_ := Aside0.mk ((by rw [hg]; exact Nat.ne_of_gt (blk_lt (g := gb512) (o := .cells #[.slice A0_0 l0_0.length c0_0, .slice A0_1 l0_1.length c0_1] 61 (0, 0)) (zk BK512)) : gb513 ≠ gb512)); clear BK512; clear HB; have BK512 := n0_; have HB := n1_; have BK513 := n2_; have GW513 := n3_; have GE513 := n4_; have NB512_513 := n5_; have NB513_512 := n6_; clear n0_ n1_ n2_ n3_ n4_ n5_ n6_; clear hb hbox hg)))
 go_loopg [5] k (fun kq v5 w' => ∃ (x5_1 : Int), v5 = .int .i64 x5_1 ∧ Aside0 (ancepsref40_fails.l0 kq x5_1 l0_0 l0_1 a1_0 a1_1 = some r) ∧ Aside0 (kq ≤ k) ∧ Aside0 (w'.heap[gb512]? = some (.cells #[(.slice A0_0 l0_0.length c0_0), (.slice A0_1 l0_1.length c0_1)] 61 (0, 0))) ∧ Aside0 (w'.heap[gb513]? = some (.cells #[.int .i64 a1_0, .int .i64 a1_1] 74 (0, 0))) ∧ Aside0 (Below w.heap.size w w'))
 case atStart => exact ⟨(0), zT, H', ⟨Nat.le_refl _⟩, ⟨by (with_reducible repeat (first | refine blk_drewN ?_ _ | refine blk_drew ?_ | refine blk_alloc ?_ _)); exact BK512.out⟩, ⟨by (with_reducible repeat (first | refine blk_drewN ?_ _ | refine blk_drew ?_ | refine blk_alloc ?_ _)); exact BK513.out⟩, ⟨by repeat (first | (with_reducible first | exact HB.out | apply below_alloc | apply pw_below_drewN | apply below_drew1 | refine below_set ?_ GE512.out | refine below_set ?_ GE513.out) | exact HB.out)⟩⟩
 case round =>
  clear H'
  obtain ⟨x5_1, rfl, HA, HK1, BK512, BK513, HB⟩ := hrel
  cases gk with
  | zero => exact absurd HA.out (by simp [ancepsref40_fails.l0])
  | succ k1 =>
   have H := HA.out
   clear HA
   simp only [ancepsref40_fails.l0] at H
   by_cases c5 : x5_1 < (l0_1.length : Int)
   ·rw [if_pos c5] at H
    have c5b0 : decide (x5_1 < (l0_1.length : Int)) = true := decide_eq_true c5
    clear c5
    by_cases c6 : 0 ≤ x5_1
    ·rw [if_pos c6] at H
     have c6b0 : decide (0 ≤ x5_1) = true := decide_eq_true c6
     clear c6
     replace H := Option.bind_eq_some_iff.mp H
     obtain ⟨t515, A70, H⟩ := H
     replace H : (ancepsref40_fails.l1 k1 x5_1 t515 true 0 l0_0 l0_1 a1_0 a1_1) = some r := H
     have A7 := Aside0.mk A70
     clear A70
     have H' := Aside0.mk H
     clear H
     have hnb8 := NB512_513.out
     have hnc8 := NB513_512.out
     have hcz9_0 : wr.cell? ⟨gb512, 0, none⟩ = some (.slice A0_0 l0_0.length c0_0) := (blk_cell BK512.out 0).trans rfl
     have hcz9_1 : wr.cell? ⟨gb512, 1, none⟩ = some (.slice A0_1 l0_1.length c0_1) := (blk_cell BK512.out 1).trans rfl
     have hfz9_0 := blk_frozen BK512.out 0
     have hfz9_1 := blk_frozen BK512.out 1
     have p514 : 0 ≤ (x5_1 : Int) := of_decide_eq_true zh
     have q514 : x5_1 < (l0_1.length : Int) := of_decide_eq_true zh
     obtain ⟨ad514, e514, hx514_0⟩ := Kd.at_int HR0_1.out x5_1 p514 q514
     cases e514
     replace hx514_0 := (HB.out.cell (World.block_lt_of_cell? w _ hx514_0)).trans hx514_0
     replace p514 := eq_true p514
     replace q514 := eq_true q514
     go_wp2_with (first | (go_at_call 59; (with_reducible refine (ancepsref38_Assignment.calls k1 _ _ l0_0 (rd l0_1 x5_1) t515 _ ?side1 ?side2 A7.out).mono ?_); (case side1 => repeat (first | exact (Kd.C_below HR0_0.out HB.out) | (with_reducible refine Kd.C_alloc ?_ _) | (with_reducible refine Kd.C_drewN ?_ _) | (with_reducible refine Kd.C_drew ?_))); (case side2 => exact HC0_0.out); rintro e w' ⟨rfl, ⟨nd, rfl⟩⟩; (try first | exact ⟨rfl, _, World.drewN_drewN _ _ _⟩ | exact ⟨rfl, _, Eq.trans (World.drewN_drewN _ _ _) (congrArg (World.drewN _) (Nat.add_assoc _ _ _))⟩)))
     repeat (go_quiet (first | (go_at_call 59; (with_reducible refine (ancepsref38_Assignment.calls k1 _ _ l0_0 (rd l0_1 x5_1) t515 _ ?side1 ?side2 A7.out).mono ?_); (case side1 => repeat (first | exact (Kd.C_below HR0_0.out HB.out) | (with_reducible refine Kd.C_alloc ?_ _) | (with_reducible refine Kd.C_drewN ?_ _) | (with_reducible refine Kd.C_drew ?_))); (case side2 => exact HC0_0.out); rintro e w' ⟨rfl, ⟨nd, rfl⟩⟩; (try first | exact ⟨rfl, _, World.drewN_drewN _ _ _⟩ | exact ⟨rfl, _, Eq.trans (World.drewN_drewN _ _ _) (congrArg (World.drewN _) (Nat.add_assoc _ _ _))⟩))); try go_wp2_with (first | (go_at_call 59; (with_reducible refine (ancepsref38_Assignment.calls k1 _ _ l0_0 (rd l0_1 x5_1) t515 _ ?side1 ?side2 A7.out).mono ?_); (case side1 => repeat (first | exact (Kd.C_below HR0_0.out HB.out) | (with_reducible refine Kd.C_alloc ?_ _) | (with_reducible refine Kd.C_drewN ?_ _) | (with_reducible refine Kd.C_drew ?_))); (case side2 => exact HC0_0.out); rintro e w' ⟨rfl, ⟨nd, rfl⟩⟩; (try first | exact ⟨rfl, _, World.drewN_drewN _ _ _⟩ | exact ⟨rfl, _, Eq.trans (World.drewN_drewN _ _ _) (congrArg (World.drewN _) (Nat.add_assoc _ _ _))⟩))))
     go_loopg [7, 8] k1 (fun kq v7 v8 w' => ∃ (x7_2 : Bool) (x8_2 : Int), v7 = .bool x7_2 ∧ v8 = .int .i64 x8_2 ∧ Aside0 (ancepsref40_fails.l1 kq x5_1 t515 x7_2 x8_2 l0_0 l0_1 a1_0 a1_1 = some r) ∧ Aside0 (kq ≤ k1) ∧ Aside0 (w'.heap[gb512]? = some (.cells #[(.slice A0_0 l0_0.length c0_0), (.slice (some ad514) l0_1.length c0_1)] 61 (0, 0))) ∧ Aside0 (w'.heap[gb513]? = some (.cells #[.int .i64 a1_0, .int .i64 a1_1] 74 (0, 0))) ∧ Aside0 (Below w.heap.size w w'))
     case atStart => exact ⟨(true), (0), zT, zT, H', ⟨Nat.le_refl _⟩, ⟨by (with_reducible repeat (first | refine blk_drewN ?_ _ | refine blk_drew ?_ | refine blk_alloc ?_ _)); exact BK512.out⟩, ⟨by (with_reducible repeat (first | refine blk_drewN ?_ _ | refine blk_drew ?_ | refine blk_alloc ?_ _)); exact BK513.out⟩, ⟨by repeat (first | (with_reducible first | exact HB.out | apply below_alloc | apply pw_below_drewN | apply below_drew1 | refine below_set ?_ GE512.out | refine below_set ?_ GE513.out) | exact HB.out)⟩⟩
     case round =>
      clear H'
      try clear c5
      try clear c5b0
      try clear c6
      try clear c6b0
      try clear hcz9_0
      try clear hcz9_1
      try clear hfz9_0
      try clear hfz9_1
      try clear hx514_0
      try clear p514
      try clear q514
      obtain ⟨x7_2, x8_2, rfl, rfl, HA, HK2, BK512, BK513, HB⟩ := hrel
      cases gk with
      | zero => exact absurd HA.out (by simp [ancepsref40_fails.l1])
      | succ k2 =>
       have H := HA.out
       clear HA
       simp only [ancepsref40_fails.l1] at H
       by_cases c10 : x8_2 < (l0_0.length : Int)
       ·rw [if_pos c10] at H
        have c10b0 : decide (x8_2 < (l0_0.length : Int)) = true := decide_eq_true c10
        clear c10
        by_cases c11 : 0 ≤ x8_2
        ·rw [if_pos c11] at H
         have c11b0 : decide (0 ≤ x8_2) = true := decide_eq_true c11
         clear c11
         by_cases c12 : 0 ≤ (rd l0_0 x8_2)
         ·rw [if_pos c12] at H
          have c12b0 := eq_true c12
          have c12b1 : decide (0 ≤ (rd l0_0 x8_2)) = true := decide_eq_true c12
          clear c12
          obtain ⟨ji13, hji13⟩ : ∃ j_ : Int, (shl .i64 1 (rd l0_0 x8_2)) = j_ := ⟨_, rfl⟩
          replace H : (if x7_2 = true then (if (Go.bits .and .i64 a1_0 (ji13)) = 0 then (ancepsref40_fails.l1 k2 x5_1 t515 true (wrap64 (x8_2 + 1)) l0_0 l0_1 a1_0 a1_1) else (ancepsref40_fails.l1 k2 x5_1 t515 ((Go.bits .and .i64 t515 (ji13)) == (Go.bits .and .i64 a1_1 (ji13))) (wrap64 (x8_2 + 1)) l0_0 l0_1 a1_0 a1_1)) else (ancepsref40_fails.l1 k2 x5_1 t515 false (wrap64 (x8_2 + 1)) l0_0 l0_1 a1_0 a1_1)) = some r := by first | (rw [hji13] at H; exact H) | (simp only [hji13] at H ⊢; exact H)
          have hji13_ : (IntKind.i64.wrap (1 * 2 ^ min (rd l0_0 x8_2).toNat 64)) = ji13 := hji13
          have hji13z : (rd l0_0 x8_2) ≤ 64 → (IntKind.i64.wrap (1 * 2 ^ (rd l0_0 x8_2).toNat)) = ji13 := shl_small hji13
          have hji13u : (IntKind.i64.wrap (2 ^ min (rd l0_0 x8_2).toNat 64)) = ji13 := by have h_ := hji13_; rw [Int.one_mul] at h_; exact h_
          have hji13v : (rd l0_0 x8_2) ≤ 64 → (IntKind.i64.wrap (2 ^ (rd l0_0 x8_2).toNat)) = ji13 := fun hle_ => by have h_ := hji13z hle_; rw [Int.one_mul] at h_; exact h_
          have hji13y : (wrap64 (1 * 2 ^ min (rd l0_0 x8_2).toNat 64)) = ji13 := (i64_w _).symm.trans hji13_
          have hji13x : (rd l0_0 x8_2) ≤ 64 → (wrap64 (1 * 2 ^ (rd l0_0 x8_2).toNat)) = ji13 := fun h_ => (i64_w _).symm.trans (hji13z h_)
          by_cases c14 : x7_2 = true
          ·subst c14
           have H1 : (if (Go.bits .and .i64 a1_0 (ji13)) = 0 then (ancepsref40_fails.l1 k2 x5_1 t515 true (wrap64 (x8_2 + 1)) l0_0 l0_1 a1_0 a1_1) else (ancepsref40_fails.l1 k2 x5_1 t515 ((Go.bits .and .i64 t515 (ji13)) == (Go.bits .and .i64 a1_1 (ji13))) (wrap64 (x8_2 + 1)) l0_0 l0_1 a1_0 a1_1)) = some r := by rw [if_pos rfl] at H; exact H
           clear H
           have H := H1
           clear H1
           by_cases c15 : (Go.bits .and .i64 a1_0 (ji13)) = 0
           ·rw [if_pos c15] at H
            have c15b0 : ((Go.bits .and .i64 a1_0 (ji13)) == 0) = true := beq_iff_eq.mpr c15
            have c15b1 : ((Go.bits .and .i64 a1_0 (ji13)) != 0) = false := bne_eq_false_iff_eq.mpr c15
            clear c15
            have H' := Aside0.mk H
            clear H
            have hnb16 := NB512_513.out
            have hnc16 := NB513_512.out
            have hcz17_0 : wr.cell? ⟨gb512, 0, none⟩ = some (.slice A0_0 l0_0.length c0_0) := (blk_cell BK512.out 0).trans rfl
            have hcz17_1 : wr.cell? ⟨gb512, 1, none⟩ = some (.slice (some ad514) l0_1.length c0_1) := (blk_cell BK512.out 1).trans rfl
            have hfz17_0 := blk_frozen BK512.out 0
            have hfz17_1 := blk_frozen BK512.out 1
            have p516 : 0 ≤ (x8_2 : Int) := of_decide_eq_true zh
            have q516 : x8_2 < (l0_0.length : Int) := of_decide_eq_true zh
            obtain ⟨ad516, e516, hx516_0⟩ := Kd.at_int HR0_0.out x8_2 p516 q516
            cases e516
            replace hx516_0 := (HB.out.cell (World.block_lt_of_cell? w _ hx516_0)).trans hx516_0
            replace p516 := eq_true p516
            replace q516 := eq_true q516
            have hcz18_0 : wr.cell? ⟨gb513, 0, none⟩ = some (.int .i64 a1_0) := (blk_cell BK513.out 0).trans rfl
            have hcz18_1 : wr.cell? ⟨gb513, 1, none⟩ = some (.int .i64 a1_1) := (blk_cell BK513.out 1).trans rfl
            have hfz18_0 := blk_frozen BK513.out 0
            have hfz18_1 := blk_frozen BK513.out 1
            go_wp2
            repeat (go_quiet (fail); try go_wp2)
            go_roundg k2
            case measure => have := HK1.out; have := HK2.out; omega
            case rel => exact ⟨(true), (wrap64 (x8_2 + 1)), zT, zT, H', ⟨by have := HK1.out; have := HK2.out; omega⟩, ⟨by (with_reducible repeat (first | refine blk_drewN ?_ _ | refine blk_drew ?_ | refine blk_alloc ?_ _)); exact BK512.out⟩, ⟨by (with_reducible repeat (first | refine blk_drewN ?_ _ | refine blk_drew ?_ | refine blk_alloc ?_ _)); exact BK513.out⟩, ⟨by repeat (first | (with_reducible first | exact HB.out | apply below_alloc | apply pw_below_drewN | apply below_drew1 | refine below_set ?_ GE512.out | refine below_set ?_ GE513.out) | exact HB.out)⟩⟩
           ·rw [if_neg c15] at H
            have c15b0 : ((Go.bits .and .i64 a1_0 (ji13)) == 0) = false := beq_eq_false_iff_ne.mpr c15
            have c15b1 : ((Go.bits .and .i64 a1_0 (ji13)) != 0) = true := bne_iff_ne.mpr c15
            have H' := Aside0.mk H
            clear H
            have hnb19 := NB512_513.out
            have hnc19 := NB513_512.out
            have hcz20_0 : wr.cell? ⟨gb512, 0, none⟩ = some (.slice A0_0 l0_0.length c0_0) := (blk_cell BK512.out 0).trans rfl
            have hcz20_1 : wr.cell? ⟨gb512, 1, none⟩ = some (.slice (some ad514) l0_1.length c0_1) := (blk_cell BK512.out 1).trans rfl
            have hfz20_0 := blk_frozen BK512.out 0
            have hfz20_1 := blk_frozen BK512.out 1
            have p516 : 0 ≤ (x8_2 : Int) := of_decide_eq_true zh
            have q516 : x8_2 < (l0_0.length : Int) := of_decide_eq_true zh
            obtain ⟨ad516, e516, hx516_0⟩ := Kd.at_int HR0_0.out x8_2 p516 q516
            cases e516
            replace hx516_0 := (HB.out.cell (World.block_lt_of_cell? w _ hx516_0)).trans hx516_0
            replace p516 := eq_true p516
            replace q516 := eq_true q516
            have hcz21_0 : wr.cell? ⟨gb513, 0, none⟩ = some (.int .i64 a1_0) := (blk_cell BK513.out 0).trans rfl
            have hcz21_1 : wr.cell? ⟨gb513, 1, none⟩ = some (.int .i64 a1_1) := (blk_cell BK513.out 1).trans rfl
            have hfz21_0 := blk_frozen BK513.out 0
            have hfz21_1 := blk_frozen BK513.out 1
            go_wp2
            repeat (go_quiet (fail); try go_wp2)
            go_roundg k2
            case measure => have := HK1.out; have := HK2.out; omega
            case rel => exact ⟨(((Go.bits .and .i64 t515 (ji13)) == (Go.bits .and .i64 a1_1 (ji13)))), (wrap64 (x8_2 + 1)), (by first | rfl | (simp; done) | (simp only [← hji13] <;> (first | rfl | simp)) | (simp [*]; done)), zT, H', ⟨by have := HK1.out; have := HK2.out; omega⟩, ⟨by (with_reducible repeat (first | refine blk_drewN ?_ _ | refine blk_drew ?_ | refine blk_alloc ?_ _)); exact BK512.out⟩, ⟨by (with_reducible repeat (first | refine blk_drewN ?_ _ | refine blk_drew ?_ | refine blk_alloc ?_ _)); exact BK513.out⟩, ⟨by repeat (first | (with_reducible first | exact HB.out | apply below_alloc | apply pw_below_drewN | apply below_drew1 | refine below_set ?_ GE512.out | refine below_set ?_ GE513.out) | exact HB.out)⟩⟩
          ·replace c14 := Bool.eq_false_iff.mpr c14
           subst c14
           have H1 : (ancepsref40_fails.l1 k2 x5_1 t515 false (wrap64 (x8_2 + 1)) l0_0 l0_1 a1_0 a1_1) = some r := by rw [if_neg (show ¬ (false = true) by decide)] at H; exact H
           clear H
           have H := H1
           clear H1
           have H' := Aside0.mk H
           clear H
           have hnb22 := NB512_513.out
           have hnc22 := NB513_512.out
           have hcz23_0 : wr.cell? ⟨gb512, 0, none⟩ = some (.slice A0_0 l0_0.length c0_0) := (blk_cell BK512.out 0).trans rfl
           have hcz23_1 : wr.cell? ⟨gb512, 1, none⟩ = some (.slice (some ad514) l0_1.length c0_1) := (blk_cell BK512.out 1).trans rfl
           have hfz23_0 := blk_frozen BK512.out 0
           have hfz23_1 := blk_frozen BK512.out 1
           have p516 : 0 ≤ (x8_2 : Int) := of_decide_eq_true zh
           have q516 : x8_2 < (l0_0.length : Int) := of_decide_eq_true zh
           obtain ⟨ad516, e516, hx516_0⟩ := Kd.at_int HR0_0.out x8_2 p516 q516
           cases e516
           replace hx516_0 := (HB.out.cell (World.block_lt_of_cell? w _ hx516_0)).trans hx516_0
           replace p516 := eq_true p516
           replace q516 := eq_true q516
           go_wp2
           repeat (go_quiet (fail); try go_wp2)
           go_roundg k2
           case measure => have := HK1.out; have := HK2.out; omega
           case rel => exact ⟨(false), (wrap64 (x8_2 + 1)), zT, zT, H', ⟨by have := HK1.out; have := HK2.out; omega⟩, ⟨by (with_reducible repeat (first | refine blk_drewN ?_ _ | refine blk_drew ?_ | refine blk_alloc ?_ _)); exact BK512.out⟩, ⟨by (with_reducible repeat (first | refine blk_drewN ?_ _ | refine blk_drew ?_ | refine blk_alloc ?_ _)); exact BK513.out⟩, ⟨by repeat (first | (with_reducible first | exact HB.out | apply below_alloc | apply pw_below_drewN | apply below_drew1 | refine below_set ?_ GE512.out | refine below_set ?_ GE513.out) | exact HB.out)⟩⟩
         ·rw [if_neg c12] at H
          exact absurd H (by simp)
        ·rw [if_neg c11] at H
         exact absurd H (by simp)
       ·rw [if_neg c10] at H
        have c10b0 : decide (x8_2 < (l0_0.length : Int)) = false := decide_eq_false c10
        clear c10
        by_cases c24 : x7_2 = true
        ·subst c24
         have H1 : (some false) = some r := by rw [if_pos rfl] at H; exact H
         clear H
         have H := H1
         clear H1
         obtain rfl := Option.some.inj H
         have hnb25 := NB512_513.out
         have hnc25 := NB513_512.out
         have hcz26_0 : wr.cell? ⟨gb512, 0, none⟩ = some (.slice A0_0 l0_0.length c0_0) := (blk_cell BK512.out 0).trans rfl
         have hcz26_1 : wr.cell? ⟨gb512, 1, none⟩ = some (.slice (some ad514) l0_1.length c0_1) := (blk_cell BK512.out 1).trans rfl
         have hfz26_0 := blk_frozen BK512.out 0
         have hfz26_1 := blk_frozen BK512.out 1
         go_wp2
         repeat (go_quiet (fail); try go_wp2)
         go_ret
         exact ⟨by first | rfl | (simp [errW_none, errW_some] <;> rfl) | (simp [*, errW_none, errW_some] <;> rfl), by repeat (first | (with_reducible first | exact HB.out | apply below_alloc | apply pw_below_drewN | apply below_drew1 | refine below_set ?_ GE512.out | refine below_set ?_ GE513.out) | exact HB.out)⟩
        ·replace c24 := Bool.eq_false_iff.mpr c24
         subst c24
         have H1 : (ancepsref40_fails.l0 k2 (wrap64 (x5_1 + 1)) l0_0 l0_1 a1_0 a1_1) = some r := by rw [if_neg (show ¬ (false = true) by decide)] at H; exact H
         clear H
         have H := H1
         clear H1
         have H' := Aside0.mk H
         clear H
         have hnb27 := NB512_513.out
         have hnc27 := NB513_512.out
         have hcz28_0 : wr.cell? ⟨gb512, 0, none⟩ = some (.slice A0_0 l0_0.length c0_0) := (blk_cell BK512.out 0).trans rfl
         have hcz28_1 : wr.cell? ⟨gb512, 1, none⟩ = some (.slice (some ad514) l0_1.length c0_1) := (blk_cell BK512.out 1).trans rfl
         have hfz28_0 := blk_frozen BK512.out 0
         have hfz28_1 := blk_frozen BK512.out 1
         go_wp2
         repeat (go_quiet (fail); try go_wp2)
         go_roundg k2
         case measure => have := HK1.out; have := HK2.out; omega
         case rel => exact ⟨(wrap64 (x5_1 + 1)), zT, H', ⟨by have := HK1.out; have := HK2.out; omega⟩, ⟨by (with_reducible repeat (first | refine blk_drewN ?_ _ | refine blk_drew ?_ | refine blk_alloc ?_ _)); exact BK512.out⟩, ⟨by (with_reducible repeat (first | refine blk_drewN ?_ _ | refine blk_drew ?_ | refine blk_alloc ?_ _)); exact BK513.out⟩, ⟨by repeat (first | (with_reducible first | exact HB.out | apply below_alloc | apply pw_below_drewN | apply below_drew1 | refine below_set ?_ GE512.out | refine below_set ?_ GE513.out) | exact HB.out)⟩⟩
    ·rw [if_neg c6] at H
     exact absurd H (by simp)
   ·rw [if_neg c5] at H
    have c5b0 : decide (x5_1 < (l0_1.length : Int)) = false := decide_eq_false c5
    clear c5
    obtain rfl := Option.some.inj H
    have hnb29 := NB512_513.out
    have hnc29 := NB513_512.out
    have hcz30_0 : wr.cell? ⟨gb512, 0, none⟩ = some (.slice A0_0 l0_0.length c0_0) := (blk_cell BK512.out 0).trans rfl
    have hcz30_1 : wr.cell? ⟨gb512, 1, none⟩ = some (.slice A0_1 l0_1.length c0_1) := (blk_cell BK512.out 1).trans rfl
    have hfz30_0 := blk_frozen BK512.out 0
    have hfz30_1 := blk_frozen BK512.out 1
    go_wp2
    repeat (go_quiet (fail); try go_wp2)
    go_ret
    exact ⟨by first | rfl | (simp [errW_none, errW_some] <;> rfl) | (simp [*, errW_none, errW_some] <;> rfl), by repeat (first | (with_reducible first | exact HB.out | apply below_alloc | apply pw_below_drewN | apply below_drew1 | refine below_set ?_ GE512.out | refine below_set ?_ GE513.out) | exact HB.out)⟩
/-! ### ancepsref40_choices_with: function 90 -/
def ancepsref40_choices_with.f (a0_0 : Int) (a0_1 : Int) (a1 : Int) (a2 : Int) : Option (Int × Int) := if 0 ≤ a1 then (some (Go.bits .or .i64 a0_0 (shl .i64 1 a1), Go.bits .or .i64 a0_1 (shl .i64 a2 a1))) else (none)
def ancepsref40_choices_with.T1 : Bool × List (List Nat × List Nat) := (true, [([], []), ([0], [0]), ([], []), ([2], [2]), ([1, 3], [1, 3]), ([], []), ([5], [5]), ([], []), ([], []), ([7, 8], [7, 8]), ([6, 9], [6, 9]), ([4, 10], [4, 10]), ([11, 0, 1, 2, 3, 4, 5, 6, 7, 8, 9, 10, 11], [11])])
def ancepsref40_choices_with.B1 : List Nat := [0, 1, 0, 4, 15, 0, 32, 0, 0, 384, 992, 2047, 4095]
theorem ancepsref40_choices_with.tab1 : rtab .any (opsOf Try.f90 1) = ancepsref40_choices_with.T1 := by kernel_rfl
theorem ancepsref40_choices_with.bits1 : waitsOk ancepsref40_choices_with.T1.2 ancepsref40_choices_with.B1 = true := by kernel_rfl
set_option maxHeartbeats 8000000 in
set_option maxRecDepth 100000 in
theorem ancepsref40_choices_with.calls (a0_0 : Int) (a0_1 : Int) (a1 : Int) (a2 : Int) (r1 : Int) (r2 : Int) (w : World) (h : ancepsref40_choices_with.f a0_0 a0_1 a1 a2 = some (r1, r2)) :
  Calls Try.prog 90 #[.agg #[.int .i64 a0_0, .int .i64 a0_1], .int .i64 a1, .int .i64 a2] w fun e w' => e = .returned (.agg #[.int .i64 r1, .int .i64 r2]) ∧ Below w.heap.size w w' := by
 have hu74 := Try.underlying74
 have hu3 := Try.underlying3
 have HB := Aside0.mk (Below.refl w.heap.size w)
 have H : (if 0 ≤ a1 then (some (Go.bits .or .i64 a0_0 (shl .i64 1 a1), Go.bits .or .i64 a0_1 (shl .i64 a2 a1))) else (none)) = some (r1, r2) := h
 clear h
 by_cases c4 : 0 ≤ a1
 ·rw [if_pos c4] at H
  have c4b0 := eq_true c4
  have c4b1 : decide (0 ≤ a1) = true := decide_eq_true c4
  clear c4
  obtain ⟨ji5, hji5⟩ : ∃ j_ : Int, (shl .i64 1 a1) = j_ := ⟨_, rfl⟩
  replace H : (some (Go.bits .or .i64 a0_0 (ji5), Go.bits .or .i64 a0_1 (shl .i64 a2 a1))) = some (r1, r2) := by first | (rw [hji5] at H; exact H) | (simp only [hji5] at H ⊢; exact H)
  have hji5_ : (IntKind.i64.wrap (1 * 2 ^ min a1.toNat 64)) = ji5 := hji5
  have hji5z : a1 ≤ 64 → (IntKind.i64.wrap (1 * 2 ^ a1.toNat)) = ji5 := shl_small hji5
  have hji5u : (IntKind.i64.wrap (2 ^ min a1.toNat 64)) = ji5 := by have h_ := hji5_; rw [Int.one_mul] at h_; exact h_
  have hji5v : a1 ≤ 64 → (IntKind.i64.wrap (2 ^ a1.toNat)) = ji5 := fun hle_ => by have h_ := hji5z hle_; rw [Int.one_mul] at h_; exact h_
  have hji5y : (wrap64 (1 * 2 ^ min a1.toNat 64)) = ji5 := (i64_w _).symm.trans hji5_
  have hji5x : a1 ≤ 64 → (wrap64 (1 * 2 ^ a1.toNat)) = ji5 := fun h_ => (i64_w _).symm.trans (hji5z h_)
  have c6b0 := eq_true (of_decide_eq_true zh : 0 ≤ a1)
  obtain ⟨ji7, hji7⟩ : ∃ j_ : Int, (shl .i64 a2 a1) = j_ := ⟨_, rfl⟩
  replace H : (some (Go.bits .or .i64 a0_0 (ji5), Go.bits .or .i64 a0_1 (ji7))) = some (r1, r2) := by first | (rw [hji7] at H; exact H) | (simp only [hji7] at H ⊢; exact H)
  have hji7_ : (IntKind.i64.wrap (a2 * 2 ^ min a1.toNat 64)) = ji7 := hji7
  have hji7z : a1 ≤ 64 → (IntKind.i64.wrap (a2 * 2 ^ a1.toNat)) = ji7 := shl_small hji7
  have hji7y : (wrap64 (a2 * 2 ^ min a1.toNat 64)) = ji7 := (i64_w _).symm.trans hji7_
  have hji7x : a1 ≤ 64 → (wrap64 (a2 * 2 ^ a1.toNat)) = ji7 := fun h_ => (i64_w _).symm.trans (hji7z h_)
  simp only [Option.some.injEq, Prod.mk.injEq] at H
  obtain ⟨rfl, rfl⟩ := H
  go_enter Try.func90, Try.ntmps90
  try go_wp2_with (first | ((with_reducible refine gate_dst (N := 3) rfl ?_); refine box_event ?hg (N := 3) ?hd (cs := #[.int .i64 a0_0, .int .i64 a0_1]) (t := 74) ?hr ?_; (case hd => rfl); (case hg => rfl); (case hr => first | (go_simp; done) | (go_simp; rfl)); intro gb517 hg w8 hbox hb; have n0_ := Aside0.mk (below_step zB hb); have n1_ := Aside0.mk (hbox); have n2_ := Aside0.mk ((by rw [hg]; exact (below_size zB) : w.heap.size ≤ gb517)); have n3_ := Aside0.mk ((by rw [hg]; exact (below_size zB) : w.heap.size ≤ gb517)); clear HB; have HB := n0_; have BK517 := n1_; have GW517 := n2_; have GE517 := n3_; clear n0_ n1_ n2_ n3_; clear hb hbox hg) | ((with_reducible refine gate_dst (N := 6) rfl ?_); refine box_event ?hg (N := 6) ?hd (cs := #[.int .i64 0, .int .i64 0]) (t := 74) ?hr ?_; (case hd => rfl); (case hg => rfl); (case hr => first | (go_simp; done) | (go_simp; rfl)); intro gb518 hg w9 hbox hb; have n0_ := Aside0.mk (blk_below (g := gb517) (o := .cells #[.int .i64 a0_0, .int .i64 a0_1] 74 (0, 0)) (zk BK517) hb); have n1_ := Aside0.mk (below_step zB hb); have n2_ := Aside0.mk (hbox); have n3_ := Aside0.mk ((by rw [hg]; exact (below_size zB) : w.heap.size ≤ gb518)); have n4_ := Aside0.mk ((by rw [hg]; exact (below_size zB) : w.heap.size ≤ gb518)); have n5_ := Aside0.mk ((by rw [hg]; exact Nat.ne_of_lt (blk_lt (g := gb517) (o := .cells #[.int .i64 a0_0, .int .i64 a0_1] 74 (0, 0)) (zk BK517)) : gb517 ≠ gb518)); have n6_ := Aside0.mk ((by rw [hg]; exact Nat.ne_of_gt (blk_lt (g := gb517) (o := .cells #[.int .i64 a0_0, .int .i64 a0_1] 74 (0, 0)) (zk BK517)) : gb518 ≠ gb517)); clear BK517; clear HB; have BK517 := n0_; have HB := n1_; have BK518 := n2_; have GW518 := n3_; have GE518 := n4_; have NB517_518 := n5_; have NB518_517 := n6_; clear n0_ n1_ n2_ n3_ n4_ n5_ n6_; clear hb hbox hg))
  have n0_ := Aside0.mk (blk_drew BK517.out)
  have n1_ := Aside0.mk (blk_drew BK518.out)
  have n2_ := Aside0.mk (below_drew1 HB.out)
  clear BK517
  clear BK518
  clear HB
  have BK517 := n0_
  have BK518 := n1_
  have HB := n2_
  clear n0_ n1_ n2_
  refine start_ (n := 13) (S := fun w' => w'.cell? ⟨gb517, 0, none⟩ = some (.int .i64 a0_0) ∧ w'.cell? ⟨gb517, 1, none⟩ = some (.int .i64 a0_1)) (ds := []) #[false, false, false, false, false, false, false, false, false, false, false, false, false] zK rfl rfl ⟨(blk_cell BK517.out 0).trans rfl, (blk_cell BK517.out 1).trans rfl⟩ (fun hHeld => ?_); refine with_tabW ancepsref40_choices_with.tab1 ancepsref40_choices_with.bits1 (fun HT_ HW_ => ?_)
  generalize w9.drew = w10 at BK517 BK518 HB hHeld ⊢
  refine pure_ (i := 0) (N := some 7) (v := ?_) (a' := ?_) #[true, false, false, false, false, false, false, false, false, false, false, false, false] rfl rfl (any_of HT_.out zK) (fun _ _ _ h => h) (Or.inl ⟨by rfl, ?_⟩) ?_ ?_
  rotate_left
  ·intro w'
   go_simp
   with_reducible rfl
  rotate_left
  ·simp only [Act.put, List.setIfInBounds_toArray, List.set_cons_zero, List.set_cons_succ, i64_w, i32_w]
   rfl
  refine pure_ (i := 2) (N := some 9) (v := ?_) (a' := ?_) #[true, false, true, false, false, false, false, false, false, false, false, false, false] rfl rfl (any_of HT_.out zK) (fun _ _ _ h => h) (Or.inl ⟨by rfl, ?_⟩) ?_ ?_
  rotate_left
  ·intro w'
   go_simp
   with_reducible rfl
  rotate_left
  ·simp only [Act.put, List.setIfInBounds_toArray, List.set_cons_zero, List.set_cons_succ, i64_w, i32_w]
   rfl
  refine pure_ (i := 3) (N := some 10) (v := ?_) (a' := ?_) #[true, false, true, true, false, false, false, false, false, false, false, false, false] rfl rfl (any_of HT_.out zK) (fun _ _ _ h => h) (Or.inl ⟨by rfl, ?_⟩) ?_ ?_
  rotate_left
  ·intro w'
   go_simp
   with_reducible rfl
  rotate_left
  ·simp only [Act.put, List.setIfInBounds_toArray, List.set_cons_zero, List.set_cons_succ, i64_w, i32_w]
   rfl
  refine pure_ (i := 5) (N := some 12) (v := ?_) (a' := ?_) #[true, false, true, true, false, true, false, false, false, false, false, false, false] rfl rfl (any_of HT_.out zK) (fun _ _ _ h => h) (Or.inl ⟨by rfl, ?_⟩) ?_ ?_
  rotate_left
  ·intro w'
   go_simp
   with_reducible rfl
  rotate_left
  ·simp only [Act.put, List.setIfInBounds_toArray, List.set_cons_zero, List.set_cons_succ, i64_w, i32_w]
   rfl
  refine pure_ (i := 7) (N := some 14) (v := ?_) (a' := ?_) #[true, false, true, true, false, true, false, true, false, false, false, false, false] rfl rfl (any_of HT_.out zK) (fun _ _ _ h => h) (Or.inl ⟨by rfl, ?_⟩) ?_ ?_
  rotate_left
  ·intro w'
   go_simp
   with_reducible rfl
  rotate_left
  ·simp only [Act.put, List.setIfInBounds_toArray, List.set_cons_zero, List.set_cons_succ, i64_w, i32_w]
   rfl
  refine pure_ (i := 8) (N := some 15) (v := ?_) (a' := ?_) #[true, false, true, true, false, true, false, true, true, false, false, false, false] rfl rfl (any_of HT_.out zK) (fun _ _ _ h => h) (Or.inl ⟨by rfl, ?_⟩) ?_ ?_
  rotate_left
  ·intro w'
   go_simp
   with_reducible rfl
  rotate_left
  ·simp only [Act.put, List.setIfInBounds_toArray, List.set_cons_zero, List.set_cons_succ, i64_w, i32_w]
   rfl
  refine pure_ (i := 9) (N := some 16) (v := ?_) (a' := ?_) #[true, false, true, true, false, true, false, true, true, true, false, false, false] rfl rfl (any_of HT_.out zK) (fun _ _ _ h => h) (Or.inl ⟨by rfl, ?_⟩) ?_ ?_
  rotate_left
  ·intro w'
   go_simp
   with_reducible rfl
  rotate_left
  ·simp only [Act.put, List.setIfInBounds_toArray, List.set_cons_zero, List.set_cons_succ, i64_w, i32_w]
   rfl
  refine take_ (i := 1) (N := some 8) (v := ?_) (a' := ?_) #[true, true, true, true, false, true, false, true, true, true, false, false, false] rfl rfl (take_ofW HT_.out HW_.out zK) (fun _ _ _ h => h) (Or.inl ⟨by rfl, ?_⟩) hHeld ?_ ?_
  rotate_left
  ·rintro w' ⟨s0, s1⟩
   go_simp
   with_reducible rfl
  rotate_left
  ·simp only [Act.put, List.setIfInBounds_toArray, List.set_cons_zero, List.set_cons_succ, i64_w, i32_w]
   rfl
  refine pure_ (i := 4) (N := some 11) (v := ?_) (a' := ?_) #[true, true, true, true, true, true, false, true, true, true, false, false, false] rfl rfl (any_of HT_.out zK) (fun _ _ _ h => h) (Or.inl ⟨by rfl, ?_⟩) ?_ ?_
  rotate_left
  ·intro w'
   go_simp
   with_reducible rfl
  rotate_left
  ·simp only [Act.put, List.setIfInBounds_toArray, List.set_cons_zero, List.set_cons_succ, i64_w, i32_w]
   rfl
  refine take_ (i := 6) (N := some 13) (v := ?_) (a' := ?_) #[true, true, true, true, true, true, true, true, true, true, false, false, false] rfl rfl (take_ofW HT_.out HW_.out zK) (fun _ _ _ h => h) (Or.inl ⟨by rfl, ?_⟩) hHeld ?_ ?_
  rotate_left
  ·rintro w' ⟨s0, s1⟩
   go_simp
   with_reducible rfl
  rotate_left
  ·simp only [Act.put, List.setIfInBounds_toArray, List.set_cons_zero, List.set_cons_succ, i64_w, i32_w]
   rfl
  refine pure_ (i := 10) (N := some 17) (v := ?_) (a' := ?_) #[true, true, true, true, true, true, true, true, true, true, true, false, false] rfl rfl (any_of HT_.out zK) (fun _ _ _ h => h) (Or.inl ⟨by rfl, ?_⟩) ?_ ?_
  rotate_left
  ·intro w'
   go_simp
   with_reducible rfl
  rotate_left
  ·simp only [Act.put, List.setIfInBounds_toArray, List.set_cons_zero, List.set_cons_succ, i64_w, i32_w]
   rfl
  refine pure_ (i := 11) (N := some 18) (v := ?_) (a' := ?_) #[true, true, true, true, true, true, true, true, true, true, true, true, false] rfl rfl (any_of HT_.out zK) (fun _ _ _ h => h) (Or.inl ⟨by rfl, ?_⟩) ?_ ?_
  rotate_left
  ·intro w'
   go_simp
   with_reducible rfl
  rotate_left
  ·simp only [Act.put, List.setIfInBounds_toArray, List.set_cons_zero, List.set_cons_succ, i64_w, i32_w]
   rfl
  refine one_ (i := 12) (N := none) #[true, true, true, true, true, true, true, true, true, true, true, true, true] rfl rfl (one_of HT_.out zK) (by decide) (fun K hK => ?_)
  have hs11 : w10.cell? ⟨gb518, 0, none⟩ = some (.int .i64 0) := (blk_cell BK518.out 0).trans rfl
  have hfs11 := blk_frozen BK518.out 0
  have hns11_0 := NB517_518.out
  have hms11_0 := NB518_517.out
  have hs12 : w10.cell? ⟨gb518, 1, none⟩ = some (.int .i64 0) := (blk_cell BK518.out 1).trans rfl
  have hfs12 := blk_frozen BK518.out 1
  have hns12_0 := NB517_518.out
  have hms12_0 := NB518_517.out
  refine skip_ (w1 := ?_) (by rfl) rfl ?_ ?_
  rotate_left
  ·go_simp
   rfl
  refine hK.out _ _ ⟨((cell_far (p := ⟨gb518, _, none⟩) NB517_518.out _).trans (((cell_far (p := ⟨gb518, _, none⟩) NB517_518.out _).trans (hHeld.1)))), ((cell_far (p := ⟨gb518, _, none⟩) NB517_518.out _).trans (((cell_far (p := ⟨gb518, _, none⟩) NB517_518.out _).trans (hHeld.2))))⟩ (fun hHeld => ?_)
  clear hK K
  refine done_ (done_of HT_.out zK) ?_
  try go_wp2
  refine bodyPost_ret (results_cell_row rfl _ _ gb518 74 #[.int .i64 (Go.bits .or .i64 a0_0 (ji5)), .int .i64 (Go.bits .or .i64 a0_1 (ji7))] (0, 0) _ rfl (by (with_reducible repeat (first | refine blk_drewN ?_ _ | refine blk_drew ?_ | refine blk_alloc ?_ _)); refine blk_put (cs := #[.int .i64 (Go.bits .or .i64 a0_0 (ji5)), .int .i64 0]) ?_ 1 _ rfl; (with_reducible repeat (first | refine blk_drewN ?_ _ | refine blk_drew ?_ | refine blk_alloc ?_ _)); refine blk_put (cs := #[.int .i64 0, .int .i64 0]) ?_ 0 _ rfl; (with_reducible repeat (first | refine blk_drewN ?_ _ | refine blk_drew ?_ | refine blk_alloc ?_ _)); exact BK518.out) Try.underlying74 rfl zK) rfl ?_
  exact ⟨by first | rfl | (simp [errW_none, errW_some] <;> rfl) | (simp only [← hji5, ← hji7]; first | rfl | (simp [errW_none, errW_some] <;> rfl)) | (simp [*, errW_none, errW_some] <;> rfl), by repeat (first | (with_reducible first | exact HB.out | apply below_alloc | apply pw_below_drewN | apply below_drew1 | refine below_set ?_ GE517.out | refine below_set ?_ GE518.out) | exact HB.out)⟩
 ·rw [if_neg c4] at H
  exact absurd H (by simp)
end Go.Proofs.Ytbagnalcabdlhaa.S
