-- Written by wip/tools/myprint.py, a program of this session's.
import Derived.Test.YtanbffoilianhaaE0
import Derived.Test.YtanbffoilianhaaE3
import Derived.Test.YtanbffoilianhaaE5
import Derived.Test.YtanbffoilianhaaE6
import Derived.Test.YtanbffoilianhaaE7
import Derived.Test.YtanbffoilianhaaE8
import Derived.Test.YtanbffoilianhaaE10
import Derived.Test.YtanbffoilianhaaE11
namespace Go.Proofs.Ytanbffoilianhaa.E
open Go.RowKit Go.Proofs.YtanbffoilianhaaW.PrintWords Go.Proofs.YtanbffoilianhaaW.PrintLast Go.Proofs.YtanbffoilianhaaW.PrintMore
attribute [local go_sem] max2_int min2_int max_two min_two max_three min_three max_four min_four   -- for this text's walks alone
set_option linter.unusedVariables false
set_option linter.unusedSimpArgs false
/-! ### ancepsref09_from: function 61 -/
mutual
def ancepsref09_from.l0 : Nat → List Int → Int → List (List Int) → Int → Int → List (S69) → Option ((List (List Int)))
 | 0, _, _, _, _, _, _ => none
 | k + 1, x1, x2, x7, x8, x321000, x321001 => if x8 < (x321001.length : Int) then (if 0 ≤ x8 then (if ((rd_T69 x321001 x8).f0) = x2 then (if 0 ≤ ((rd_T69 x321001 x8).f1) then (if ((rd_T69 x321001 x8).f1) < (x1.length : Int) then (ancepsref09_from.j1 k x1 x2 x7 x8 ((rd x1 ((rd_T69 x321001 x8).f1)) == 0) x321000 x321001) else (none)) else (none)) else (ancepsref09_from.j1 k x1 x2 x7 x8 true x321000 x321001)) else (none)) else (some x7)
def ancepsref09_from.j1 : Nat → List Int → Int → List (List Int) → Int → Bool → Int → List (S69) → Option ((List (List Int)))
 | 0, _, _, _, _, _, _, _ => none
 | k + 1, x1, x2, x7, x8, x44, x321000, x321001 => if x44 = true then (ancepsref09_from.l0 k x1 x2 x7 (wrap64 (x8 + 1)) x321000 x321001) else (if 0 ≤ x8 then (if x8 < (x321001.length : Int) then ((ancepsref09_from.f k x321000 x321001 x1 ((rd_T69 x321001 x8).f1)).bind fun t331 => (ancepsref09_from.l1 k x1 x2 x7 x8 t331 0 x321000 x321001)) else (none)) else (none))
def ancepsref09_from.l1 : Nat → List Int → Int → List (List Int) → Int → List (List Int) → Int → Int → List (S69) → Option ((List (List Int)))
 | 0, _, _, _, _, _, _, _, _ => none
 | k + 1, x1, x2, x7, x8, x9, x10, x321000, x321001 => if x10 < (x9.length : Int) then ((some (([x8] : List Int) : List Int)).bind fun y334 => (if 0 ≤ x10 then (if y334.length + (rd_L2 x9 x10).length < 17592186044416 then (if x7.length < 5864062014805 then (ancepsref09_from.l1 k x1 x2 (x7 ++ [(y334 ++ (rd_L2 x9 x10))]) x8 x9 (wrap64 (x10 + 1)) x321000 x321001) else (none)) else (none)) else (none))) else (ancepsref09_from.l0 k x1 x2 x7 (wrap64 (x8 + 1)) x321000 x321001)
def ancepsref09_from.f : Nat → Int → List (S69) → List Int → Int → Option ((List (List Int)))
 | 0, _, _, _, _ => none
 | k + 1, a0_0, l0_1, l1, a2 => if a2 = (wrap64 (a0_0 - 1)) then (some (([(([] : List Int))] : List (List Int)))) else (ancepsref09_from.l0 k l1 a2 ([] : List (List Int)) 0 a0_0 l0_1)
end
theorem ancepsref09_from.mono_l : ∀ k, (∀ y0 y1 y2 y3, LeO (ancepsref09_from.f k y0 y1 y2 y3) (ancepsref09_from.f (k + 1) y0 y1 y2 y3)) ∧ (∀ y0 y1 y2 y3 y4 y5, LeO (ancepsref09_from.l0 k y0 y1 y2 y3 y4 y5) (ancepsref09_from.l0 (k + 1) y0 y1 y2 y3 y4 y5)) ∧ (∀ y0 y1 y2 y3 y4 y5 y6, LeO (ancepsref09_from.j1 k y0 y1 y2 y3 y4 y5 y6) (ancepsref09_from.j1 (k + 1) y0 y1 y2 y3 y4 y5 y6)) ∧ (∀ y0 y1 y2 y3 y4 y5 y6 y7, LeO (ancepsref09_from.l1 k y0 y1 y2 y3 y4 y5 y6 y7) (ancepsref09_from.l1 (k + 1) y0 y1 y2 y3 y4 y5 y6 y7))
 | 0 => ⟨fun _ _ _ _ r h => by simp [ancepsref09_from.f] at h, fun _ _ _ _ _ _ r h => by simp [ancepsref09_from.l0] at h, fun _ _ _ _ _ _ _ r h => by simp [ancepsref09_from.j1] at h, fun _ _ _ _ _ _ _ _ r h => by simp [ancepsref09_from.l1] at h⟩
 | k + 1 => by
  obtain ⟨ih0, ih1, ih2, ih3⟩ := ancepsref09_from.mono_l k
  refine ⟨?_, ?_, ?_, ?_⟩
  ·intro y0 y1 y2 y3
   unfold ancepsref09_from.f
   repeat' first
   | (with_reducible exact ih0 _ _ _ _)
   | (with_reducible exact ih1 _ _ _ _ _ _)
   | (with_reducible exact ih2 _ _ _ _ _ _ _)
   | (with_reducible exact ih3 _ _ _ _ _ _ _ _)
   | (with_reducible exact LeO.refl _)
   | (with_reducible exact LeO.none _)
   | (with_reducible refine LeO.ite ?_ ?_)
   | (with_reducible refine LeO.bind ?_ (fun _ => ?_))
   | exact ih0 _ _ _ _
   | exact ih1 _ _ _ _ _ _
   | exact ih2 _ _ _ _ _ _ _
   | exact ih3 _ _ _ _ _ _ _ _
   | exact LeO.none _
   | refine LeO.ite ?_ ?_
   | refine LeO.bind ?_ (fun _ => ?_)
  ·intro y0 y1 y2 y3 y4 y5
   unfold ancepsref09_from.l0
   repeat' first
   | (with_reducible exact ih0 _ _ _ _)
   | (with_reducible exact ih1 _ _ _ _ _ _)
   | (with_reducible exact ih2 _ _ _ _ _ _ _)
   | (with_reducible exact ih3 _ _ _ _ _ _ _ _)
   | (with_reducible exact LeO.refl _)
   | (with_reducible exact LeO.none _)
   | (with_reducible refine LeO.ite ?_ ?_)
   | (with_reducible refine LeO.bind ?_ (fun _ => ?_))
   | exact ih0 _ _ _ _
   | exact ih1 _ _ _ _ _ _
   | exact ih2 _ _ _ _ _ _ _
   | exact ih3 _ _ _ _ _ _ _ _
   | exact LeO.none _
   | refine LeO.ite ?_ ?_
   | refine LeO.bind ?_ (fun _ => ?_)
  ·intro y0 y1 y2 y3 y4 y5 y6
   unfold ancepsref09_from.j1
   repeat' first
   | (with_reducible exact ih0 _ _ _ _)
   | (with_reducible exact ih1 _ _ _ _ _ _)
   | (with_reducible exact ih2 _ _ _ _ _ _ _)
   | (with_reducible exact ih3 _ _ _ _ _ _ _ _)
   | (with_reducible exact LeO.refl _)
   | (with_reducible exact LeO.none _)
   | (with_reducible refine LeO.ite ?_ ?_)
   | (with_reducible refine LeO.bind ?_ (fun _ => ?_))
   | exact ih0 _ _ _ _
   | exact ih1 _ _ _ _ _ _
   | exact ih2 _ _ _ _ _ _ _
   | exact ih3 _ _ _ _ _ _ _ _
   | exact LeO.none _
   | refine LeO.ite ?_ ?_
   | refine LeO.bind ?_ (fun _ => ?_)
  ·intro y0 y1 y2 y3 y4 y5 y6 y7
   unfold ancepsref09_from.l1
   repeat' first
   | (with_reducible exact ih0 _ _ _ _)
   | (with_reducible exact ih1 _ _ _ _ _ _)
   | (with_reducible exact ih2 _ _ _ _ _ _ _)
   | (with_reducible exact ih3 _ _ _ _ _ _ _ _)
   | (with_reducible exact LeO.refl _)
   | (with_reducible exact LeO.none _)
   | (with_reducible refine LeO.ite ?_ ?_)
   | (with_reducible refine LeO.bind ?_ (fun _ => ?_))
   | exact ih0 _ _ _ _
   | exact ih1 _ _ _ _ _ _
   | exact ih2 _ _ _ _ _ _ _
   | exact ih3 _ _ _ _ _ _ _ _
   | exact LeO.none _
   | refine LeO.ite ?_ ?_
   | refine LeO.bind ?_ (fun _ => ?_)
theorem ancepsref09_from.mono : ∀ a0 a1 a2 a3 k, LeO (ancepsref09_from.f k a0 a1 a2 a3) (ancepsref09_from.f (k + 1) a0 a1 a2 a3) := by
 intro a0 a1 a2 a3 k
 obtain ⟨ih0, ih1, ih2, ih3⟩ := ancepsref09_from.mono_l k
 exact ih0 a0 a1 a2 a3
def ancepsref09_from.T8 : Bool × List (List Nat × List Nat) := (true, [([], []), ([], []), ([], []), ([2], [2]), ([], []), ([3, 4], [3, 4]), ([5], [5]), ([6], [6]), ([0, 1, 7], [0, 1, 7]), ([8, 8, 0, 1, 2, 3, 4, 5, 6, 7, 8], [8])])
def ancepsref09_from.B8 : List Nat := [0, 0, 0, 4, 0, 28, 60, 124, 255, 511]
theorem ancepsref09_from.tab8 : rtab .any (opsOf Try.f61 8) = ancepsref09_from.T8 := by kernel_rfl
theorem ancepsref09_from.bits8 : waitsOk ancepsref09_from.T8.2 ancepsref09_from.B8 = true := by kernel_rfl
set_option maxHeartbeats 8000000 in
set_option maxRecDepth 100000 in
theorem ancepsref09_from.calls (k : Nat) : ∀ (a0_0 : Int) (A0_1 : Option Addr) (c0_1 : Nat) (l0_1 : List (S69)) (A1 : Option Addr) (c1 : Nat) (l1 : List Int) (a2 : Int) (r : List (List Int)) (w : World) (hr0_1 : Kd.C k69 w A0_1 l0_1.length l0_1) (hc0_1 : l0_1.length ≤ c0_1) (hr1 : Kd.C (Kd.int .i64) w A1 l1.length l1) (hc1 : l1.length ≤ c1) (h : ancepsref09_from.f k a0_0 l0_1 l1 a2 = some r),
  Calls Try.prog 61 #[.agg #[.int .i64 a0_0, .slice A0_1 l0_1.length c0_1], .slice A1 l1.length c1, .int .i64 a2] w fun e w' => ∃ v0_ : Value, e = .returned (v0_) ∧ Kd.N (Kd.slice 3 (Kd.int .i64)) 25 w' w.heap.size (fun k_ => (w.heap.size ≤ k_)) v0_ r ∧ Below w.heap.size w w' := by
 induction k using Nat.strongRecOn with
 | _ k ih =>
 intro a0_0 A0_1 c0_1 l0_1 A1 c1 l1 a2 r w hr0_1 hc0_1 hr1 hc1 h
 cases k with
 | zero => exact absurd h (by simp [ancepsref09_from.f])
 | succ k =>
 simp only [ancepsref09_from.f] at h
 have hu24 := Try.underlying24
 have hu3 := Try.underlying3
 have hu22 := Try.underlying22
 have hu2 := Try.underlying2
 have hu25 := Try.underlying25
 have HR0_1 := Aside0.mk hr0_1
 have HC0_1 := Aside0.mk hc0_1
 clear hr0_1 hc0_1
 have HR1 := Aside0.mk hr1
 have HC1 := Aside0.mk hc1
 clear hr1 hc1
 have HB := Aside0.mk (Below.refl w.heap.size w)
 have H : (if a2 = (wrap64 (a0_0 - 1)) then (some (([(([] : List Int))] : List (List Int)))) else (ancepsref09_from.l0 k l1 a2 ([] : List (List Int)) 0 a0_0 l0_1)) = some r := h
 clear h
 have HC4 := Aside0.mk H
 clear H
 go_enter Try.func61, Try.ntmps61
 go_upto_if 15 with (first | ((with_reducible refine gate_dst (N := 3) rfl ?_); refine box_event ?hg (N := 3) ?hd (cs := #[.int .i64 a0_0, .slice A0_1 l0_1.length c0_1]) (t := 24) ?hr ?_; (case hd => rfl); (case hg => rfl); (case hr => first | (go_simp; done) | (go_simp; rfl)); intro gb320 hg w5 hbox hb; have n0_ := Aside0.mk (below_step zB hb); have n1_ := Aside0.mk (hbox); have n2_ := Aside0.mk ((by rw [hg]; exact (below_size zB) : w.heap.size ≤ gb320)); have n3_ := Aside0.mk ((by rw [hg]; exact (below_size zB) : w.heap.size ≤ gb320)); clear HB; have HB := n0_; have BK320 := n1_; have GW320 := n2_; have GE320 := n3_; clear n0_ n1_ n2_ n3_; clear hb hbox hg; have hcz6_0 : w5.cell? ⟨gb320, 0, none⟩ = some (.int .i64 a0_0) := (blk_cell BK320.out 0).trans rfl; have hcz6_1 : w5.cell? ⟨gb320, 1, none⟩ = some (.slice A0_1 l0_1.length c0_1) := (blk_cell BK320.out 1).trans rfl; have hfz6_0 := blk_frozen BK320.out 0; have hfz6_1 := blk_frozen BK320.out 1))
 (try simp only [Act.put, List.setIfInBounds_toArray, List.set_cons_zero, List.set_cons_succ])
 have H := HC4.out
 clear HC4
 by_cases c7 : a2 = (wrap64 (a0_0 - 1))
 ·rw [if_pos c7] at H
  have c7b0 : (a2 == (wrap64 (a0_0 - 1))) = true := beq_iff_eq.mpr c7
  have c7b1 : (a2 != (wrap64 (a0_0 - 1))) = false := bne_eq_false_iff_eq.mpr c7
  clear c7
  (first | rw [c7b0] | (simp only [i64_w, i32_w]; rw [c7b0]) | skip)
  (try rw [c7b1])
  obtain ⟨y321, hy321⟩ : ∃ y_ : List Int, y_ = (([] : List Int)) := ⟨_, rfl⟩
  replace H : (some (([y321] : List (List Int)))) = some r := by first | (rw [hy321]; with_reducible exact H) | (have H2_ := (Option.bind_some _ _).symm.trans H; rw [hy321]; with_reducible exact H2_) | (have H2_ := (Option.bind_some _ _).symm.trans H; with_reducible exact H2_) | with_reducible exact H | (rw [hy321]; exact H) | exact H
  have Ny321 := Aside0.mk hy321
  clear hy321
  obtain ⟨y324, hy324⟩ : ∃ y_ : List (List Int), y_ = (([y321] : List (List Int))) := ⟨_, rfl⟩
  replace H : (some y324) = some r := by first | (rw [hy324]; with_reducible exact H) | (have H2_ := (Option.bind_some _ _).symm.trans H; rw [hy324]; with_reducible exact H2_) | (have H2_ := (Option.bind_some _ _).symm.trans H; with_reducible exact H2_) | with_reducible exact H | (rw [hy324]; exact H) | exact H
  have Ny324 := Aside0.mk hy324
  clear hy324
  obtain rfl := Option.some.inj H
  go_wp2_with (first | ((with_reducible refine gate_dst (N := 16) rfl ?_); refine Kd.R_lit (Kd.int .i64) _ 3 ?hg (N := 16) ?hd (xs := ([] : List Int)) (inner := []) (ok := fun _ => True) (okp := fun _ => True) ?hr ?hp (fun _ hk => hk) trivial (Below.refl _ _) (Nat.le_refl _) (by simp) ?_; (case hd => rfl); (case hg => rfl); (case hr => first | (go_simp; done) | (go_simp; rfl)); (case hp => exact (Reps.none _ _)); intro v322 w8 ho9 hb hg_ hnew_; clear hg_ hnew_; (first | rw [← Ny321.out] at ho9 | (simp only [Int.reduceToNat] at ho9; rw [← Ny321.out] at ho9)); have n0_ := Aside0.mk (Kd.R_lower (Kd.R_newM (M := fun k_ => (w.heap.size ≤ k_)) ho9 (below_size zB) (fun k_ h_ => h_)) (below_size zB)); have n1_ := Aside0.mk (blk_below (g := gb320) (o := .cells #[.int .i64 a0_0, .slice A0_1 l0_1.length c0_1] 24 (0, 0)) (zk BK320) hb); have n2_ := Aside0.mk (below_step zB hb); clear BK320; clear HB; have HO323 := n0_; have BK320 := n1_; have HB := n2_; clear n0_ n1_ n2_; clear hb ho9; obtain ⟨Ao10, co10, eo10⟩ := Kd.R_slice HO323.out; subst eo10) | ((with_reducible refine gate_dst (N := 17) rfl ?_); refine Kd.N_lit (Kd.slice 3 (Kd.int .i64)) _ 25 ?hg (N' := 17) ?hd (xs := ([y321] : List (List Int))) (inner := [.slice Ao10 y321.length co10]) (ok := (fun k_ => (w.heap.size ≤ k_) ∧ k_ ≠ gb320)) (okp := (fun k_ => (w.heap.size ≤ k_) ∧ k_ ≠ gb320)) ?hr ?hp (fun _ hk => hk) ((show ∀ k_, w8.heap.size ≤ k_ → (fun k_ => (w.heap.size ≤ k_) ∧ k_ ≠ gb320) k_ from fun k_ hk => ⟨(Nat.le_trans (below_size zB) hk), Kd.freshB (g := gb320) (o := .cells #[.int .i64 a0_0, .slice A0_1 l0_1.length c0_1] 24 (0, 0)) (zk BK320) k_ hk⟩) _ (Nat.le_refl _)) (Below.refl _ _) (Nat.le_refl _) (by simp) ?_; (case hd => rfl); (case hg => rfl); (case hr => first | (go_simp; done) | (go_simp; rfl)); (case hp => exact (Reps.one (show Kd.FK (Kd.slice 3 (Kd.int .i64)) _ _ y321 [.slice Ao10 y321.length co10] from (Kd.FK_slice_mk (Kd.R_reads' (Kd.R_mono (ok' := (fun k_ => (w.heap.size ≤ k_) ∧ k_ ≠ gb320)) (Kd.R_types (HO323.out) BK320.out (by decide)) (fun k_ hk => ⟨hk.1.1, hk.2⟩))).2.1 (Kd.R_F (Kd.R_mono (ok' := (fun k_ => (w.heap.size ≤ k_) ∧ k_ ≠ gb320)) (Kd.R_types (HO323.out) BK320.out (by decide)) (fun k_ hk => ⟨hk.1.1, hk.2⟩))))) (Reps.none _ _))); intro v325 w11 ho12 hb hg_ hnew_; clear hg_ hnew_; (first | rw [← Ny324.out] at ho12 | (simp only [Int.reduceToNat] at ho12; rw [← Ny324.out] at ho12)); have n0_ := Aside0.mk (Kd.N_lower ho12 (below_size zB)); have n1_ := Aside0.mk (blk_below (g := gb320) (o := .cells #[.int .i64 a0_0, .slice A0_1 l0_1.length c0_1] 24 (0, 0)) (zk BK320) hb); have n2_ := Aside0.mk (below_step zB hb); clear BK320; clear HB; clear HO323; have HO326 := n0_; have BK320 := n1_; have HB := n2_; clear n0_ n1_ n2_; clear hb ho12))
  go_ret
  exact ⟨_, by first | rfl | (simp [errW_none, errW_some] <;> rfl) | (simp [*, errW_none, errW_some] <;> rfl), by (with_reducible repeat (first | apply Kd.N_alloc | apply Kd.N_drewN | apply Kd.N_drew)); exact Kd.N_mono HO326.out (fun _ hk => hk.1), by repeat (first | (with_reducible first | exact HB.out | apply below_alloc | apply pw_below_drewN | apply below_drew1 | refine below_set ?_ GE320.out) | exact HB.out)⟩
 ·rw [if_neg c7] at H
  have c7b0 : (a2 == (wrap64 (a0_0 - 1))) = false := beq_eq_false_iff_ne.mpr c7
  have c7b1 : (a2 != (wrap64 (a0_0 - 1))) = true := bne_iff_ne.mpr c7
  (first | rw [c7b0] | (simp only [i64_w, i32_w]; rw [c7b0]) | skip)
  (try rw [c7b1])
  have H' := Aside0.mk H
  clear H
  go_wp2
  go_loopg [7, 8] k (fun kq v7 v8 w' => ∃ (x7_1 : List (List Int)) (x8_1 : Int), v8 = .int .i64 x8_1 ∧ Aside0 (ancepsref09_from.l0 kq l1 a2 x7_1 x8_1 a0_0 l0_1 = some r) ∧ Aside0 (kq ≤ k) ∧ Aside0 (Kd.N (Kd.slice 3 (Kd.int .i64)) 25 w' w.heap.size (fun k_ => (w.heap.size ≤ k_) ∧ k_ ≠ gb320) v7 x7_1) ∧ Aside0 (w'.heap[gb320]? = some (.cells #[.int .i64 a0_0, (.slice A0_1 l0_1.length c0_1)] 24 (0, 0))) ∧ Aside0 (Below w.heap.size w w'))
  case atStart => exact ⟨(([] : List (List Int))), (0), zT, H', ⟨Nat.le_refl _⟩, ⟨by first | exact Kd.S_nil _ _ _ _ _ | exact Kd.N_nil _ _ _ _ _ | exact Kd.V_nil _ _ _ _ _ | exact Kd.Q_nil _ _ _ _ _ | exact Kd.R_nil _ _ _ _ _⟩, ⟨by (with_reducible repeat (first | refine blk_drewN ?_ _ | refine blk_drew ?_ | refine blk_alloc ?_ _)); exact BK320.out⟩, ⟨by repeat (first | (with_reducible first | exact HB.out | apply below_alloc | apply pw_below_drewN | apply below_drew1 | refine below_set ?_ GE320.out) | exact HB.out)⟩⟩
  case round =>
   clear H'
   try clear c1
   try clear p2
   try clear c6
   try clear p6
   try clear c7
   try clear c7b0
   try clear c7b1
   try clear hcz6_0
   try clear hcz6_1
   try clear hfz6_0
   try clear hfz6_1
   obtain ⟨x7_1, x8_1, rfl, HA, HK1, HO_7, BK320, HB⟩ := hrel
   cases gk with
   | zero => exact absurd HA.out (by simp [ancepsref09_from.l0])
   | succ k1 =>
    have H := HA.out
    clear HA
    simp only [ancepsref09_from.l0] at H
    by_cases c13 : x8_1 < (l0_1.length : Int)
    ·rw [if_pos c13] at H
     have c13b0 : decide (x8_1 < (l0_1.length : Int)) = true := decide_eq_true c13
     clear c13
     have HC14 := Aside0.mk H
     clear H
     have hcz15_0 : wr.cell? ⟨gb320, 0, none⟩ = some (.int .i64 a0_0) := (blk_cell BK320.out 0).trans rfl
     have hcz15_1 : wr.cell? ⟨gb320, 1, none⟩ = some (.slice A0_1 l0_1.length c0_1) := (blk_cell BK320.out 1).trans rfl
     have hfz15_0 := blk_frozen BK320.out 0
     have hfz15_1 := blk_frozen BK320.out 1
     go_upto_region 7 with (fail)
     go_cut [44] (fun v44 wc => ∃ (kq : Nat) (x44_13 : Bool), v44 = .bool x44_13 ∧ Aside0 (ancepsref09_from.j1 kq l1 a2 x7_1 x8_1 x44_13 a0_0 l0_1 = some r) ∧ Aside0 (kq ≤ k1) ∧ Aside0 (Kd.N (Kd.slice 3 (Kd.int .i64)) 25 wc w.heap.size (fun k_ => (w.heap.size ≤ k_) ∧ k_ ≠ gb320) u7 x7_1) ∧ Aside0 (wc.heap[gb320]? = some (.cells #[.int .i64 a0_0, (.slice A0_1 l0_1.length c0_1)] 24 (0, 0))) ∧ Aside0 (Below w.heap.size w wc))
     case first =>
      have H := HC14.out
      clear HC14
      by_cases c16 : 0 ≤ x8_1
      ·rw [if_pos c16] at H
       have c16b0 : decide (0 ≤ x8_1) = true := decide_eq_true c16
       clear c16
       (first | rw [c16b0] | (simp only [i64_w, i32_w]; rw [c16b0]) | skip)
       by_cases c17 : ((rd_T69 l0_1 x8_1).f0) = a2
       ·rw [if_pos c17] at H
        have c17b0 : (((rd_T69 l0_1 x8_1).f0) == a2) = true := beq_iff_eq.mpr c17
        have c17b1 : (((rd_T69 l0_1 x8_1).f0) != a2) = false := bne_eq_false_iff_eq.mpr c17
        clear c17
        by_cases c18 : 0 ≤ ((rd_T69 l0_1 x8_1).f1)
        ·rw [if_pos c18] at H
         have c18b0 : decide (0 ≤ ((rd_T69 l0_1 x8_1).f1)) = true := decide_eq_true c18
         clear c18
         by_cases c19 : ((rd_T69 l0_1 x8_1).f1) < (l1.length : Int)
         ·rw [if_pos c19] at H
          have c19b0 : decide (((rd_T69 l0_1 x8_1).f1) < (l1.length : Int)) = true := decide_eq_true c19
          clear c19
          have H' := Aside0.mk H
          clear H
          have hcz20_0 : wr.cell? ⟨gb320, 0, none⟩ = some (.int .i64 a0_0) := (blk_cell BK320.out 0).trans rfl
          have hcz20_1 : wr.cell? ⟨gb320, 1, none⟩ = some (.slice A0_1 l0_1.length c0_1) := (blk_cell BK320.out 1).trans rfl
          have hfz20_0 := blk_frozen BK320.out 0
          have hfz20_1 := blk_frozen BK320.out 1
          have p327 : 0 ≤ (x8_1 : Int) := of_decide_eq_true zh
          have q327 : x8_1 < (l0_1.length : Int) := of_decide_eq_true zh
          obtain ⟨ad327, e327, hx327_0, hx327_1, hx327_2⟩ := at_T69 HR0_1.out x8_1 p327 q327
          cases e327
          replace hx327_0 := (HB.out.cell (World.block_lt_of_cell? w _ hx327_0)).trans hx327_0
          replace hx327_1 := (HB.out.cell (World.block_lt_of_cell? w _ hx327_1)).trans hx327_1
          replace hx327_2 := (HB.out.cell (World.block_lt_of_cell? w _ hx327_2)).trans hx327_2
          replace p327 := eq_true p327
          replace q327 := eq_true q327
          have p328 : 0 ≤ (x8_1 : Int) := of_decide_eq_true zh
          have q328 : x8_1 < (l0_1.length : Int) := of_decide_eq_true zh
          obtain ⟨ad328, e328, hx328_0, hx328_1, hx328_2⟩ := at_T69 HR0_1.out x8_1 p328 q328
          obtain rfl : ad327 = ad328 := (by injection e328)
          replace hx328_0 := (HB.out.cell (World.block_lt_of_cell? w _ hx328_0)).trans hx328_0
          replace hx328_1 := (HB.out.cell (World.block_lt_of_cell? w _ hx328_1)).trans hx328_1
          replace hx328_2 := (HB.out.cell (World.block_lt_of_cell? w _ hx328_2)).trans hx328_2
          replace p328 := eq_true p328
          replace q328 := eq_true q328
          have p329 : 0 ≤ (((rd_T69 l0_1 x8_1).f1) : Int) := of_decide_eq_true zh
          have q329 : ((rd_T69 l0_1 x8_1).f1) < (l1.length : Int) := of_decide_eq_true zh
          obtain ⟨ad329, e329, hx329_0⟩ := Kd.at_int HR1.out ((rd_T69 l0_1 x8_1).f1) p329 q329
          cases e329
          replace hx329_0 := (HB.out.cell (World.block_lt_of_cell? w _ hx329_0)).trans hx329_0
          replace p329 := eq_true p329
          replace q329 := eq_true q329
          go_wp2
          go_meet
          case rel => exact ⟨_, (((rd l1 ((rd_T69 l0_1 x8_1).f1)) == 0)), zT, H', ⟨by have := HK1.out; first | omega | exact Nat.le_refl _⟩, ⟨by (with_reducible repeat (first | apply Kd.N_alloc | apply Kd.N_drewN | apply Kd.N_drew)); exact HO_7.out⟩, ⟨by (with_reducible repeat (first | refine blk_drewN ?_ _ | refine blk_drew ?_ | refine blk_alloc ?_ _)); exact BK320.out⟩, ⟨by repeat (first | (with_reducible first | exact HB.out | apply below_alloc | apply pw_below_drewN | apply below_drew1 | refine below_set ?_ GE320.out) | exact HB.out)⟩⟩
         ·rw [if_neg c19] at H
          exact absurd H (by simp)
        ·rw [if_neg c18] at H
         exact absurd H (by simp)
       ·rw [if_neg c17] at H
        have c17b0 : (((rd_T69 l0_1 x8_1).f0) == a2) = false := beq_eq_false_iff_ne.mpr c17
        have c17b1 : (((rd_T69 l0_1 x8_1).f0) != a2) = true := bne_iff_ne.mpr c17
        have H' := Aside0.mk H
        clear H
        have hcz21_0 : wr.cell? ⟨gb320, 0, none⟩ = some (.int .i64 a0_0) := (blk_cell BK320.out 0).trans rfl
        have hcz21_1 : wr.cell? ⟨gb320, 1, none⟩ = some (.slice A0_1 l0_1.length c0_1) := (blk_cell BK320.out 1).trans rfl
        have hfz21_0 := blk_frozen BK320.out 0
        have hfz21_1 := blk_frozen BK320.out 1
        have p327 : 0 ≤ (x8_1 : Int) := of_decide_eq_true zh
        have q327 : x8_1 < (l0_1.length : Int) := of_decide_eq_true zh
        obtain ⟨ad327, e327, hx327_0, hx327_1, hx327_2⟩ := at_T69 HR0_1.out x8_1 p327 q327
        cases e327
        replace hx327_0 := (HB.out.cell (World.block_lt_of_cell? w _ hx327_0)).trans hx327_0
        replace hx327_1 := (HB.out.cell (World.block_lt_of_cell? w _ hx327_1)).trans hx327_1
        replace hx327_2 := (HB.out.cell (World.block_lt_of_cell? w _ hx327_2)).trans hx327_2
        replace p327 := eq_true p327
        replace q327 := eq_true q327
        go_wp2
        go_meet
        case rel => exact ⟨_, (true), zT, H', ⟨by have := HK1.out; first | omega | exact Nat.le_refl _⟩, ⟨by (with_reducible repeat (first | apply Kd.N_alloc | apply Kd.N_drewN | apply Kd.N_drew)); exact HO_7.out⟩, ⟨by (with_reducible repeat (first | refine blk_drewN ?_ _ | refine blk_drew ?_ | refine blk_alloc ?_ _)); exact BK320.out⟩, ⟨by repeat (first | (with_reducible first | exact HB.out | apply below_alloc | apply pw_below_drewN | apply below_drew1 | refine below_set ?_ GE320.out) | exact HB.out)⟩⟩
      ·rw [if_neg c16] at H
       exact absurd H (by simp)
     case rest =>
      clear HC14
      try clear c1
      try clear p2
      try clear p3
      try clear q3
      try clear hx3
      try clear c6
      try clear p6
      try clear c7
      try clear c7b0
      try clear c7b1
      try clear c13
      try clear c13b0
      try clear c16
      try clear c16b0
      try clear c17
      try clear c17b0
      try clear c17b1
      try clear c18
      try clear c18b0
      try clear c19
      try clear c19b0
      try clear hcz15_0
      try clear hcz15_1
      try clear hcz20_0
      try clear hcz20_1
      try clear hcz21_0
      try clear hcz21_1
      try clear hcz6_0
      try clear hcz6_1
      try clear hfz15_0
      try clear hfz15_1
      try clear hfz20_0
      try clear hfz20_1
      try clear hfz21_0
      try clear hfz21_1
      try clear hfz6_0
      try clear hfz6_1
      try clear hx327_0
      try clear hx327_1
      try clear hx327_2
      try clear hx328_0
      try clear hx328_1
      try clear hx328_2
      try clear hx329_0
      try clear p2
      try clear p327
      try clear p328
      try clear p329
      try clear p6
      try clear q327
      try clear q328
      try clear q329
      obtain ⟨kq, x44_13, rfl, HA, HJ13, HO_7, BK320, HB⟩ := hcut
      cases kq with
      | zero => exact absurd HA.out (by simp [ancepsref09_from.j1])
      | succ kj13 =>
       have H := HA.out
       clear HA
       simp only [ancepsref09_from.j1] at H
       by_cases c22 : x44_13 = true
       ·subst c22
        have H1 : (ancepsref09_from.l0 kj13 l1 a2 x7_1 (wrap64 (x8_1 + 1)) a0_0 l0_1) = some r := by rw [if_pos rfl] at H; exact H
        clear H
        have H := H1
        clear H1
        have H' := Aside0.mk H
        clear H
        go_wp2
        go_roundg kj13
        case measure => have := HK1.out; have := HJ13.out; omega
        case rel => exact ⟨(x7_1), (wrap64 (x8_1 + 1)), zT, H', ⟨by have := HK1.out; have := HJ13.out; omega⟩, ⟨by (with_reducible repeat (first | apply Kd.N_alloc | apply Kd.N_drewN | apply Kd.N_drew)); exact HO_7.out⟩, ⟨by (with_reducible repeat (first | refine blk_drewN ?_ _ | refine blk_drew ?_ | refine blk_alloc ?_ _)); exact BK320.out⟩, ⟨by repeat (first | (with_reducible first | exact HB.out | apply below_alloc | apply pw_below_drewN | apply below_drew1 | refine below_set ?_ GE320.out) | exact HB.out)⟩⟩
       ·replace c22 := Bool.eq_false_iff.mpr c22
        subst c22
        have H1 : (if 0 ≤ x8_1 then (if x8_1 < (l0_1.length : Int) then ((ancepsref09_from.f kj13 a0_0 l0_1 l1 ((rd_T69 l0_1 x8_1).f1)).bind fun t331 => (ancepsref09_from.l1 kj13 l1 a2 x7_1 x8_1 t331 0 a0_0 l0_1)) else (none)) else (none)) = some r := by rw [if_neg (show ¬ (false = true) by decide)] at H; exact H
        clear H
        have H := H1
        clear H1
        by_cases c23 : 0 ≤ x8_1
        ·rw [if_pos c23] at H
         have c23b0 : decide (0 ≤ x8_1) = true := decide_eq_true c23
         clear c23
         by_cases c24 : x8_1 < (l0_1.length : Int)
         ·rw [if_pos c24] at H
          have c24b0 : decide (x8_1 < (l0_1.length : Int)) = true := decide_eq_true c24
          clear c24
          replace H := Option.bind_eq_some_iff.mp H
          obtain ⟨t331, A250, H⟩ := H
          replace H : (ancepsref09_from.l1 kj13 l1 a2 x7_1 x8_1 t331 0 a0_0 l0_1) = some r := H
          have A25 := Aside0.mk A250
          clear A250
          have H' := Aside0.mk H
          clear H
          try go_wp2
          have n0_ := Aside0.mk (Kd.N_drew HO_7.out)
          have n1_ := Aside0.mk (blk_drew BK320.out)
          have n2_ := Aside0.mk (below_drew1 HB.out)
          clear HO_7
          clear BK320
          clear HB
          have HO_7 := n0_
          have BK320 := n1_
          have HB := n2_
          clear n0_ n1_ n2_
          have p330 : 0 ≤ (x8_1 : Int) := of_decide_eq_true zh
          have q330 : x8_1 < (l0_1.length : Int) := of_decide_eq_true zh
          obtain ⟨ad330, e330, hx330_0, hx330_1, hx330_2⟩ := at_T69 HR0_1.out x8_1 p330 q330
          have hw330_2 := hx330_2
          have hw330_1 := hx330_1
          have hw330_0 := hx330_0
          cases e330
          replace hx330_0 := (HB.out.cell (World.block_lt_of_cell? w _ hx330_0)).trans hx330_0
          replace hx330_1 := (HB.out.cell (World.block_lt_of_cell? w _ hx330_1)).trans hx330_1
          replace hx330_2 := (HB.out.cell (World.block_lt_of_cell? w _ hx330_2)).trans hx330_2
          replace p330 := eq_true p330
          replace q330 := eq_true q330
          refine start_ (n := 10) (S := fun w' => w'.cell? ⟨gb320, 0, none⟩ = some (.int .i64 a0_0) ∧ w'.cell? ⟨gb320, 1, none⟩ = some (.slice (some ad330) l0_1.length c0_1) ∧ w'.cell? (ad330.add ((x8_1).toNat * 3)) = some (.int .i64 ((rd_T69 l0_1 x8_1).f0)) ∧ w'.cell? ⟨(ad330.add ((x8_1).toNat * 3)).block, (ad330.add ((x8_1).toNat * 3)).off + 1, none⟩ = some (.int .i64 ((rd_T69 l0_1 x8_1).f1)) ∧ w'.cell? ⟨(ad330.add ((x8_1).toNat * 3)).block, (ad330.add ((x8_1).toNat * 3)).off + 2, none⟩ = some (.int .i64 ((rd_T69 l0_1 x8_1).f2))) (ds := []) #[false, false, false, false, false, false, false, false, false, false] zK rfl rfl ⟨(blk_cell BK320.out 0).trans rfl, (blk_cell BK320.out 1).trans rfl, ((HB.out.cell (World.block_lt_of_cell? w _ hw330_0)).trans hw330_0), ((HB.out.cell (World.block_lt_of_cell? w _ hw330_1)).trans hw330_1), ((HB.out.cell (World.block_lt_of_cell? w _ hw330_2)).trans hw330_2)⟩ (fun hHeld => ?_); refine with_tabW ancepsref09_from.tab8 ancepsref09_from.bits8 (fun HT_ HW_ => ?_)
          generalize wc.drew = w26 at HO_7 BK320 HB hx330_0 hx330_1 hx330_2 hHeld ⊢
          refine pure_ (i := 1) (N := some 46) (v := ?_) (a' := ?_) #[false, true, false, false, false, false, false, false, false, false] rfl rfl (any_of HT_.out zK) (fun _ _ _ h => h) (Or.inl ⟨by rfl, ?_⟩) ?_ ?_
          rotate_left
          ·intro w'
           go_simp
           with_reducible rfl
          rotate_left
          ·simp only [Act.put, List.setIfInBounds_toArray, List.set_cons_zero, List.set_cons_succ, i64_w, i32_w]
           rfl
          refine pure_ (i := 2) (N := some 47) (v := ?_) (a' := ?_) #[false, true, true, false, false, false, false, false, false, false] rfl rfl (any_of HT_.out zK) (fun _ _ _ h => h) (Or.inl ⟨by rfl, ?_⟩) ?_ ?_
          rotate_left
          ·intro w'
           go_simp
           with_reducible rfl
          rotate_left
          ·simp only [Act.put, List.setIfInBounds_toArray, List.set_cons_zero, List.set_cons_succ, i64_w, i32_w]
           rfl
          refine pure_ (i := 4) (N := some 49) (v := ?_) (a' := ?_) #[false, true, true, false, true, false, false, false, false, false] rfl rfl (any_of HT_.out zK) (fun _ _ _ h => h) (Or.inl ⟨by rfl, ?_⟩) ?_ ?_
          rotate_left
          ·intro w'
           go_simp
           with_reducible rfl
          rotate_left
          ·simp only [Act.put, List.setIfInBounds_toArray, List.set_cons_zero, List.set_cons_succ, i64_w, i32_w]
           rfl
          refine take_ (i := 0) (N := some 45) (v := ?_) (a' := ?_) #[true, true, true, false, true, false, false, false, false, false] rfl rfl (take_ofW HT_.out HW_.out zK) (fun _ _ _ h => h) (Or.inl ⟨by rfl, ?_⟩) hHeld ?_ ?_
          rotate_left
          ·rintro w' ⟨s0, s1, s2, s3, s4⟩
           go_simp
           with_reducible rfl
          rotate_left
          ·simp only [Act.put, List.setIfInBounds_toArray, List.set_cons_zero, List.set_cons_succ, i64_w, i32_w]
           rfl
          refine take_ (i := 3) (N := some 48) (v := ?_) (a' := ?_) #[true, true, true, true, true, false, false, false, false, false] rfl rfl (take_ofW HT_.out HW_.out zK) (fun _ _ _ h => h) (Or.inl ⟨by rfl, ?_⟩) hHeld ?_ ?_
          rotate_left
          ·rintro w' ⟨s0, s1, s2, s3, s4⟩
           go_simp
           with_reducible rfl
          rotate_left
          ·simp only [Act.put, List.setIfInBounds_toArray, List.set_cons_zero, List.set_cons_succ, i64_w, i32_w]
           rfl
          refine pure_ (i := 5) (N := some 50) (v := ?_) (a' := ?_) #[true, true, true, true, true, true, false, false, false, false] rfl rfl (any_of HT_.out zK) (fun _ _ _ h => h) (Or.inl ⟨by rfl, ?_⟩) ?_ ?_
          rotate_left
          ·intro w'
           go_simp
           with_reducible rfl
          rotate_left
          ·simp only [Act.put, List.setIfInBounds_toArray, List.set_cons_zero, List.set_cons_succ, i64_w, i32_w]
           rfl
          refine pure_ (i := 6) (N := some 51) (v := ?_) (a' := ?_) #[true, true, true, true, true, true, true, false, false, false] rfl rfl (any_of HT_.out zK) (fun _ _ _ h => h) (Or.inl ⟨by rfl, ?_⟩) ?_ ?_
          rotate_left
          ·intro w'
           go_simp
           with_reducible rfl
          rotate_left
          ·simp only [Act.put, List.setIfInBounds_toArray, List.set_cons_zero, List.set_cons_succ, i64_w, i32_w]
           rfl
          refine take_ (i := 7) (N := some 52) (v := ?_) (a' := ?_) #[true, true, true, true, true, true, true, true, false, false] rfl rfl (take_ofW HT_.out HW_.out zK) (fun _ _ _ h => h) (Or.inl ⟨by rfl, ?_⟩) hHeld ?_ ?_
          rotate_left
          ·rintro w' ⟨s0, s1, s2, s3, s4⟩
           go_simp
           with_reducible rfl
          rotate_left
          ·simp only [Act.put, List.setIfInBounds_toArray, List.set_cons_zero, List.set_cons_succ, i64_w, i32_w]
           rfl
          refine one_ (i := 8) (N := some 53) #[true, true, true, true, true, true, true, true, true, false] rfl rfl (one_of HT_.out zK) (by decide) (fun K hK => ?_)
          refine goes_ Try.func61 zK rfl #[.agg #[.int .i64 a0_0, .slice (some ad330) l0_1.length c0_1], .slice A1 l1.length c1, .int .i64 ((rd_T69 l0_1 x8_1).f1)] (by rfl) rfl rfl zM ?_
          with_reducible refine (ih kj13 (by have := HK1.out; have := HJ13.out; omega) a0_0 _ _ l0_1 _ _ l1 ((rd_T69 l0_1 x8_1).f1) t331 _ ?side1 ?side2 ?side3 ?side4 A25.out).mono ?_
          (case side1 => repeat (first | exact (Kd.C_below HR0_1.out HB.out) | (with_reducible refine Kd.C_alloc ?_ _) | (with_reducible refine Kd.C_drewN ?_ _) | (with_reducible refine Kd.C_drew ?_)))
          (case side2 => exact HC0_1.out)
          (case side3 => repeat (first | exact (Kd.C_below HR1.out HB.out) | (with_reducible refine Kd.C_alloc ?_ _) | (with_reducible refine Kd.C_drewN ?_ _) | (with_reducible refine Kd.C_drew ?_)))
          (case side4 => exact HC1.out)
          rintro e w27 ⟨v332, rfl, ho0, hb⟩
          refine ⟨_, rfl, ?_⟩
          have n0_ := Aside0.mk (Kd.N_elder' (zN HO_7) (Kd.N_base ho0) hb)
          have n1_ := Aside0.mk (Kd.N_lower (Kd.N_mono (ok' := fun k_ => (w.heap.size ≤ k_) ∧ some k_ ≠ (u7 : Value).ownBlock ∧ k_ ≠ gb320) ho0 (fun k_ hk_ => ⟨(Nat.le_trans (below_size zB) hk_), (Kd.fresh' (Kd.N_lt (zN HO_7)) k_ hk_), (Kd.freshB (g := gb320) (o := .cells #[.int .i64 a0_0, .slice (some ad330) l0_1.length c0_1] 24 (0, 0)) (zk BK320) k_ hk_)⟩)) (below_size zB))
          have n2_ := Aside0.mk (blk_below (g := gb320) (o := .cells #[.int .i64 a0_0, .slice (some ad330) l0_1.length c0_1] 24 (0, 0)) (zk BK320) hb)
          have n3_ := Aside0.mk (below_step zB hb)
          clear HO_7
          clear BK320
          clear HB
          have HO_7 := n0_
          have HO333 := n1_
          have BK320 := n2_
          have HB := n3_
          clear n0_ n1_ n2_ n3_
          (try clear hb)
          (try clear hb2)
          (try clear hk)
          (try clear hi)
          (try clear ho0)
          refine hK.out _ _ ⟨(blk_cell BK320.out 0).trans rfl, (blk_cell BK320.out 1).trans rfl, ((HB.out.cell (World.block_lt_of_cell? w _ hw330_0)).trans hw330_0), ((HB.out.cell (World.block_lt_of_cell? w _ hw330_1)).trans hw330_1), ((HB.out.cell (World.block_lt_of_cell? w _ hw330_2)).trans hw330_2)⟩ (fun hHeld => ?_)
          clear hK K
          refine norm_ (a' := ?_) ?_ ?_
          rotate_left
          ·show Act.put _ (some 53) _ = _
           simp only [Act.put, List.setIfInBounds_toArray, List.set_cons_zero, List.set_cons_succ, i64_w, i32_w]
           rfl
          refine pure_ (i := 9) (N := some 9) (v := ?_) (a' := ?_) #[true, true, true, true, true, true, true, true, true, true] rfl rfl (any_of HT_.out zK) (fun _ _ _ h => h) (Or.inl ⟨by rfl, ?_⟩) ?_ ?_
          rotate_left
          ·intro w'
           go_simp
           with_reducible rfl
          rotate_left
          ·simp only [Act.put, List.setIfInBounds_toArray, List.set_cons_zero, List.set_cons_succ, i64_w, i32_w]
           rfl
          refine done_ (done_of HT_.out zK) ?_
          try go_wp2
          go_loopg [7, 10] kj13 (fun kq v7 v10 w' => ∃ (x7_3 : List (List Int)) (x10_3 : Int), v10 = .int .i64 x10_3 ∧ Aside0 (ancepsref09_from.l1 kq l1 a2 x7_3 x8_1 t331 x10_3 a0_0 l0_1 = some r) ∧ Aside0 (kq ≤ kj13) ∧ Aside0 (Kd.N (Kd.slice 3 (Kd.int .i64)) 25 w' w.heap.size (fun k_ => (w.heap.size ≤ k_) ∧ some k_ ≠ (v332 : Value).ownBlock ∧ k_ ≠ gb320) v7 x7_3) ∧ Aside0 (Kd.N (Kd.slice 3 (Kd.int .i64)) 25 w' w.heap.size (fun k_ => (w.heap.size ≤ k_) ∧ some k_ ≠ (v7 : Value).ownBlock ∧ k_ ≠ gb320) v332 t331) ∧ Aside0 (w'.heap[gb320]? = some (.cells #[.int .i64 a0_0, (.slice (some ad330) l0_1.length c0_1)] 24 (0, 0))) ∧ Aside0 (Below w.heap.size w w'))
          case atStart => exact ⟨(x7_1), (0), zT, H', ⟨Nat.le_refl _⟩, ⟨by (with_reducible repeat (first | apply Kd.N_alloc | apply Kd.N_drewN | apply Kd.N_drew)); exact Kd.N_mono HO_7.out (fun _ hk => ⟨hk.1.1, ⟨hk.2, hk.1.2⟩⟩)⟩, ⟨by (with_reducible repeat (first | apply Kd.N_alloc | apply Kd.N_drewN | apply Kd.N_drew)); exact HO333.out⟩, ⟨by (with_reducible repeat (first | refine blk_drewN ?_ _ | refine blk_drew ?_ | refine blk_alloc ?_ _)); exact BK320.out⟩, ⟨by repeat (first | (with_reducible first | exact HB.out | apply below_alloc | apply pw_below_drewN | apply below_drew1 | refine below_set ?_ GE320.out) | exact HB.out)⟩⟩
          case round =>
           clear H'
           try clear c1
           try clear c2
           try clear p2
           try clear p3
           try clear q3
           try clear hx3
           try clear c6
           try clear p6
           try clear c7
           try clear c7b0
           try clear c7b1
           try clear c13
           try clear c13b0
           try clear c16
           try clear c16b0
           try clear c17
           try clear c17b0
           try clear c17b1
           try clear c18
           try clear c18b0
           try clear c19
           try clear c19b0
           try clear c22
           try clear c23
           try clear c23b0
           try clear c24
           try clear c24b0
           try clear hcz15_0
           try clear hcz15_1
           try clear hcz20_0
           try clear hcz20_1
           try clear hcz21_0
           try clear hcz21_1
           try clear hcz6_0
           try clear hcz6_1
           try clear hfz15_0
           try clear hfz15_1
           try clear hfz20_0
           try clear hfz20_1
           try clear hfz21_0
           try clear hfz21_1
           try clear hfz6_0
           try clear hfz6_1
           try clear hx327_0
           try clear hx327_1
           try clear hx327_2
           try clear hx328_0
           try clear hx328_1
           try clear hx328_2
           try clear hx329_0
           try clear hx330_0
           try clear hx330_1
           try clear hx330_2
           try clear p2
           try clear p3
           try clear p327
           try clear p328
           try clear p329
           try clear p330
           try clear p6
           try clear q3
           try clear q327
           try clear q328
           try clear q329
           try clear q330
           obtain ⟨x7_3, x10_3, rfl, HA, HK3, HO_7, HO_9, BK320, HB⟩ := hrel
           cases gk with
           | zero => exact absurd HA.out (by simp [ancepsref09_from.l1])
           | succ k3 =>
            have H := HA.out
            clear HA
            simp only [ancepsref09_from.l1] at H
            by_cases c28 : x10_3 < (t331.length : Int)
            ·rw [if_pos c28] at H
             have c28b0 : decide (x10_3 < (t331.length : Int)) = true := decide_eq_true c28
             clear c28
             obtain ⟨y334, hy334⟩ : ∃ y_ : List Int, y_ = (([x8_1] : List Int)) := ⟨_, rfl⟩
             replace H : (if 0 ≤ x10_3 then (if y334.length + (rd_L2 t331 x10_3).length < 17592186044416 then (if x7_3.length < 5864062014805 then (ancepsref09_from.l1 k3 l1 a2 (x7_3 ++ [(y334 ++ (rd_L2 t331 x10_3))]) x8_1 t331 (wrap64 (x10_3 + 1)) a0_0 l0_1) else (none)) else (none)) else (none)) = some r := by first | (rw [hy334]; with_reducible exact H) | (have H2_ := (Option.bind_some _ _).symm.trans H; rw [hy334]; with_reducible exact H2_) | (have H2_ := (Option.bind_some _ _).symm.trans H; with_reducible exact H2_) | with_reducible exact H | (rw [hy334]; exact H) | exact H
             have Ny334 := Aside0.mk hy334
             clear hy334
             by_cases c29 : 0 ≤ x10_3
             ·rw [if_pos c29] at H
              have c29b0 : decide (0 ≤ x10_3) = true := decide_eq_true c29
              clear c29
              by_cases c30 : y334.length + (rd_L2 t331 x10_3).length < 17592186044416
              ·rw [if_pos c30] at H
               have LMc30 := Aside0.mk c30
               clear c30
               obtain ⟨y338, hy338⟩ : ∃ y_ : List Int, y_ = (y334 ++ (rd_L2 t331 x10_3)) := ⟨_, rfl⟩
               replace H : (if x7_3.length < 5864062014805 then (ancepsref09_from.l1 k3 l1 a2 (x7_3 ++ [y338]) x8_1 t331 (wrap64 (x10_3 + 1)) a0_0 l0_1) else (none)) = some r := by first | (rw [hy338]; with_reducible exact H) | (have H2_ := (Option.bind_some _ _).symm.trans H; rw [hy338]; with_reducible exact H2_) | (have H2_ := (Option.bind_some _ _).symm.trans H; with_reducible exact H2_) | with_reducible exact H | (rw [hy338]; exact H) | exact H
               have Ny338 := Aside0.mk hy338
               clear hy338
               by_cases c31 : x7_3.length < 5864062014805
               ·rw [if_pos c31] at H
                have LMc31 := Aside0.mk c31
                clear c31
                obtain ⟨y341, hy341⟩ : ∃ y_ : List (List Int), y_ = (x7_3 ++ [y338]) := ⟨_, rfl⟩
                replace H : (ancepsref09_from.l1 k3 l1 a2 y341 x8_1 t331 (wrap64 (x10_3 + 1)) a0_0 l0_1) = some r := by first | (rw [hy341]; with_reducible exact H) | (have H2_ := (Option.bind_some _ _).symm.trans H; rw [hy341]; with_reducible exact H2_) | (have H2_ := (Option.bind_some _ _).symm.trans H; with_reducible exact H2_) | with_reducible exact H | (rw [hy341]; exact H) | exact H
                have Ny341 := Aside0.mk hy341
                clear hy341
                have H' := Aside0.mk H
                clear H
                obtain ⟨Ao32, co32, eo32⟩ := Kd.N_slice HO_9.out
                subst eo32
                go_wp2_with (first | ((with_reducible refine gate_dst (N := 62) rfl ?_); refine Kd.R_lit (Kd.int .i64) _ 3 ?hg (N := 62) ?hd (xs := ([x8_1] : List Int)) (inner := [.int .i64 x8_1]) (ok := fun _ => True) (okp := fun _ => True) ?hr ?hp (fun _ hk => hk) trivial (Below.refl _ _) (Nat.le_refl _) (by simp) ?_; (case hd => rfl); (case hg => rfl); (case hr => first | (go_simp; done) | (go_simp; rfl)); (case hp => exact (Reps.one (show Kd.M (Kd.int .i64) _ _ _ x8_1 [.int .i64 x8_1] from rfl) (Reps.none _ _))); intro v335 w33 ho34 hb hg_ hnew_; clear hg_ hnew_; (first | rw [← Ny334.out] at ho34 | (simp only [Int.reduceToNat] at ho34; rw [← Ny334.out] at ho34)); have n0_ := Aside0.mk (Kd.N_elder' (zN HO_7) (Kd.R_base ho34) hb); have n1_ := Aside0.mk (Kd.N_elder' (zN HO_9) (Kd.R_base ho34) hb); have n2_ := Aside0.mk (Kd.R_lower (Kd.R_newM (M := fun k_ => (w.heap.size ≤ k_)) ho34 (below_size zB) (fun k_ h_ => h_)) (below_size zB)); have n3_ := Aside0.mk (blk_below (g := gb320) (o := .cells #[.int .i64 a0_0, .slice (some ad330) l0_1.length c0_1] 24 (0, 0)) (zk BK320) hb); have n4_ := Aside0.mk (below_step zB hb); clear HO_7; clear HO_9; clear BK320; clear HB; have HO_7 := n0_; have HO_9 := n1_; have HO336 := n2_; have BK320 := n3_; have HB := n4_; clear n0_ n1_ n2_ n3_ n4_; clear hb ho34; have p337 : 0 ≤ (x10_3 : Int) := of_decide_eq_true zh; have q337 : x10_3 < (t331.length : Int) := of_decide_eq_true zh; obtain ⟨ad337, A337_0, c337_0, e337, hx337_0, hl337_0, hi337_0⟩ := at_L2 (Kd.N_reads' HO_9.out).2.2 x10_3 p337 q337; cases e337; obtain ⟨ce337, hce337, hMe337, hcc337⟩ := Kd.N_get HO_9.out [] x10_3 p337 (by first | exact q337 | exact of_decide_eq_true zh | (have e_ := (Kd.N_reads' HO_9.out).1; omega)); obtain ⟨ua337_0, uc337_0, rfl, ul337_0, ge337_0⟩ := Kd.FK_slice_open hMe337; have hv337_0 := hcc337 0 _ rfl; rw [Nat.add_zero, show ((Kd.slice 3 (Kd.int .i64))).sz = 1 from rfl, Nat.mul_one] at hv337_0; replace hv337_0 := Option.some.inj (hv337_0.symm.trans hx337_0); injection hv337_0 with hva_ hvn_ hvc_; rw [hva_] at ge337_0; rw [hvc_] at ul337_0; have HL337_0 := Aside0.mk (show Kd.V (Kd.int .i64) 3 _ w.heap.size _ _ (rd_L2 t331 x10_3) from Kd.V_mk ul337_0 ge337_0); clear hva_ hvn_ hvc_ ge337_0 ul337_0; clear hcc337 hce337; have HR337_0 := Aside0.mk hi337_0; have HC337_0 := Aside0.mk hl337_0; clear hi337_0 hl337_0; replace p337 := eq_true p337; replace q337 := eq_true q337) | ((with_reducible refine gate_builtin (b := .append) (xs := #[.tmp 62, .tmp 66]) rfl ?_); at_builtin; refine Kd.R_append_rows (Kd.int .i64) (w0 := w) w.heap.size rfl (.tmp 62) (.tmp 66) 25 3 (.int .i64 0) 8 rfl Try.underlying25 info3 rfl (by decide) (by omega) v335 y334 (rd_L2 t331 x10_3) _ _ _ (fun k_ => (w.heap.size ≤ k_)) (fun _ => False) rfl rfl ?aO ?aR (fun _ _ h => h) (fun _ h => h.elim) ?aF ?aB ?aS ?aL ?_; (case aR => repeat (first | exact (by repeat (first | (with_reducible exact HR337_0.out) | (with_reducible refine Kd.C_alloc ?_ _) | (with_reducible refine Kd.C_drewN ?_ _) | (with_reducible refine Kd.C_drew ?_) | exact HR337_0.out)) | (with_reducible refine Kd.C_alloc ?_ _) | (with_reducible refine Kd.C_drewN ?_ _) | (with_reducible refine Kd.C_drew ?_))); (case aB => exact zB); (case aF => exact (fun k_ hk => (Nat.le_trans (below_size zB) hk))); (case aO => exact (by (with_reducible repeat (first | apply Kd.R_alloc | apply Kd.R_drewN | apply Kd.R_drew)); exact Kd.R_mono HO336.out (fun _ hk => hk.1))); (case aS => exact (below_size zB)); (case aL => have := LMc30.out; omega); intro v339 w35 ho hb hg hat; rw [← Ny338.out] at ho; have n0_ := Aside0.mk (Kd.N_afterv (ok := (fun k_ => (w.heap.size ≤ k_) ∧ some k_ ≠ (.slice (some ad337) t331.length co32 : Value).ownBlock ∧ k_ ≠ gb320)) (zN HO_7) hg hat); have n1_ := Aside0.mk (Kd.N_afterv (ok := (fun k_ => (w.heap.size ≤ k_) ∧ some k_ ≠ (u7 : Value).ownBlock ∧ k_ ≠ gb320)) (zN HO_9) hg hat); have n2_ := Aside0.mk (blk_grown (g := gb320) (o := .cells #[.int .i64 a0_0, .slice (some ad330) l0_1.length c0_1] 24 (0, 0)) (zk BK320) hg (Kd.R_ne HO336.out BK320.out (by decide))); have n3_ := Aside0.mk (Kd.V_afterv (ok := (fun k_ => (w.heap.size ≤ k_) ∧ some k_ ≠ (u7 : Value).ownBlock ∧ some k_ ≠ (.slice (some ad337) t331.length co32 : Value).ownBlock ∧ k_ ≠ gb320)) (by (with_reducible repeat (first | apply Kd.V_alloc | apply Kd.V_drewN | apply Kd.V_drew)); exact Kd.V_mono HL337_0.out (fun _ hk => ⟨⟨hk.1.1.1, ⟨hk.1.1.2.1, ⟨hk.2, hk.1.1.2.2⟩⟩⟩, hk.1.2⟩)) hg hat); have n4_ := Aside0.mk (hb); have n5_ := Aside0.mk (ho); clear HO_7; clear HO_9; clear BK320; clear HL337_0; clear HB; clear HO336; have HO_7 := n0_; have HO_9 := n1_; have BK320 := n2_; have HL337_0 := n3_; have HB := n4_; have HO340 := n5_; clear n0_ n1_ n2_ n3_ n4_ n5_; clear ho hb hg hat; obtain ⟨Ao37, co37, eo37⟩ := Kd.R_slice HO340.out; subst eo37) | ((with_reducible refine gate_builtin (b := .append) (xs := #[.tmp 60, .tmp 68]) rfl ?_); at_builtin; refine Kd.N_append (Kd.slice 3 (Kd.int .i64)) (w0 := w) w.heap.size rfl (.tmp 60) (.tmp 68) 34 25 (.slice none 0 0) 24 rfl Try.underlying34 info25 rfl (by decide) (by omega) u7 x7_3 y338 [.slice Ao37 y338.length co37] (fun k_ => (w.heap.size ≤ k_) ∧ some k_ ≠ (.slice (some ad337) t331.length co32 : Value).ownBlock ∧ k_ ≠ gb320) (fun k_ => ((fun k_ => (w.heap.size ≤ k_) ∧ some k_ ≠ (.slice (some ad337) t331.length co32 : Value).ownBlock ∧ k_ ≠ gb320)) k_ ∧ some k_ ≠ (u7 : Value).ownBlock) rfl rfl ?aP (fun _ hk => hk) ?aF ?aO ?aB ?aS ?aL ?_; (case aP => exact (Kd.FK_slice_mk (Kd.R_reads' (Kd.R_mono (ok' := (fun k_ => ((fun k_ => (w.heap.size ≤ k_) ∧ some k_ ≠ (.slice (some ad337) t331.length co32 : Value).ownBlock ∧ k_ ≠ gb320)) k_ ∧ some k_ ≠ (u7 : Value).ownBlock)) (Kd.R_types (Kd.R_apart' (Kd.R_apart' (HO340.out) (Kd.N_typed HO_9.out) (by decide)) (Kd.N_typed HO_7.out) (by decide)) BK320.out (by decide)) (fun k_ hk => ⟨⟨hk.1.1.1, ⟨hk.1.1.2, hk.2⟩⟩, hk.1.2⟩))).2.1 (Kd.R_F (Kd.R_mono (ok' := (fun k_ => ((fun k_ => (w.heap.size ≤ k_) ∧ some k_ ≠ (.slice (some ad337) t331.length co32 : Value).ownBlock ∧ k_ ≠ gb320)) k_ ∧ some k_ ≠ (u7 : Value).ownBlock)) (Kd.R_types (Kd.R_apart' (Kd.R_apart' (HO340.out) (Kd.N_typed HO_9.out) (by decide)) (Kd.N_typed HO_7.out) (by decide)) BK320.out (by decide)) (fun k_ hk => ⟨⟨hk.1.1.1, ⟨hk.1.1.2, hk.2⟩⟩, hk.1.2⟩))))); (case aB => exact zB); (case aF => exact (fun k_ hk => ⟨(Nat.le_trans (below_size zB) hk), Kd.fresh' (Kd.N_lt (zN HO_9)) k_ hk, Kd.freshB (g := gb320) (o := .cells #[.int .i64 a0_0, .slice (some ad330) l0_1.length c0_1] 24 (0, 0)) (zk BK320) k_ hk⟩)); (case aO => exact (by (with_reducible repeat (first | apply Kd.N_alloc | apply Kd.N_drewN | apply Kd.N_drew)); exact Kd.N_mono HO_7.out (fun _ hk => ⟨hk.1.1, ⟨hk.1.2.1, hk.1.2.2⟩⟩))); (case aS => exact (below_size zB)); (case aL => have := LMc31.out; omega); intro v342 w36 ho hb hg hat; rw [← Ny341.out] at ho; have n0_ := Aside0.mk (Kd.N_afterv (ok := (fun k_ => (w.heap.size ≤ k_) ∧ some k_ ≠ (.slice Ao37 y338.length co37 : Value).ownBlock ∧ k_ ≠ gb320)) (by (with_reducible repeat (first | apply Kd.N_alloc | apply Kd.N_drewN | apply Kd.N_drew)); exact Kd.N_mono HO_9.out (fun _ hk => ⟨⟨hk.1.1, ⟨hk.2, hk.1.2.2⟩⟩, hk.1.2.1⟩)) hg hat); have n1_ := Aside0.mk (blk_grown (g := gb320) (o := .cells #[.int .i64 a0_0, .slice (some ad330) l0_1.length c0_1] 24 (0, 0)) (zk BK320) hg (Kd.N_ne HO_7.out BK320.out (by decide))); have n2_ := Aside0.mk (Kd.V_afterv (ok := (fun k_ => (w.heap.size ≤ k_) ∧ some k_ ≠ (.slice (some ad337) t331.length co32 : Value).ownBlock ∧ some k_ ≠ (.slice Ao37 y338.length co37 : Value).ownBlock ∧ k_ ≠ gb320)) (by (with_reducible repeat (first | apply Kd.V_alloc | apply Kd.V_drewN | apply Kd.V_drew)); exact Kd.V_mono HL337_0.out (fun _ hk => ⟨⟨hk.1.1, ⟨hk.1.2.2.1, ⟨hk.2, hk.1.2.2.2⟩⟩⟩, hk.1.2.1⟩)) hg hat); have n3_ := Aside0.mk (hb); have n4_ := Aside0.mk (ho); clear HO_9; clear BK320; clear HL337_0; clear HB; clear HO_7; clear HO340; have HO_9 := n0_; have BK320 := n1_; have HL337_0 := n2_; have HB := n3_; have HO343 := n4_; clear n0_ n1_ n2_ n3_ n4_; clear ho hb hg hat))
                go_roundg k3
                case measure => have := HK1.out; have := HJ13.out; have := HK3.out; omega
                case rel => exact ⟨(y341), (wrap64 (x10_3 + 1)), zT, H', ⟨by have := HK1.out; have := HJ13.out; have := HK3.out; omega⟩, ⟨by (with_reducible repeat (first | apply Kd.N_alloc | apply Kd.N_drewN | apply Kd.N_drew)); exact HO343.out⟩, ⟨by (with_reducible repeat (first | apply Kd.N_alloc | apply Kd.N_drewN | apply Kd.N_drew)); exact Kd.N_mono HO_9.out (fun _ hk => ⟨hk.1.1, ⟨hk.2, hk.1.2.2⟩⟩)⟩, ⟨by (with_reducible repeat (first | refine blk_drewN ?_ _ | refine blk_drew ?_ | refine blk_alloc ?_ _)); exact BK320.out⟩, ⟨by repeat (first | (with_reducible first | exact HB.out | apply below_alloc | apply pw_below_drewN | apply below_drew1 | refine below_set ?_ GE320.out) | exact HB.out)⟩⟩
               ·rw [if_neg c31] at H
                exact absurd H (by simp)
              ·rw [if_neg c30] at H
               exact absurd H (by simp)
             ·rw [if_neg c29] at H
              exact absurd H (by simp)
            ·rw [if_neg c28] at H
             have c28b0 : decide (x10_3 < (t331.length : Int)) = false := decide_eq_false c28
             clear c28
             have H' := Aside0.mk H
             clear H
             obtain ⟨Ao38, co38, eo38⟩ := Kd.N_slice HO_9.out
             subst eo38
             go_wp2
             go_roundg k3
             case measure => have := HK1.out; have := HJ13.out; have := HK3.out; omega
             case rel => exact ⟨(x7_3), (wrap64 (x8_1 + 1)), zT, H', ⟨by have := HK1.out; have := HJ13.out; have := HK3.out; omega⟩, ⟨by (with_reducible repeat (first | apply Kd.N_alloc | apply Kd.N_drewN | apply Kd.N_drew)); exact Kd.N_mono HO_7.out (fun _ hk => ⟨hk.1, hk.2.2⟩)⟩, ⟨by (with_reducible repeat (first | refine blk_drewN ?_ _ | refine blk_drew ?_ | refine blk_alloc ?_ _)); exact BK320.out⟩, ⟨by repeat (first | (with_reducible first | exact HB.out | apply below_alloc | apply pw_below_drewN | apply below_drew1 | refine below_set ?_ GE320.out) | exact HB.out)⟩⟩
         ·rw [if_neg c24] at H
          exact absurd H (by simp)
        ·rw [if_neg c23] at H
         exact absurd H (by simp)
    ·rw [if_neg c13] at H
     have c13b0 : decide (x8_1 < (l0_1.length : Int)) = false := decide_eq_false c13
     clear c13
     obtain rfl := Option.some.inj H
     have hcz39_0 : wr.cell? ⟨gb320, 0, none⟩ = some (.int .i64 a0_0) := (blk_cell BK320.out 0).trans rfl
     have hcz39_1 : wr.cell? ⟨gb320, 1, none⟩ = some (.slice A0_1 l0_1.length c0_1) := (blk_cell BK320.out 1).trans rfl
     have hfz39_0 := blk_frozen BK320.out 0
     have hfz39_1 := blk_frozen BK320.out 1
     go_wp2
     go_ret
     exact ⟨_, by first | rfl | (simp [errW_none, errW_some] <;> rfl) | (simp [*, errW_none, errW_some] <;> rfl), by (with_reducible repeat (first | apply Kd.N_alloc | apply Kd.N_drewN | apply Kd.N_drew)); exact Kd.N_mono HO_7.out (fun _ hk => hk.1), by repeat (first | (with_reducible first | exact HB.out | apply below_alloc | apply pw_below_drewN | apply below_drew1 | refine below_set ?_ GE320.out) | exact HB.out)⟩
/-! ### ancepsref09_Paths: function 22 -/
def ancepsref09_Paths.f (k : Nat) (a0_0 : Int) (l0_1 : List (S69)) : Option ((List (List Int)) × Int) := (ancepsref09_Valid.f k a0_0 l0_1).bind fun t345 => (if t345 = 0 then ((ancepsref09_ways.f k a0_0 l0_1).bind fun t346 => (if 0 < (t346.length : Int) then (if (rd t346 0) > 2000 then (some (([] : List (List Int)), 3)) else (if (rd t346 0) = 0 then (some (([] : List (List Int)), 0)) else ((ancepsref09_from.f k a0_0 l0_1 t346 0).bind fun t351 => (some (t351, 0))))) else (none))) else (some (([] : List (List Int)), t345)))
theorem ancepsref09_Paths.mono : ∀ a0 a1 k, LeO (ancepsref09_Paths.f k a0 a1) (ancepsref09_Paths.f (k + 1) a0 a1) := by
 intro a0 a1 k
 unfold ancepsref09_Paths.f
 repeat' first
   | (with_reducible exact ancepsref09_Valid.mono _ _ _)
   | (with_reducible exact ancepsref09_from.mono _ _ _ _ _)
   | (with_reducible exact ancepsref09_ways.mono _ _ _)
   | (with_reducible exact LeO.refl _)
   | (with_reducible exact LeO.none _)
   | (with_reducible refine LeO.ite ?_ ?_)
   | (with_reducible refine LeO.bind ?_ (fun _ => ?_))
   | exact ancepsref09_Valid.mono _ _ _
   | exact ancepsref09_from.mono _ _ _ _ _
   | exact ancepsref09_ways.mono _ _ _
   | exact LeO.none _
   | refine LeO.ite ?_ ?_
   | refine LeO.bind ?_ (fun _ => ?_)
set_option maxHeartbeats 8000000 in
set_option maxRecDepth 100000 in
theorem ancepsref09_Paths.calls (k : Nat) (a0_0 : Int) (A0_1 : Option Addr) (c0_1 : Nat) (l0_1 : List (S69)) (r1 : List (List Int)) (r2 : Int) (w : World) (hr0_1 : Kd.C k69 w A0_1 l0_1.length l0_1) (hc0_1 : l0_1.length ≤ c0_1) (h : ancepsref09_Paths.f k a0_0 l0_1 = some (r1, r2)) :
  Calls Try.prog 22 #[.agg #[.int .i64 a0_0, .slice A0_1 l0_1.length c0_1]] w fun e w' => ∃ v0_ : Value, e = .returned (.tuple #[v0_, .int .i64 r2]) ∧ Kd.N (Kd.slice 3 (Kd.int .i64)) 25 w' w.heap.size (fun k_ => (w.heap.size ≤ k_)) v0_ r1 ∧ Below w.heap.size w w' := by
 have hu24 := Try.underlying24
 have hu2 := Try.underlying2
 have HR0_1 := Aside0.mk hr0_1
 have HC0_1 := Aside0.mk hc0_1
 clear hr0_1 hc0_1
 have HB := Aside0.mk (Below.refl w.heap.size w)
 have H : ((ancepsref09_Valid.f k a0_0 l0_1).bind fun t345 => (if t345 = 0 then ((ancepsref09_ways.f k a0_0 l0_1).bind fun t346 => (if 0 < (t346.length : Int) then (if (rd t346 0) > 2000 then (some (([] : List (List Int)), 3)) else (if (rd t346 0) = 0 then (some (([] : List (List Int)), 0)) else ((ancepsref09_from.f k a0_0 l0_1 t346 0).bind fun t351 => (some (t351, 0))))) else (none))) else (some (([] : List (List Int)), t345)))) = some (r1, r2) := h
 clear h
 replace H := Option.bind_eq_some_iff.mp H
 obtain ⟨t345, A20, H⟩ := H
 replace H : (if t345 = 0 then ((ancepsref09_ways.f k a0_0 l0_1).bind fun t346 => (if 0 < (t346.length : Int) then (if (rd t346 0) > 2000 then (some (([] : List (List Int)), 3)) else (if (rd t346 0) = 0 then (some (([] : List (List Int)), 0)) else ((ancepsref09_from.f k a0_0 l0_1 t346 0).bind fun t351 => (some (t351, 0))))) else (none))) else (some (([] : List (List Int)), t345))) = some (r1, r2) := H
 have A2 := Aside0.mk A20
 clear A20
 have HC3 := Aside0.mk H
 clear H
 go_enter Try.func22, Try.ntmps22
 go_upto_if 9 with (first | ((with_reducible refine gate_dst (N := 1) rfl ?_); refine box_event ?hg (N := 1) ?hd (cs := #[.int .i64 a0_0, .slice A0_1 l0_1.length c0_1]) (t := 24) ?hr ?_; (case hd => rfl); (case hg => rfl); (case hr => first | (go_simp; done) | (go_simp; rfl)); intro gb344 hg w4 hbox hb; have n0_ := Aside0.mk (below_step zB hb); have n1_ := Aside0.mk (hbox); have n2_ := Aside0.mk ((by rw [hg]; exact (below_size zB) : w.heap.size ≤ gb344)); have n3_ := Aside0.mk ((by rw [hg]; exact (below_size zB) : w.heap.size ≤ gb344)); clear HB; have HB := n0_; have BK344 := n1_; have GW344 := n2_; have GE344 := n3_; clear n0_ n1_ n2_ n3_; clear hb hbox hg; have hcz5_0 : w4.cell? ⟨gb344, 0, none⟩ = some (.int .i64 a0_0) := (blk_cell BK344.out 0).trans rfl; have hcz5_1 : w4.cell? ⟨gb344, 1, none⟩ = some (.slice A0_1 l0_1.length c0_1) := (blk_cell BK344.out 1).trans rfl; have hfz5_0 := blk_frozen BK344.out 0; have hfz5_1 := blk_frozen BK344.out 1) | ((with_reducible refine gate_callee (f := 28) rfl ?_); refine goesL_ (some 7) rfl rfl Try.func28 zK rfl #[.agg #[.int .i64 a0_0, .slice A0_1 l0_1.length c0_1]] rfl zM ?_; (with_reducible refine (ancepsref09_Valid.calls k a0_0 _ _ l0_1 t345 _ ?side1 ?side2 A2.out).mono ?_); (case side1 => repeat (first | exact (Kd.C_below HR0_1.out HB.out) | (with_reducible refine Kd.C_alloc ?_ _) | (with_reducible refine Kd.C_drewN ?_ _) | (with_reducible refine Kd.C_drew ?_))); (case side2 => exact HC0_1.out); rintro e w6 ⟨rfl, hb⟩; refine ⟨_, rfl, ?_⟩; have n0_ := Aside0.mk (blk_below (g := gb344) (o := .cells #[.int .i64 a0_0, .slice A0_1 l0_1.length c0_1] 24 (0, 0)) (zk BK344) hb); have n1_ := Aside0.mk (below_step zB hb); clear BK344; clear HB; have BK344 := n0_; have HB := n1_; clear n0_ n1_; (try clear hb); (try clear hb2); (try clear hk); (try clear hi)))
 (try simp only [Act.put, List.setIfInBounds_toArray, List.set_cons_zero, List.set_cons_succ])
 have H := HC3.out
 clear HC3
 by_cases c7 : t345 = 0
 ·rw [if_pos c7] at H
  have c7b0 : (t345 == 0) = true := beq_iff_eq.mpr c7
  have c7b1 : (t345 != 0) = false := bne_eq_false_iff_eq.mpr c7
  clear c7
  (first | rw [c7b0] | (simp only [i64_w, i32_w]; rw [c7b0]) | skip)
  (try rw [c7b1])
  replace H := Option.bind_eq_some_iff.mp H
  obtain ⟨t346, A80, H⟩ := H
  replace H : (if 0 < (t346.length : Int) then (if (rd t346 0) > 2000 then (some (([] : List (List Int)), 3)) else (if (rd t346 0) = 0 then (some (([] : List (List Int)), 0)) else ((ancepsref09_from.f k a0_0 l0_1 t346 0).bind fun t351 => (some (t351, 0))))) else (none)) = some (r1, r2) := H
  have A8 := Aside0.mk A80
  clear A80
  by_cases c9 : 0 < (t346.length : Int)
  ·rw [if_pos c9] at H
   have c9b0 : decide (0 < (t346.length : Int)) = true := decide_eq_true c9
   have c9b1 : decide (0 < t346.length) = true := decide_eq_true (by omega)
   clear c9
   have HC10 := Aside0.mk H
   clear H
   have hcz11_0 : w6.cell? ⟨gb344, 0, none⟩ = some (.int .i64 a0_0) := (blk_cell BK344.out 0).trans rfl
   have hcz11_1 : w6.cell? ⟨gb344, 1, none⟩ = some (.slice A0_1 l0_1.length c0_1) := (blk_cell BK344.out 1).trans rfl
   have hfz11_0 := blk_frozen BK344.out 0
   have hfz11_1 := blk_frozen BK344.out 1
   go_upto_if 16 with (first | ((with_reducible refine gate_callee (f := 57) rfl ?_); refine goesL_ (some 12) rfl rfl Try.func57 zK rfl #[.agg #[.int .i64 a0_0, .slice A0_1 l0_1.length c0_1]] rfl zM ?_; (with_reducible refine (ancepsref09_ways.calls k a0_0 _ _ l0_1 t346 _ ?side1 ?side2 A8.out).mono ?_); (case side1 => repeat (first | exact (Kd.C_below HR0_1.out HB.out) | (with_reducible refine Kd.C_alloc ?_ _) | (with_reducible refine Kd.C_drewN ?_ _) | (with_reducible refine Kd.C_drew ?_))); (case side2 => exact HC0_1.out); rintro e w12 ⟨v347, rfl, ho0, hb⟩; refine ⟨_, rfl, ?_⟩; have n0_ := Aside0.mk (Kd.R_lower (Kd.R_newM (M := fun k_ => (w.heap.size ≤ k_)) ho0 (below_size zB) (fun k_ h_ => h_)) (below_size zB)); have n1_ := Aside0.mk (blk_below (g := gb344) (o := .cells #[.int .i64 a0_0, .slice A0_1 l0_1.length c0_1] 24 (0, 0)) (zk BK344) hb); have n2_ := Aside0.mk (below_step zB hb); clear BK344; clear HB; have HO348 := n0_; have BK344 := n1_; have HB := n2_; clear n0_ n1_ n2_; (try clear hb); (try clear hb2); (try clear hk); (try clear hi); (try clear ho0); obtain ⟨Ao13, co13, eo13⟩ := Kd.R_slice HO348.out; subst eo13; have p349 : 0 ≤ (0 : Int) := (by omega); have q349 : 0 < (t346.length : Int) := of_decide_eq_true zh; obtain ⟨ad349, e349, hx349_0⟩ := Kd.at_int (Kd.R_reads' HO348.out).2.2 0 p349 q349; cases e349; have qi349 : (0 < t346.length) = True := eq_true (by omega); (try rw [show ((0 : Int)).toNat = 0 from rfl] at hx349_0); (try rw [Addr.add_zero'] at hx349_0); replace p349 := eq_true p349; replace q349 := eq_true q349))
   (try simp only [Act.put, List.setIfInBounds_toArray, List.set_cons_zero, List.set_cons_succ])
   have H := HC10.out
   clear HC10
   by_cases c14 : (rd t346 0) > 2000
   ·rw [if_pos c14] at H
    have c14b0 : decide (2000 < (rd t346 0)) = true := decide_eq_true c14
    clear c14
    (first | rw [c14b0] | (simp only [i64_w, i32_w]; rw [c14b0]) | skip)
    simp only [Option.some.injEq, Prod.mk.injEq] at H
    obtain ⟨rfl, rfl⟩ := H
    go_wp2
    go_ret2
    exact ⟨_, by first | rfl | (simp [errW_none, errW_some] <;> rfl) | (simp [*, errW_none, errW_some] <;> rfl), by first | exact Kd.S_nil _ _ _ _ _ | exact Kd.N_nil _ _ _ _ _ | exact Kd.V_nil _ _ _ _ _ | exact Kd.Q_nil _ _ _ _ _ | exact Kd.R_nil _ _ _ _ _, by repeat (first | (with_reducible first | exact HB.out | apply below_alloc | apply pw_below_drewN | apply below_drew1 | refine below_set ?_ GE344.out) | exact HB.out)⟩
   ·rw [if_neg c14] at H
    have c14b0 : decide (2000 < (rd t346 0)) = false := decide_eq_false c14
    clear c14
    (first | rw [c14b0] | (simp only [i64_w, i32_w]; rw [c14b0]) | skip)
    by_cases c15 : (rd t346 0) = 0
    ·rw [if_pos c15] at H
     have c15b0 : ((rd t346 0) == 0) = true := beq_iff_eq.mpr c15
     have c15b1 : ((rd t346 0) != 0) = false := bne_eq_false_iff_eq.mpr c15
     clear c15
     simp only [Option.some.injEq, Prod.mk.injEq] at H
     obtain ⟨rfl, rfl⟩ := H
     have p350 : 0 ≤ (0 : Int) := (by omega)
     have q350 : 0 < (t346.length : Int) := of_decide_eq_true zh
     obtain ⟨ad350, e350, hx350_0⟩ := Kd.at_int (Kd.R_reads' HO348.out).2.2 0 p350 q350
     obtain rfl : ad349 = ad350 := (by injection e350)
     have qi350 : (0 < t346.length) = True := eq_true (by omega)
     (try rw [show ((0 : Int)).toNat = 0 from rfl] at hx350_0)
     (try rw [Addr.add_zero'] at hx350_0)
     replace p350 := eq_true p350
     replace q350 := eq_true q350
     go_wp2
     go_ret2
     exact ⟨_, by first | rfl | (simp [errW_none, errW_some] <;> rfl) | (simp [*, errW_none, errW_some] <;> rfl), by first | exact Kd.S_nil _ _ _ _ _ | exact Kd.N_nil _ _ _ _ _ | exact Kd.V_nil _ _ _ _ _ | exact Kd.Q_nil _ _ _ _ _ | exact Kd.R_nil _ _ _ _ _, by repeat (first | (with_reducible first | exact HB.out | apply below_alloc | apply pw_below_drewN | apply below_drew1 | refine below_set ?_ GE344.out) | exact HB.out)⟩
    ·rw [if_neg c15] at H
     have c15b0 : ((rd t346 0) == 0) = false := beq_eq_false_iff_ne.mpr c15
     have c15b1 : ((rd t346 0) != 0) = true := bne_iff_ne.mpr c15
     replace H := Option.bind_eq_some_iff.mp H
     obtain ⟨t351, A160, H⟩ := H
     replace H : (some (t351, 0)) = some (r1, r2) := H
     have A16 := Aside0.mk A160
     clear A160
     simp only [Option.some.injEq, Prod.mk.injEq] at H
     obtain ⟨rfl, rfl⟩ := H
     have p350 : 0 ≤ (0 : Int) := (by omega)
     have q350 : 0 < (t346.length : Int) := of_decide_eq_true zh
     obtain ⟨ad350, e350, hx350_0⟩ := Kd.at_int (Kd.R_reads' HO348.out).2.2 0 p350 q350
     obtain rfl : ad349 = ad350 := (by injection e350)
     have qi350 : (0 < t346.length) = True := eq_true (by omega)
     (try rw [show ((0 : Int)).toNat = 0 from rfl] at hx350_0)
     (try rw [Addr.add_zero'] at hx350_0)
     replace p350 := eq_true p350
     replace q350 := eq_true q350
     have hcz17_0 : w12.cell? ⟨gb344, 0, none⟩ = some (.int .i64 a0_0) := (blk_cell BK344.out 0).trans rfl
     have hcz17_1 : w12.cell? ⟨gb344, 1, none⟩ = some (.slice A0_1 l0_1.length c0_1) := (blk_cell BK344.out 1).trans rfl
     have hfz17_0 := blk_frozen BK344.out 0
     have hfz17_1 := blk_frozen BK344.out 1
     go_wp2_with (first | ((with_reducible refine gate_callee (f := 61) rfl ?_); refine goesL_ (some 23) rfl rfl Try.func61 zK rfl #[.agg #[.int .i64 a0_0, .slice A0_1 l0_1.length c0_1], .slice (some ad349) t346.length co13, .int .i64 0] rfl zM ?_; (with_reducible refine (ancepsref09_from.calls k a0_0 _ _ l0_1 _ _ t346 0 t351 _ ?side1 ?side2 ?side3 ?side4 A16.out).mono ?_); (case side1 => repeat (first | exact (Kd.C_below HR0_1.out HB.out) | (with_reducible refine Kd.C_alloc ?_ _) | (with_reducible refine Kd.C_drewN ?_ _) | (with_reducible refine Kd.C_drew ?_))); (case side2 => exact HC0_1.out); (case side3 => repeat (first | exact (Kd.R_reads' HO348.out).2.2 | (with_reducible refine Kd.C_alloc ?_ _) | (with_reducible refine Kd.C_drewN ?_ _) | (with_reducible refine Kd.C_drew ?_))); (case side4 => exact (Kd.R_reads' HO348.out).2.1); rintro e w18 ⟨v352, rfl, ho0, hb⟩; refine ⟨_, rfl, ?_⟩; have n0_ := Aside0.mk (Kd.R_below (zR HO348) hb); have n1_ := Aside0.mk (Kd.N_lower (Kd.N_mono (ok' := fun k_ => (w.heap.size ≤ k_) ∧ some k_ ≠ (.slice (some ad349) t346.length co13 : Value).ownBlock ∧ k_ ≠ gb344) ho0 (fun k_ hk_ => ⟨(Nat.le_trans (below_size zB) hk_), (Kd.fresh' (Kd.R_lt (zR HO348)) k_ hk_), (Kd.freshB (g := gb344) (o := .cells #[.int .i64 a0_0, .slice A0_1 l0_1.length c0_1] 24 (0, 0)) (zk BK344) k_ hk_)⟩)) (below_size zB)); have n2_ := Aside0.mk (blk_below (g := gb344) (o := .cells #[.int .i64 a0_0, .slice A0_1 l0_1.length c0_1] 24 (0, 0)) (zk BK344) hb); have n3_ := Aside0.mk (below_step zB hb); clear HO348; clear BK344; clear HB; have HO348 := n0_; have HO353 := n1_; have BK344 := n2_; have HB := n3_; clear n0_ n1_ n2_ n3_; (try clear hb); (try clear hb2); (try clear hk); (try clear hi); (try clear ho0)))
     go_ret2
     exact ⟨_, by first | rfl | (simp [errW_none, errW_some] <;> rfl) | (simp [*, errW_none, errW_some] <;> rfl), by (with_reducible repeat (first | apply Kd.N_alloc | apply Kd.N_drewN | apply Kd.N_drew)); exact Kd.N_mono HO353.out (fun _ hk => hk.1), by repeat (first | (with_reducible first | exact HB.out | apply below_alloc | apply pw_below_drewN | apply below_drew1 | refine below_set ?_ GE344.out) | exact HB.out)⟩
  ·rw [if_neg c9] at H
   exact absurd H (by simp)
 ·rw [if_neg c7] at H
  have c7b0 : (t345 == 0) = false := beq_eq_false_iff_ne.mpr c7
  have c7b1 : (t345 != 0) = true := bne_iff_ne.mpr c7
  (first | rw [c7b0] | (simp only [i64_w, i32_w]; rw [c7b0]) | skip)
  (try rw [c7b1])
  simp only [Option.some.injEq, Prod.mk.injEq] at H
  obtain ⟨rfl, rfl⟩ := H
  go_wp2
  go_ret2
  exact ⟨_, by first | rfl | (simp [errW_none, errW_some] <;> rfl) | (simp [*, errW_none, errW_some] <;> rfl), by first | exact Kd.S_nil _ _ _ _ _ | exact Kd.N_nil _ _ _ _ _ | exact Kd.V_nil _ _ _ _ _ | exact Kd.Q_nil _ _ _ _ _ | exact Kd.R_nil _ _ _ _ _, by repeat (first | (with_reducible first | exact HB.out | apply below_alloc | apply pw_below_drewN | apply below_drew1 | refine below_set ?_ GE344.out) | exact HB.out)⟩
/-! ### ancepslaw09_DagPaths: function 5 -/
mutual
def ancepslaw09_DagPaths.j0 : Nat → Bool → Int → List (S69) → Option (Bool)
 | 0, _, _, _ => none
 | k + 1, x17, x355000, x355001 => if x17 = true then ((ancepslaw09_awake.f k).bind fun t357 => (some t357)) else ((dag_Paths.f k x355000 x355001).bind fun bt358 => ((ancepsref09_Paths.f k x355000 x355001).bind fun bt362 => (if bt358.2 = bt362.2 then ((ancepsref09_Lists.f k bt358.1 bt362.1).bind fun t366 => (if t366 = true then (ancepslaw09_DagPaths.j1 k bt358.1 bt358.2 bt362.1 bt362.2 (bt358.2 != 0) x355000 x355001) else (ancepslaw09_DagPaths.j1 k bt358.1 bt358.2 bt362.1 bt362.2 true x355000 x355001))) else (ancepslaw09_DagPaths.j1 k bt358.1 bt358.2 bt362.1 bt362.2 true x355000 x355001))))
def ancepslaw09_DagPaths.j1 : Nat → List (List Int) → Int → List (List Int) → Int → Bool → Int → List (S69) → Option (Bool)
 | 0, _, _, _, _, _, _, _ => none
 | k + 1, x3, x4, x5, x6, x41, x355000, x355001 => if x41 = true then (if x4 = x6 then ((ancepsref09_Lists.f k x3 x5).bind fun t367 => (some t367)) else (some false)) else (ancepslaw09_DagPaths.l0 k x3 x3 (x3.length : Int) 0 x355000 x355001)
def ancepslaw09_DagPaths.l0 : Nat → List (List Int) → List (List Int) → Int → Int → Int → List (S69) → Option (Bool)
 | 0, _, _, _, _, _, _ => none
 | k + 1, x3, x50, x51, x52, x355000, x355001 => if x52 < x51 then (if 0 ≤ x52 then (if x52 < (x50.length : Int) then ((dag_Check.f k x355000 x355001 (rd_L2 x50 x52)).bind fun t369 => (if t369 = true then (ancepslaw09_DagPaths.l0 k x3 x50 x51 (wrap64 (x52 + 1)) x355000 x355001) else (some false))) else (none)) else (none)) else ((dag_Count.f k x355000 x355001).bind fun bt370 => (if bt370.2 = 0 then (some (bt370.1 == (x3.length : Int))) else (some false)))
end
def ancepslaw09_DagPaths.f (k : Nat) (a0_0 : Int) (l0_1 : List (S69)) : Option (Bool) := (ancepslaw09_awake.f k).bind fun t355 => (if t355 = true then ((ancepsref09_Few.f a0_0 l0_1).bind fun t356 => (ancepslaw09_DagPaths.j0 k (!t356) a0_0 l0_1)) else (ancepslaw09_DagPaths.j0 k true a0_0 l0_1))
theorem ancepslaw09_DagPaths.mono_l : ∀ k, (∀ y0 y1 y2, LeO (ancepslaw09_DagPaths.j0 k y0 y1 y2) (ancepslaw09_DagPaths.j0 (k + 1) y0 y1 y2)) ∧ (∀ y0 y1 y2 y3 y4 y5 y6, LeO (ancepslaw09_DagPaths.j1 k y0 y1 y2 y3 y4 y5 y6) (ancepslaw09_DagPaths.j1 (k + 1) y0 y1 y2 y3 y4 y5 y6)) ∧ (∀ y0 y1 y2 y3 y4 y5, LeO (ancepslaw09_DagPaths.l0 k y0 y1 y2 y3 y4 y5) (ancepslaw09_DagPaths.l0 (k + 1) y0 y1 y2 y3 y4 y5))
 | 0 => ⟨fun _ _ _ r h => by simp [ancepslaw09_DagPaths.j0] at h, fun _ _ _ _ _ _ _ r h => by simp [ancepslaw09_DagPaths.j1] at h, fun _ _ _ _ _ _ r h => by simp [ancepslaw09_DagPaths.l0] at h⟩
 | k + 1 => by
  obtain ⟨ih0, ih1, ih2⟩ := ancepslaw09_DagPaths.mono_l k
  refine ⟨?_, ?_, ?_⟩
  ·intro y0 y1 y2
   unfold ancepslaw09_DagPaths.j0
   repeat' first
   | (with_reducible exact ih0 _ _ _)
   | (with_reducible exact ih1 _ _ _ _ _ _ _)
   | (with_reducible exact ih2 _ _ _ _ _ _)
   | (with_reducible exact ancepslaw09_awake.mono _)
   | (with_reducible exact ancepsref09_Lists.mono _ _ _)
   | (with_reducible exact ancepsref09_Paths.mono _ _ _)
   | (with_reducible exact dag_Check.mono _ _ _ _)
   | (with_reducible exact dag_Count.mono _ _ _)
   | (with_reducible exact dag_Paths.mono _ _ _)
   | (with_reducible exact LeO.refl _)
   | (with_reducible exact LeO.none _)
   | (with_reducible refine LeO.ite ?_ ?_)
   | (with_reducible refine LeO.bind ?_ (fun _ => ?_))
   | exact ih0 _ _ _
   | exact ih1 _ _ _ _ _ _ _
   | exact ih2 _ _ _ _ _ _
   | exact ancepslaw09_awake.mono _
   | exact ancepsref09_Lists.mono _ _ _
   | exact ancepsref09_Paths.mono _ _ _
   | exact dag_Check.mono _ _ _ _
   | exact dag_Count.mono _ _ _
   | exact dag_Paths.mono _ _ _
   | exact LeO.none _
   | refine LeO.ite ?_ ?_
   | refine LeO.bind ?_ (fun _ => ?_)
  ·intro y0 y1 y2 y3 y4 y5 y6
   unfold ancepslaw09_DagPaths.j1
   repeat' first
   | (with_reducible exact ih0 _ _ _)
   | (with_reducible exact ih1 _ _ _ _ _ _ _)
   | (with_reducible exact ih2 _ _ _ _ _ _)
   | (with_reducible exact ancepslaw09_awake.mono _)
   | (with_reducible exact ancepsref09_Lists.mono _ _ _)
   | (with_reducible exact ancepsref09_Paths.mono _ _ _)
   | (with_reducible exact dag_Check.mono _ _ _ _)
   | (with_reducible exact dag_Count.mono _ _ _)
   | (with_reducible exact dag_Paths.mono _ _ _)
   | (with_reducible exact LeO.refl _)
   | (with_reducible exact LeO.none _)
   | (with_reducible refine LeO.ite ?_ ?_)
   | (with_reducible refine LeO.bind ?_ (fun _ => ?_))
   | exact ih0 _ _ _
   | exact ih1 _ _ _ _ _ _ _
   | exact ih2 _ _ _ _ _ _
   | exact ancepslaw09_awake.mono _
   | exact ancepsref09_Lists.mono _ _ _
   | exact ancepsref09_Paths.mono _ _ _
   | exact dag_Check.mono _ _ _ _
   | exact dag_Count.mono _ _ _
   | exact dag_Paths.mono _ _ _
   | exact LeO.none _
   | refine LeO.ite ?_ ?_
   | refine LeO.bind ?_ (fun _ => ?_)
  ·intro y0 y1 y2 y3 y4 y5
   unfold ancepslaw09_DagPaths.l0
   repeat' first
   | (with_reducible exact ih0 _ _ _)
   | (with_reducible exact ih1 _ _ _ _ _ _ _)
   | (with_reducible exact ih2 _ _ _ _ _ _)
   | (with_reducible exact ancepslaw09_awake.mono _)
   | (with_reducible exact ancepsref09_Lists.mono _ _ _)
   | (with_reducible exact ancepsref09_Paths.mono _ _ _)
   | (with_reducible exact dag_Check.mono _ _ _ _)
   | (with_reducible exact dag_Count.mono _ _ _)
   | (with_reducible exact dag_Paths.mono _ _ _)
   | (with_reducible exact LeO.refl _)
   | (with_reducible exact LeO.none _)
   | (with_reducible refine LeO.ite ?_ ?_)
   | (with_reducible refine LeO.bind ?_ (fun _ => ?_))
   | exact ih0 _ _ _
   | exact ih1 _ _ _ _ _ _ _
   | exact ih2 _ _ _ _ _ _
   | exact ancepslaw09_awake.mono _
   | exact ancepsref09_Lists.mono _ _ _
   | exact ancepsref09_Paths.mono _ _ _
   | exact dag_Check.mono _ _ _ _
   | exact dag_Count.mono _ _ _
   | exact dag_Paths.mono _ _ _
   | exact LeO.none _
   | refine LeO.ite ?_ ?_
   | refine LeO.bind ?_ (fun _ => ?_)
theorem ancepslaw09_DagPaths.mono : ∀ a0 a1 k, LeO (ancepslaw09_DagPaths.f k a0 a1) (ancepslaw09_DagPaths.f (k + 1) a0 a1) := by
 intro a0 a1 k
 obtain ⟨ih0, ih1, ih2⟩ := ancepslaw09_DagPaths.mono_l k
 unfold ancepslaw09_DagPaths.f
 repeat' first
   | (with_reducible exact ih0 _ _ _)
   | (with_reducible exact ih1 _ _ _ _ _ _ _)
   | (with_reducible exact ih2 _ _ _ _ _ _)
   | (with_reducible exact ancepslaw09_awake.mono _)
   | (with_reducible exact ancepsref09_Lists.mono _ _ _)
   | (with_reducible exact ancepsref09_Paths.mono _ _ _)
   | (with_reducible exact dag_Check.mono _ _ _ _)
   | (with_reducible exact dag_Count.mono _ _ _)
   | (with_reducible exact dag_Paths.mono _ _ _)
   | (with_reducible exact LeO.refl _)
   | (with_reducible exact LeO.none _)
   | (with_reducible refine LeO.ite ?_ ?_)
   | (with_reducible refine LeO.bind ?_ (fun _ => ?_))
   | exact ih0 _ _ _
   | exact ih1 _ _ _ _ _ _ _
   | exact ih2 _ _ _ _ _ _
   | exact ancepslaw09_awake.mono _
   | exact ancepsref09_Lists.mono _ _ _
   | exact ancepsref09_Paths.mono _ _ _
   | exact dag_Check.mono _ _ _ _
   | exact dag_Count.mono _ _ _
   | exact dag_Paths.mono _ _ _
   | exact LeO.none _
   | refine LeO.ite ?_ ?_
   | refine LeO.bind ?_ (fun _ => ?_)
set_option maxHeartbeats 8000000 in
set_option maxRecDepth 100000 in
theorem ancepslaw09_DagPaths.calls (k : Nat) (a0_0 : Int) (A0_1 : Option Addr) (c0_1 : Nat) (l0_1 : List (S69)) (r : Bool) (w : World) (hr0_1 : Kd.C k69 w A0_1 l0_1.length l0_1) (hc0_1 : l0_1.length ≤ c0_1) (h : ancepslaw09_DagPaths.f k a0_0 l0_1 = some r) :
  Calls Try.prog 5 #[.agg #[.int .i64 a0_0, .slice A0_1 l0_1.length c0_1]] w fun e w' => e = .returned (.bool r) ∧ Below w.heap.size w w' := by
 have hu24 := Try.underlying24
 have hu25 := Try.underlying25
 have HR0_1 := Aside0.mk hr0_1
 have HC0_1 := Aside0.mk hc0_1
 clear hr0_1 hc0_1
 have HB := Aside0.mk (Below.refl w.heap.size w)
 have H : ((ancepslaw09_awake.f k).bind fun t355 => (if t355 = true then ((ancepsref09_Few.f a0_0 l0_1).bind fun t356 => (ancepslaw09_DagPaths.j0 k (!t356) a0_0 l0_1)) else (ancepslaw09_DagPaths.j0 k true a0_0 l0_1))) = some r := h
 clear h
 have HC2 := Aside0.mk H
 clear H
 go_enter Try.func5, Try.ntmps5
 go_upto_region 1 with (first | ((with_reducible refine gate_dst (N := 1) rfl ?_); (try (refine gate_guard (by rfl) ?_; dsimp only)); refine box_event ?hg (N := 1) ?hd (cs := #[.int .i64 a0_0, .slice A0_1 l0_1.length c0_1]) (t := 24) ?hr ?_; (case hd => rfl); (case hg => rfl); (case hr => first | (go_simp; done) | (go_simp; rfl)); intro gb354 hg w3 hbox hb; have n0_ := Aside0.mk (below_step zB hb); have n1_ := Aside0.mk (hbox); have n2_ := Aside0.mk ((by rw [hg]; exact (below_size zB) : w.heap.size ≤ gb354)); have n3_ := Aside0.mk ((by rw [hg]; exact (below_size zB) : w.heap.size ≤ gb354)); clear HB; have HB := n0_; have BK354 := n1_; have GW354 := n2_; have GE354 := n3_; clear n0_ n1_ n2_ n3_; clear hb hbox hg))
 (try simp only [Act.put, List.setIfInBounds_toArray, List.set_cons_zero, List.set_cons_succ])
 go_cut [17] (fun v17 wc => ∃ (kq : Nat) (x17_1 : Bool), v17 = .bool x17_1 ∧ Aside0 (ancepslaw09_DagPaths.j0 kq x17_1 a0_0 l0_1 = some r) ∧ Aside0 (kq ≤ k) ∧ Aside0 (wc.heap[gb354]? = some (.cells #[.int .i64 a0_0, (.slice A0_1 l0_1.length c0_1)] 24 (0, 0))) ∧ Aside0 (Below w.heap.size w wc))
 case first =>
  have H := HC2.out
  clear HC2
  replace H := Option.bind_eq_some_iff.mp H
  obtain ⟨t355, A40, H⟩ := H
  replace H : (if t355 = true then ((ancepsref09_Few.f a0_0 l0_1).bind fun t356 => (ancepslaw09_DagPaths.j0 k (!t356) a0_0 l0_1)) else (ancepslaw09_DagPaths.j0 k true a0_0 l0_1)) = some r := H
  have A4 := Aside0.mk A40
  clear A40
  by_cases c5 : t355 = true
  ·subst c5
   have H1 : ((ancepsref09_Few.f a0_0 l0_1).bind fun t356 => (ancepslaw09_DagPaths.j0 k (!t356) a0_0 l0_1)) = some r := by rw [if_pos rfl] at H; exact H
   clear H
   have H := H1
   clear H1
   replace H := Option.bind_eq_some_iff.mp H
   obtain ⟨t356, A60, H⟩ := H
   replace H : (ancepslaw09_DagPaths.j0 k (!t356) a0_0 l0_1) = some r := H
   have A6 := Aside0.mk A60
   clear A60
   have H' := Aside0.mk H
   clear H
   go_wp2_with (first | ((with_reducible refine gate_callee (f := 13) rfl ?_); refine goesL_ (some 11) rfl rfl Try.func13 zK rfl #[] rfl zM ?_; (with_reducible refine (ancepslaw09_awake.calls k  true _ A4.out).mono ?_); rintro e w7 ⟨rfl, hb⟩; refine ⟨_, rfl, ?_⟩; have n0_ := Aside0.mk (blk_below (g := gb354) (o := .cells #[.int .i64 a0_0, .slice A0_1 l0_1.length c0_1] 24 (0, 0)) (zk BK354) hb); have n1_ := Aside0.mk (below_step zB hb); clear BK354; clear HB; have BK354 := n0_; have HB := n1_; clear n0_ n1_; (try clear hb); (try clear hb2); (try clear hk); (try clear hi); have hcz8_0 : w7.cell? ⟨gb354, 0, none⟩ = some (.int .i64 a0_0) := (blk_cell BK354.out 0).trans rfl; have hcz8_1 : w7.cell? ⟨gb354, 1, none⟩ = some (.slice A0_1 l0_1.length c0_1) := (blk_cell BK354.out 1).trans rfl; have hfz8_0 := blk_frozen BK354.out 0; have hfz8_1 := blk_frozen BK354.out 1) | (go_at_call 14; (with_reducible refine (ancepsref09_Few.calls a0_0 _ _ l0_1 t356 _ ?side1 ?side2 A6.out).mono ?_); (case side1 => repeat (first | exact (Kd.C_below HR0_1.out HB.out) | (with_reducible refine Kd.C_alloc ?_ _) | (with_reducible refine Kd.C_drewN ?_ _) | (with_reducible refine Kd.C_drew ?_))); (case side2 => exact HC0_1.out); rintro e w9 ⟨rfl, hb⟩; have n0_ := Aside0.mk (blk_below (g := gb354) (o := .cells #[.int .i64 a0_0, .slice A0_1 l0_1.length c0_1] 24 (0, 0)) (zk BK354) hb); have n1_ := Aside0.mk (below_step zB hb); clear BK354; clear HB; have BK354 := n0_; have HB := n1_; clear n0_ n1_; (try clear hb); (try clear hb2); (try clear hk); (try clear hi)))
   go_meet
   case rel => exact ⟨_, (!t356), zT, H', ⟨by first | omega | exact Nat.le_refl _⟩, ⟨by (with_reducible repeat (first | refine blk_drewN ?_ _ | refine blk_drew ?_ | refine blk_alloc ?_ _)); exact BK354.out⟩, ⟨by repeat (first | (with_reducible first | exact HB.out | apply below_alloc | apply pw_below_drewN | apply below_drew1 | refine below_set ?_ GE354.out) | exact HB.out)⟩⟩
  ·replace c5 := Bool.eq_false_iff.mpr c5
   subst c5
   have H1 : (ancepslaw09_DagPaths.j0 k true a0_0 l0_1) = some r := by rw [if_neg (show ¬ (false = true) by decide)] at H; exact H
   clear H
   have H := H1
   clear H1
   have H' := Aside0.mk H
   clear H
   go_wp2_with (first | ((with_reducible refine gate_callee (f := 13) rfl ?_); refine goesL_ (some 11) rfl rfl Try.func13 zK rfl #[] rfl zM ?_; (with_reducible refine (ancepslaw09_awake.calls k  false _ A4.out).mono ?_); rintro e w10 ⟨rfl, hb⟩; refine ⟨_, rfl, ?_⟩; have n0_ := Aside0.mk (blk_below (g := gb354) (o := .cells #[.int .i64 a0_0, .slice A0_1 l0_1.length c0_1] 24 (0, 0)) (zk BK354) hb); have n1_ := Aside0.mk (below_step zB hb); clear BK354; clear HB; have BK354 := n0_; have HB := n1_; clear n0_ n1_; (try clear hb); (try clear hb2); (try clear hk); (try clear hi)))
   go_meet
   case rel => exact ⟨_, (true), zT, H', ⟨by first | omega | exact Nat.le_refl _⟩, ⟨by (with_reducible repeat (first | refine blk_drewN ?_ _ | refine blk_drew ?_ | refine blk_alloc ?_ _)); exact BK354.out⟩, ⟨by repeat (first | (with_reducible first | exact HB.out | apply below_alloc | apply pw_below_drewN | apply below_drew1 | refine below_set ?_ GE354.out) | exact HB.out)⟩⟩
 case rest =>
  clear HC2
  try clear c1
  try clear p2
  try clear c5
  try clear hcz8_0
  try clear hcz8_1
  try clear hfz8_0
  try clear hfz8_1
  obtain ⟨kq, x17_1, rfl, HA, HJ1, BK354, HB⟩ := hcut
  cases kq with
  | zero => exact absurd HA.out (by simp [ancepslaw09_DagPaths.j0])
  | succ kj1 =>
   have H := HA.out
   clear HA
   simp only [ancepslaw09_DagPaths.j0] at H
   by_cases c11 : x17_1 = true
   ·subst c11
    have H1 : ((ancepslaw09_awake.f kj1).bind fun t357 => (some t357)) = some r := by rw [if_pos rfl] at H; exact H
    clear H
    have H := H1
    clear H1
    replace H := Option.bind_eq_some_iff.mp H
    obtain ⟨t357, A120, H⟩ := H
    replace H : (some t357) = some r := H
    have A12 := Aside0.mk A120
    clear A120
    obtain rfl := Option.some.inj H
    go_wp2_with (first | ((with_reducible refine gate_callee (f := 13) rfl ?_); refine goesL_ (some 18) rfl rfl Try.func13 zK rfl #[] rfl zM ?_; (with_reducible refine (ancepslaw09_awake.calls kj1  t357 _ A12.out).mono ?_); rintro e w13 ⟨rfl, hb⟩; refine ⟨_, rfl, ?_⟩; have n0_ := Aside0.mk (blk_below (g := gb354) (o := .cells #[.int .i64 a0_0, .slice A0_1 l0_1.length c0_1] 24 (0, 0)) (zk BK354) hb); have n1_ := Aside0.mk (below_step zB hb); clear BK354; clear HB; have BK354 := n0_; have HB := n1_; clear n0_ n1_; (try clear hb); (try clear hb2); (try clear hk); (try clear hi)))
    go_ret
    exact ⟨by first | rfl | (simp [errW_none, errW_some] <;> rfl) | (simp [*, errW_none, errW_some] <;> rfl), by repeat (first | (with_reducible first | exact HB.out | apply below_alloc | apply pw_below_drewN | apply below_drew1 | refine below_set ?_ GE354.out) | exact HB.out)⟩
   ·replace c11 := Bool.eq_false_iff.mpr c11
    subst c11
    have H1 : ((dag_Paths.f kj1 a0_0 l0_1).bind fun bt358 => ((ancepsref09_Paths.f kj1 a0_0 l0_1).bind fun bt362 => (if bt358.2 = bt362.2 then ((ancepsref09_Lists.f kj1 bt358.1 bt362.1).bind fun t366 => (if t366 = true then (ancepslaw09_DagPaths.j1 kj1 bt358.1 bt358.2 bt362.1 bt362.2 (bt358.2 != 0) a0_0 l0_1) else (ancepslaw09_DagPaths.j1 kj1 bt358.1 bt358.2 bt362.1 bt362.2 true a0_0 l0_1))) else (ancepslaw09_DagPaths.j1 kj1 bt358.1 bt358.2 bt362.1 bt362.2 true a0_0 l0_1)))) = some r := by rw [if_neg (show ¬ (false = true) by decide)] at H; exact H
    clear H
    have H := H1
    clear H1
    replace H := Option.bind_eq_some_iff.mp H
    obtain ⟨⟨t358, t361⟩, A140, H⟩ := H
    replace H : ((ancepsref09_Paths.f kj1 a0_0 l0_1).bind fun bt362 => (if t361 = bt362.2 then ((ancepsref09_Lists.f kj1 t358 bt362.1).bind fun t366 => (if t366 = true then (ancepslaw09_DagPaths.j1 kj1 t358 t361 bt362.1 bt362.2 (t361 != 0) a0_0 l0_1) else (ancepslaw09_DagPaths.j1 kj1 t358 t361 bt362.1 bt362.2 true a0_0 l0_1))) else (ancepslaw09_DagPaths.j1 kj1 t358 t361 bt362.1 bt362.2 true a0_0 l0_1))) = some r := H
    have A14 := Aside0.mk A140
    clear A140
    replace H := Option.bind_eq_some_iff.mp H
    obtain ⟨⟨t362, t365⟩, A150, H⟩ := H
    replace H : (if t361 = t365 then ((ancepsref09_Lists.f kj1 t358 t362).bind fun t366 => (if t366 = true then (ancepslaw09_DagPaths.j1 kj1 t358 t361 t362 t365 (t361 != 0) a0_0 l0_1) else (ancepslaw09_DagPaths.j1 kj1 t358 t361 t362 t365 true a0_0 l0_1))) else (ancepslaw09_DagPaths.j1 kj1 t358 t361 t362 t365 true a0_0 l0_1)) = some r := H
    have A15 := Aside0.mk A150
    clear A150
    have HC16 := Aside0.mk H
    clear H
    have hcz17_0 : wc.cell? ⟨gb354, 0, none⟩ = some (.int .i64 a0_0) := (blk_cell BK354.out 0).trans rfl
    have hcz17_1 : wc.cell? ⟨gb354, 1, none⟩ = some (.slice A0_1 l0_1.length c0_1) := (blk_cell BK354.out 1).trans rfl
    have hfz17_0 := blk_frozen BK354.out 0
    have hfz17_1 := blk_frozen BK354.out 1
    go_upto_region 5 with (first | ((with_reducible refine gate_callee (f := 21) rfl ?_); refine goesL_ (some 21) rfl rfl Try.func21 zK rfl #[.agg #[.int .i64 a0_0, .slice A0_1 l0_1.length c0_1]] rfl zM ?_; (with_reducible refine (dag_Paths.calls kj1 a0_0 _ _ l0_1 t358 t361 _ ?side1 ?side2 A14.out).mono ?_); (case side1 => repeat (first | exact (Kd.C_below HR0_1.out HB.out) | (with_reducible refine Kd.C_alloc ?_ _) | (with_reducible refine Kd.C_drewN ?_ _) | (with_reducible refine Kd.C_drew ?_))); (case side2 => exact HC0_1.out); rintro e w18 ⟨v359, rfl, ho0, hb⟩; refine ⟨_, rfl, ?_⟩; have n0_ := Aside0.mk (Kd.N_lower (Kd.N_mono (ok' := fun k_ => k_ ≠ gb354) (Kd.S_N (Kd.S_bound ho0)) (fun k_ hk_ => (Kd.freshB (g := gb354) (o := .cells #[.int .i64 a0_0, .slice A0_1 l0_1.length c0_1] 24 (0, 0)) (zk BK354) k_ hk_.2.1))) (below_size zB)); have n1_ := Aside0.mk (blk_below (g := gb354) (o := .cells #[.int .i64 a0_0, .slice A0_1 l0_1.length c0_1] 24 (0, 0)) (zk BK354) hb); have n2_ := Aside0.mk (below_step zB hb); clear BK354; clear HB; have HO360 := n0_; have BK354 := n1_; have HB := n2_; clear n0_ n1_ n2_; (try clear hb); (try clear hb2); (try clear hk); (try clear hi); (try clear ho0); have hcz19_0 : w18.cell? ⟨gb354, 0, none⟩ = some (.int .i64 a0_0) := (blk_cell BK354.out 0).trans rfl; have hcz19_1 : w18.cell? ⟨gb354, 1, none⟩ = some (.slice A0_1 l0_1.length c0_1) := (blk_cell BK354.out 1).trans rfl; have hfz19_0 := blk_frozen BK354.out 0; have hfz19_1 := blk_frozen BK354.out 1) | ((with_reducible refine gate_callee (f := 22) rfl ?_); refine goesL_ (some 26) rfl rfl Try.func22 zK rfl #[.agg #[.int .i64 a0_0, .slice A0_1 l0_1.length c0_1]] rfl zM ?_; (with_reducible refine (ancepsref09_Paths.calls kj1 a0_0 _ _ l0_1 t362 t365 _ ?side1 ?side2 A15.out).mono ?_); (case side1 => repeat (first | exact (Kd.C_below HR0_1.out HB.out) | (with_reducible refine Kd.C_alloc ?_ _) | (with_reducible refine Kd.C_drewN ?_ _) | (with_reducible refine Kd.C_drew ?_))); (case side2 => exact HC0_1.out); rintro e w20 ⟨v363, rfl, ho0, hb⟩; refine ⟨_, rfl, ?_⟩; have n0_ := Aside0.mk (Kd.N_elder' (zN HO360) (Kd.N_base ho0) hb); have n1_ := Aside0.mk (Kd.N_lower (Kd.N_mono (ok' := fun k_ => some k_ ≠ (v359 : Value).ownBlock ∧ k_ ≠ gb354) ho0 (fun k_ hk_ => ⟨(Kd.fresh' (Kd.N_lt (zN HO360)) k_ hk_), (Kd.freshB (g := gb354) (o := .cells #[.int .i64 a0_0, .slice A0_1 l0_1.length c0_1] 24 (0, 0)) (zk BK354) k_ hk_)⟩)) (below_size zB)); have n2_ := Aside0.mk (blk_below (g := gb354) (o := .cells #[.int .i64 a0_0, .slice A0_1 l0_1.length c0_1] 24 (0, 0)) (zk BK354) hb); have n3_ := Aside0.mk (below_step zB hb); clear HO360; clear BK354; clear HB; have HO360 := n0_; have HO364 := n1_; have BK354 := n2_; have HB := n3_; clear n0_ n1_ n2_ n3_; (try clear hb); (try clear hb2); (try clear hk); (try clear hi); (try clear ho0)))
    (try simp only [Act.put, List.setIfInBounds_toArray, List.set_cons_zero, List.set_cons_succ])
    go_cut [41] (fun v41 wc => ∃ (kq : Nat) (x41_15 : Bool), v41 = .bool x41_15 ∧ Aside0 (ancepslaw09_DagPaths.j1 kq t358 t361 t362 t365 x41_15 a0_0 l0_1 = some r) ∧ Aside0 (kq ≤ kj1) ∧ Aside0 (Kd.N (Kd.slice 3 (Kd.int .i64)) 25 wc w.heap.size (fun k_ => some k_ ≠ (v363 : Value).ownBlock ∧ k_ ≠ gb354) v359 t358) ∧ Aside0 (Kd.N (Kd.slice 3 (Kd.int .i64)) 25 wc w.heap.size (fun k_ => some k_ ≠ (v359 : Value).ownBlock ∧ k_ ≠ gb354) v363 t362) ∧ Aside0 (wc.heap[gb354]? = some (.cells #[.int .i64 a0_0, (.slice A0_1 l0_1.length c0_1)] 24 (0, 0))) ∧ Aside0 (Below w.heap.size w wc))
    case first =>
     have H := HC16.out
     clear HC16
     by_cases c21 : t361 = t365
     ·rw [if_pos c21] at H
      have c21b0 : (t361 == t365) = true := beq_iff_eq.mpr c21
      have c21b1 : (t361 != t365) = false := bne_eq_false_iff_eq.mpr c21
      clear c21
      (first | rw [c21b0] | (simp only [i64_w, i32_w]; rw [c21b0]) | skip)
      (try rw [c21b1])
      replace H := Option.bind_eq_some_iff.mp H
      obtain ⟨t366, A220, H⟩ := H
      replace H : (if t366 = true then (ancepslaw09_DagPaths.j1 kj1 t358 t361 t362 t365 (t361 != 0) a0_0 l0_1) else (ancepslaw09_DagPaths.j1 kj1 t358 t361 t362 t365 true a0_0 l0_1)) = some r := H
      have A22 := Aside0.mk A220
      clear A220
      by_cases c23 : t366 = true
      ·subst c23
       have H1 : (ancepslaw09_DagPaths.j1 kj1 t358 t361 t362 t365 (t361 != 0) a0_0 l0_1) = some r := by rw [if_pos rfl] at H; exact H
       clear H
       have H := H1
       clear H1
       have H' := Aside0.mk H
       clear H
       obtain ⟨Ao24, co24, eo24⟩ := Kd.N_slice HO360.out
       subst eo24
       obtain ⟨Ao25, co25, eo25⟩ := Kd.N_slice HO364.out
       subst eo25
       go_wp2_with (first | (go_at_call 23; (with_reducible refine (ancepsref09_Lists.calls kj1 _ _ t358 _ _ t362 true _ ?side1 ?side2 ?side3 ?side4 A22.out).mono ?_); (case side1 => repeat (first | exact (Kd.N_reads' HO360.out).2.2 | (with_reducible refine Kd.C_alloc ?_ _) | (with_reducible refine Kd.C_drewN ?_ _) | (with_reducible refine Kd.C_drew ?_))); (case side2 => exact (Kd.N_reads' HO360.out).2.1); (case side3 => repeat (first | exact (Kd.N_reads' HO364.out).2.2 | (with_reducible refine Kd.C_alloc ?_ _) | (with_reducible refine Kd.C_drewN ?_ _) | (with_reducible refine Kd.C_drew ?_))); (case side4 => exact (Kd.N_reads' HO364.out).2.1); rintro e w' ⟨rfl, ⟨nd, rfl⟩⟩))
       go_meet
       case rel => exact ⟨_, ((t361 != 0)), zT, H', ⟨by have := HJ1.out; first | omega | exact Nat.le_refl _⟩, ⟨by (with_reducible repeat (first | apply Kd.N_alloc | apply Kd.N_drewN | apply Kd.N_drew)); exact Kd.N_mono HO360.out (fun _ hk => ⟨hk.2, hk.1⟩)⟩, ⟨by (with_reducible repeat (first | apply Kd.N_alloc | apply Kd.N_drewN | apply Kd.N_drew)); exact HO364.out⟩, ⟨by (with_reducible repeat (first | refine blk_drewN ?_ _ | refine blk_drew ?_ | refine blk_alloc ?_ _)); exact BK354.out⟩, ⟨by repeat (first | (with_reducible first | exact HB.out | apply below_alloc | apply pw_below_drewN | apply below_drew1 | refine below_set ?_ GE354.out) | exact HB.out)⟩⟩
      ·replace c23 := Bool.eq_false_iff.mpr c23
       subst c23
       have H1 : (ancepslaw09_DagPaths.j1 kj1 t358 t361 t362 t365 true a0_0 l0_1) = some r := by rw [if_neg (show ¬ (false = true) by decide)] at H; exact H
       clear H
       have H := H1
       clear H1
       have H' := Aside0.mk H
       clear H
       obtain ⟨Ao26, co26, eo26⟩ := Kd.N_slice HO360.out
       subst eo26
       obtain ⟨Ao27, co27, eo27⟩ := Kd.N_slice HO364.out
       subst eo27
       go_wp2_with (first | (go_at_call 23; (with_reducible refine (ancepsref09_Lists.calls kj1 _ _ t358 _ _ t362 false _ ?side1 ?side2 ?side3 ?side4 A22.out).mono ?_); (case side1 => repeat (first | exact (Kd.N_reads' HO360.out).2.2 | (with_reducible refine Kd.C_alloc ?_ _) | (with_reducible refine Kd.C_drewN ?_ _) | (with_reducible refine Kd.C_drew ?_))); (case side2 => exact (Kd.N_reads' HO360.out).2.1); (case side3 => repeat (first | exact (Kd.N_reads' HO364.out).2.2 | (with_reducible refine Kd.C_alloc ?_ _) | (with_reducible refine Kd.C_drewN ?_ _) | (with_reducible refine Kd.C_drew ?_))); (case side4 => exact (Kd.N_reads' HO364.out).2.1); rintro e w' ⟨rfl, ⟨nd, rfl⟩⟩))
       go_meet
       case rel => exact ⟨_, (true), zT, H', ⟨by have := HJ1.out; first | omega | exact Nat.le_refl _⟩, ⟨by (with_reducible repeat (first | apply Kd.N_alloc | apply Kd.N_drewN | apply Kd.N_drew)); exact Kd.N_mono HO360.out (fun _ hk => ⟨hk.2, hk.1⟩)⟩, ⟨by (with_reducible repeat (first | apply Kd.N_alloc | apply Kd.N_drewN | apply Kd.N_drew)); exact HO364.out⟩, ⟨by (with_reducible repeat (first | refine blk_drewN ?_ _ | refine blk_drew ?_ | refine blk_alloc ?_ _)); exact BK354.out⟩, ⟨by repeat (first | (with_reducible first | exact HB.out | apply below_alloc | apply pw_below_drewN | apply below_drew1 | refine below_set ?_ GE354.out) | exact HB.out)⟩⟩
     ·rw [if_neg c21] at H
      have c21b0 : (t361 == t365) = false := beq_eq_false_iff_ne.mpr c21
      have c21b1 : (t361 != t365) = true := bne_iff_ne.mpr c21
      (first | rw [c21b0] | (simp only [i64_w, i32_w]; rw [c21b0]) | skip)
      (try rw [c21b1])
      have H' := Aside0.mk H
      clear H
      go_wp2
      go_meet
      case rel => exact ⟨_, (true), zT, H', ⟨by have := HJ1.out; first | omega | exact Nat.le_refl _⟩, ⟨by (with_reducible repeat (first | apply Kd.N_alloc | apply Kd.N_drewN | apply Kd.N_drew)); exact Kd.N_mono HO360.out (fun _ hk => ⟨hk.2, hk.1⟩)⟩, ⟨by (with_reducible repeat (first | apply Kd.N_alloc | apply Kd.N_drewN | apply Kd.N_drew)); exact HO364.out⟩, ⟨by (with_reducible repeat (first | refine blk_drewN ?_ _ | refine blk_drew ?_ | refine blk_alloc ?_ _)); exact BK354.out⟩, ⟨by repeat (first | (with_reducible first | exact HB.out | apply below_alloc | apply pw_below_drewN | apply below_drew1 | refine below_set ?_ GE354.out) | exact HB.out)⟩⟩
    case rest =>
     clear HC16
     try clear c1
     try clear c2
     try clear p2
     try clear c5
     try clear c11
     try clear c13
     try clear c21
     try clear c21b0
     try clear c21b1
     try clear c22
     try clear c23
     try clear hcz17_0
     try clear hcz17_1
     try clear hcz19_0
     try clear hcz19_1
     try clear hcz8_0
     try clear hcz8_1
     try clear hfz17_0
     try clear hfz17_1
     try clear hfz19_0
     try clear hfz19_1
     try clear hfz8_0
     try clear hfz8_1
     try clear p2
     obtain ⟨kq, x41_15, rfl, HA, HJ15, HO_3, HO_5, BK354, HB⟩ := hcut
     cases kq with
     | zero => exact absurd HA.out (by simp [ancepslaw09_DagPaths.j1])
     | succ kj15 =>
      have H := HA.out
      clear HA
      simp only [ancepslaw09_DagPaths.j1] at H
      by_cases c28 : x41_15 = true
      ·subst c28
       have H1 : (if t361 = t365 then ((ancepsref09_Lists.f kj15 t358 t362).bind fun t367 => (some t367)) else (some false)) = some r := by rw [if_pos rfl] at H; exact H
       clear H
       have H := H1
       clear H1
       by_cases c29 : t361 = t365
       ·rw [if_pos c29] at H
        have c29b0 : (t361 == t365) = true := beq_iff_eq.mpr c29
        have c29b1 : (t361 != t365) = false := bne_eq_false_iff_eq.mpr c29
        clear c29
        replace H := Option.bind_eq_some_iff.mp H
        obtain ⟨t367, A300, H⟩ := H
        replace H : (some t367) = some r := H
        have A30 := Aside0.mk A300
        clear A300
        obtain rfl := Option.some.inj H
        obtain ⟨Ao31, co31, eo31⟩ := Kd.N_slice HO_3.out
        subst eo31
        obtain ⟨Ao32, co32, eo32⟩ := Kd.N_slice HO_5.out
        subst eo32
        go_wp2_with (first | (go_at_call 23; (with_reducible refine (ancepsref09_Lists.calls kj15 _ _ t358 _ _ t362 t367 _ ?side1 ?side2 ?side3 ?side4 A30.out).mono ?_); (case side1 => repeat (first | exact (Kd.N_reads' HO_3.out).2.2 | (with_reducible refine Kd.C_alloc ?_ _) | (with_reducible refine Kd.C_drewN ?_ _) | (with_reducible refine Kd.C_drew ?_))); (case side2 => exact (Kd.N_reads' HO_3.out).2.1); (case side3 => repeat (first | exact (Kd.N_reads' HO_5.out).2.2 | (with_reducible refine Kd.C_alloc ?_ _) | (with_reducible refine Kd.C_drewN ?_ _) | (with_reducible refine Kd.C_drew ?_))); (case side4 => exact (Kd.N_reads' HO_5.out).2.1); rintro e w' ⟨rfl, ⟨nd, rfl⟩⟩))
        go_ret
        exact ⟨by first | rfl | (simp [errW_none, errW_some] <;> rfl) | (simp [*, errW_none, errW_some] <;> rfl), by repeat (first | (with_reducible first | exact HB.out | apply below_alloc | apply pw_below_drewN | apply below_drew1 | refine below_set ?_ GE354.out) | exact HB.out)⟩
       ·rw [if_neg c29] at H
        have c29b0 : (t361 == t365) = false := beq_eq_false_iff_ne.mpr c29
        have c29b1 : (t361 != t365) = true := bne_iff_ne.mpr c29
        obtain rfl := Option.some.inj H
        go_wp2
        go_ret
        exact ⟨by first | rfl | (simp [errW_none, errW_some] <;> rfl) | (simp [*, errW_none, errW_some] <;> rfl), by repeat (first | (with_reducible first | exact HB.out | apply below_alloc | apply pw_below_drewN | apply below_drew1 | refine below_set ?_ GE354.out) | exact HB.out)⟩
      ·replace c28 := Bool.eq_false_iff.mpr c28
       subst c28
       have H1 : (ancepslaw09_DagPaths.l0 kj15 t358 t358 (t358.length : Int) 0 a0_0 l0_1) = some r := by rw [if_neg (show ¬ (false = true) by decide)] at H; exact H
       clear H
       have H := H1
       clear H1
       have H' := Aside0.mk H
       clear H
       obtain ⟨Ao33, co33, eo33⟩ := Kd.N_slice HO_3.out
       subst eo33
       go_wp2
       go_loopg [52] kj15 (fun kq v52 w' => ∃ (x52_3 : Int), v52 = .int .i64 x52_3 ∧ Aside0 (ancepslaw09_DagPaths.l0 kq t358 t358 (t358.length : Int) x52_3 a0_0 l0_1 = some r) ∧ Aside0 (kq ≤ kj15) ∧ Aside0 (Kd.N (Kd.slice 3 (Kd.int .i64)) 25 w' w.heap.size (fun k_ => k_ ≠ gb354) (.slice Ao33 t358.length co33) t358) ∧ Aside0 (Kd.N (Kd.slice 3 (Kd.int .i64)) 25 w' w.heap.size (fun k_ => k_ ≠ gb354) (.slice Ao33 t358.length co33) t358) ∧ Aside0 (w'.heap[gb354]? = some (.cells #[.int .i64 a0_0, (.slice A0_1 l0_1.length c0_1)] 24 (0, 0))) ∧ Aside0 (Below w.heap.size w w'))
       case atStart => exact ⟨(0), zT, H', ⟨Nat.le_refl _⟩, ⟨by (with_reducible repeat (first | apply Kd.N_alloc | apply Kd.N_drewN | apply Kd.N_drew)); exact Kd.N_mono HO_3.out (fun _ hk => hk.2)⟩, ⟨by (with_reducible repeat (first | apply Kd.N_alloc | apply Kd.N_drewN | apply Kd.N_drew)); exact Kd.N_mono HO_3.out (fun _ hk => hk.2)⟩, ⟨by (with_reducible repeat (first | refine blk_drewN ?_ _ | refine blk_drew ?_ | refine blk_alloc ?_ _)); exact BK354.out⟩, ⟨by repeat (first | (with_reducible first | exact HB.out | apply below_alloc | apply pw_below_drewN | apply below_drew1 | refine below_set ?_ GE354.out) | exact HB.out)⟩⟩
       case round =>
        clear H'
        try clear c1
        try clear c2
        try clear p2
        try clear c5
        try clear c11
        try clear c13
        try clear c21
        try clear c21b0
        try clear c21b1
        try clear c22
        try clear c23
        try clear c28
        try clear c29
        try clear c29b0
        try clear c29b1
        try clear hcz17_0
        try clear hcz17_1
        try clear hcz19_0
        try clear hcz19_1
        try clear hcz8_0
        try clear hcz8_1
        try clear hfz17_0
        try clear hfz17_1
        try clear hfz19_0
        try clear hfz19_1
        try clear hfz8_0
        try clear hfz8_1
        try clear p2
        obtain ⟨x52_3, rfl, HA, HK3, HO_3, HO_50, BK354, HB⟩ := hrel
        cases gk with
        | zero => exact absurd HA.out (by simp [ancepslaw09_DagPaths.l0])
        | succ k3 =>
         have H := HA.out
         clear HA
         simp only [ancepslaw09_DagPaths.l0] at H
         by_cases c34 : x52_3 < (t358.length : Int)
         ·rw [if_pos c34] at H
          have c34b0 : decide (x52_3 < (t358.length : Int)) = true := decide_eq_true c34
          clear c34
          by_cases c35 : 0 ≤ x52_3
          ·rw [if_pos c35] at H
           have c35b0 : decide (0 ≤ x52_3) = true := decide_eq_true c35
           clear c35
           by_cases c36 : x52_3 < (t358.length : Int)
           ·rw [if_pos c36] at H
            have c36b0 : decide (x52_3 < (t358.length : Int)) = true := decide_eq_true c36
            clear c36
            replace H := Option.bind_eq_some_iff.mp H
            obtain ⟨t369, A370, H⟩ := H
            replace H : (if t369 = true then (ancepslaw09_DagPaths.l0 k3 t358 t358 (t358.length : Int) (wrap64 (x52_3 + 1)) a0_0 l0_1) else (some false)) = some r := H
            have A37 := Aside0.mk A370
            clear A370
            have HC38 := Aside0.mk H
            clear H
            have p368 : 0 ≤ (x52_3 : Int) := of_decide_eq_true zh
            have q368 : x52_3 < (t358.length : Int) := of_decide_eq_true zh
            obtain ⟨ad368, A368_0, c368_0, e368, hx368_0, hl368_0, hi368_0⟩ := at_L2 (Kd.N_reads' HO_50.out).2.2 x52_3 p368 q368
            cases e368
            obtain ⟨ce368, hce368, hMe368, hcc368⟩ := Kd.N_get HO_50.out [] x52_3 p368 (by first | exact q368 | exact of_decide_eq_true zh | (have e_ := (Kd.N_reads' HO_50.out).1; omega))
            obtain ⟨ua368_0, uc368_0, rfl, ul368_0, ge368_0⟩ := Kd.FK_slice_open hMe368
            have hv368_0 := hcc368 0 _ rfl
            rw [Nat.add_zero, show ((Kd.slice 3 (Kd.int .i64))).sz = 1 from rfl, Nat.mul_one] at hv368_0
            replace hv368_0 := Option.some.inj (hv368_0.symm.trans hx368_0)
            injection hv368_0 with hva_ hvn_ hvc_
            rw [hva_] at ge368_0
            rw [hvc_] at ul368_0
            have HL368_0 := Aside0.mk (show Kd.V (Kd.int .i64) 3 _ w.heap.size _ _ (rd_L2 t358 x52_3) from Kd.V_mk ul368_0 ge368_0)
            clear hva_ hvn_ hvc_ ge368_0 ul368_0
            clear hcc368 hce368
            have HR368_0 := Aside0.mk hi368_0
            have HC368_0 := Aside0.mk hl368_0
            clear hi368_0 hl368_0
            replace p368 := eq_true p368
            replace q368 := eq_true q368
            have hcz39_0 : wr.cell? ⟨gb354, 0, none⟩ = some (.int .i64 a0_0) := (blk_cell BK354.out 0).trans rfl
            have hcz39_1 : wr.cell? ⟨gb354, 1, none⟩ = some (.slice A0_1 l0_1.length c0_1) := (blk_cell BK354.out 1).trans rfl
            have hfz39_0 := blk_frozen BK354.out 0
            have hfz39_1 := blk_frozen BK354.out 1
            go_upto_if 59 with (first | ((with_reducible refine gate_callee (f := 17) rfl ?_); refine goesL_ (some 58) rfl rfl Try.func17 zK rfl #[.agg #[.int .i64 a0_0, .slice A0_1 l0_1.length c0_1], .slice A368_0 (rd_L2 t358 x52_3).length c368_0] rfl zM ?_; (with_reducible refine (dag_Check.calls k3 a0_0 _ _ l0_1 _ _ (rd_L2 t358 x52_3) t369 _ ?side1 ?side2 ?side3 ?side4 A37.out).mono ?_); (case side1 => repeat (first | exact (Kd.C_below HR0_1.out HB.out) | (with_reducible refine Kd.C_alloc ?_ _) | (with_reducible refine Kd.C_drewN ?_ _) | (with_reducible refine Kd.C_drew ?_))); (case side2 => exact HC0_1.out); (case side3 => repeat (first | exact (by repeat (first | (with_reducible exact HR368_0.out) | (with_reducible refine Kd.C_alloc ?_ _) | (with_reducible refine Kd.C_drewN ?_ _) | (with_reducible refine Kd.C_drew ?_) | exact HR368_0.out)) | (with_reducible refine Kd.C_alloc ?_ _) | (with_reducible refine Kd.C_drewN ?_ _) | (with_reducible refine Kd.C_drew ?_))); (case side4 => exact HC368_0.out); rintro e w40 ⟨rfl, hb⟩; refine ⟨_, rfl, ?_⟩; have n0_ := Aside0.mk (Kd.N_below (zN HO_3) hb); have n1_ := Aside0.mk (Kd.N_below (zN HO_50) hb); have n2_ := Aside0.mk (Kd.V_below (by (with_reducible repeat (first | apply Kd.V_alloc | apply Kd.V_drewN | apply Kd.V_drew)); exact HL368_0.out) hb); have n3_ := Aside0.mk (blk_below (g := gb354) (o := .cells #[.int .i64 a0_0, .slice A0_1 l0_1.length c0_1] 24 (0, 0)) (zk BK354) hb); have n4_ := Aside0.mk (Kd.C_below (by repeat (first | (with_reducible exact HR368_0.out) | (with_reducible refine Kd.C_alloc ?_ _) | (with_reducible refine Kd.C_drewN ?_ _) | (with_reducible refine Kd.C_drew ?_) | exact HR368_0.out)) hb); have n5_ := Aside0.mk (below_step zB hb); clear HO_3; clear HO_50; clear HL368_0; clear BK354; clear HR368_0; clear HB; have HO_3 := n0_; have HO_50 := n1_; have HL368_0 := n2_; have BK354 := n3_; have HR368_0 := n4_; have HB := n5_; clear n0_ n1_ n2_ n3_ n4_ n5_; (try clear hb); (try clear hb2); (try clear hk); (try clear hi)))
            (try simp only [Act.put, List.setIfInBounds_toArray, List.set_cons_zero, List.set_cons_succ])
            have H := HC38.out
            clear HC38
            by_cases c41 : t369 = true
            ·subst c41
             have H1 : (ancepslaw09_DagPaths.l0 k3 t358 t358 (t358.length : Int) (wrap64 (x52_3 + 1)) a0_0 l0_1) = some r := by rw [if_pos rfl] at H; exact H
             clear H
             have H := H1
             clear H1
             have H' := Aside0.mk H
             clear H
             go_wp2
             go_roundg k3
             case measure => have := HJ1.out; have := HJ15.out; have := HK3.out; omega
             case rel => exact ⟨(wrap64 (x52_3 + 1)), zT, H', ⟨by have := HJ1.out; have := HJ15.out; have := HK3.out; omega⟩, ⟨by (with_reducible repeat (first | apply Kd.N_alloc | apply Kd.N_drewN | apply Kd.N_drew)); exact HO_3.out⟩, ⟨by (with_reducible repeat (first | apply Kd.N_alloc | apply Kd.N_drewN | apply Kd.N_drew)); exact HO_50.out⟩, ⟨by (with_reducible repeat (first | refine blk_drewN ?_ _ | refine blk_drew ?_ | refine blk_alloc ?_ _)); exact BK354.out⟩, ⟨by repeat (first | (with_reducible first | exact HB.out | apply below_alloc | apply pw_below_drewN | apply below_drew1 | refine below_set ?_ GE354.out) | exact HB.out)⟩⟩
            ·replace c41 := Bool.eq_false_iff.mpr c41
             subst c41
             have H1 : (some false) = some r := by rw [if_neg (show ¬ (false = true) by decide)] at H; exact H
             clear H
             have H := H1
             clear H1
             obtain rfl := Option.some.inj H
             go_wp2
             go_ret
             exact ⟨by first | rfl | (simp [errW_none, errW_some] <;> rfl) | (simp [*, errW_none, errW_some] <;> rfl), by repeat (first | (with_reducible first | exact HB.out | apply below_alloc | apply pw_below_drewN | apply below_drew1 | refine below_set ?_ GE354.out) | exact HB.out)⟩
           ·rw [if_neg c36] at H
            exact absurd H (by simp)
          ·rw [if_neg c35] at H
           exact absurd H (by simp)
         ·rw [if_neg c34] at H
          have c34b0 : decide (x52_3 < (t358.length : Int)) = false := decide_eq_false c34
          clear c34
          replace H := Option.bind_eq_some_iff.mp H
          obtain ⟨⟨t370, t371⟩, A420, H⟩ := H
          replace H : (if t371 = 0 then (some (t370 == (t358.length : Int))) else (some false)) = some r := H
          have A42 := Aside0.mk A420
          clear A420
          have HC43 := Aside0.mk H
          clear H
          have hcz44_0 : wr.cell? ⟨gb354, 0, none⟩ = some (.int .i64 a0_0) := (blk_cell BK354.out 0).trans rfl
          have hcz44_1 : wr.cell? ⟨gb354, 1, none⟩ = some (.slice A0_1 l0_1.length c0_1) := (blk_cell BK354.out 1).trans rfl
          have hfz44_0 := blk_frozen BK354.out 0
          have hfz44_1 := blk_frozen BK354.out 1
          go_upto_region 14 with (first | ((with_reducible refine gate_callee (f := 19) rfl ?_); refine goesL_ (some 63) rfl rfl Try.func19 zK rfl #[.agg #[.int .i64 a0_0, .slice A0_1 l0_1.length c0_1]] rfl zM ?_; (with_reducible refine (dag_Count.calls k3 a0_0 _ _ l0_1 t370 t371 _ ?side1 ?side2 A42.out).mono ?_); (case side1 => repeat (first | exact (Kd.C_below HR0_1.out HB.out) | (with_reducible refine Kd.C_alloc ?_ _) | (with_reducible refine Kd.C_drewN ?_ _) | (with_reducible refine Kd.C_drew ?_))); (case side2 => exact HC0_1.out); rintro e w45 ⟨rfl, hb⟩; refine ⟨_, rfl, ?_⟩; have n0_ := Aside0.mk (Kd.N_below (zN HO_3) hb); have n1_ := Aside0.mk (Kd.N_below (zN HO_50) hb); have n2_ := Aside0.mk (blk_below (g := gb354) (o := .cells #[.int .i64 a0_0, .slice A0_1 l0_1.length c0_1] 24 (0, 0)) (zk BK354) hb); have n3_ := Aside0.mk (below_step zB hb); clear HO_3; clear HO_50; clear BK354; clear HB; have HO_3 := n0_; have HO_50 := n1_; have BK354 := n2_; have HB := n3_; clear n0_ n1_ n2_ n3_; (try clear hb); (try clear hb2); (try clear hk); (try clear hi)))
          (try simp only [Act.put, List.setIfInBounds_toArray, List.set_cons_zero, List.set_cons_succ])
          have H := HC43.out
          clear HC43
          by_cases c46 : t371 = 0
          ·rw [if_pos c46] at H
           have c46b0 : (t371 == 0) = true := beq_iff_eq.mpr c46
           have c46b1 : (t371 != 0) = false := bne_eq_false_iff_eq.mpr c46
           clear c46
           (first | rw [c46b0] | (simp only [i64_w, i32_w]; rw [c46b0]) | skip)
           (try rw [c46b1])
           obtain rfl := Option.some.inj H
           go_wp2
           go_ret
           exact ⟨by first | rfl | (simp [errW_none, errW_some] <;> rfl) | (simp [*, errW_none, errW_some] <;> rfl), by repeat (first | (with_reducible first | exact HB.out | apply below_alloc | apply pw_below_drewN | apply below_drew1 | refine below_set ?_ GE354.out) | exact HB.out)⟩
          ·rw [if_neg c46] at H
           have c46b0 : (t371 == 0) = false := beq_eq_false_iff_ne.mpr c46
           have c46b1 : (t371 != 0) = true := bne_iff_ne.mpr c46
           (first | rw [c46b0] | (simp only [i64_w, i32_w]; rw [c46b0]) | skip)
           (try rw [c46b1])
           obtain rfl := Option.some.inj H
           go_wp2
           go_ret
           exact ⟨by first | rfl | (simp [errW_none, errW_some] <;> rfl) | (simp [*, errW_none, errW_some] <;> rfl), by repeat (first | (with_reducible first | exact HB.out | apply below_alloc | apply pw_below_drewN | apply below_drew1 | refine below_set ?_ GE354.out) | exact HB.out)⟩
end Go.Proofs.Ytanbffoilianhaa.E
