-- Written by wip/tools/myprint.py, a program of this session's.
import Derived.Test.YtbagnalcabdlhaaS0
import Derived.Test.YtbagnalcabdlhaaS4
namespace Go.Proofs.Ytbagnalcabdlhaa.S
open Go.RowKit Go.Proofs.YtbagnalcabdlhaaW.PrintWords Go.Proofs.YtbagnalcabdlhaaW.PrintLast Go.Proofs.YtbagnalcabdlhaaW.PrintMore
attribute [local go_sem] max2_int min2_int max_two min_two max_three min_three max_four min_four   -- for this text's walks alone
set_option linter.unusedVariables false
set_option linter.unusedSimpArgs false
/-! ### solve_shape: function 53 -/
mutual
def solve_shape.j0 : Nat → List (S61) → Int → Bool → List (S35) → Option (Bool)
 | 0, _, _, _, _ => none
 | k + 1, x0, x5, x19, x269000 => if x19 = true then (some false) else (if 0 ≤ x5 then (if (x5 : Int).toNat ≤ 281474976710656 then (solve_shape.l0 k x0 x5 (List.replicate (x5 : Int).toNat false) x269000 (x269000.length : Int) 0) else (none)) else (none))
def solve_shape.l0 : Nat → List (S61) → Int → List Bool → List (S35) → Int → Int → Option (Bool)
 | 0, _, _, _, _, _, _ => none
 | k + 1, x0, x5, x6, x23, x24, x25 => if x25 < x24 then (if 0 ≤ x25 then (if x25 < (x23.length : Int) then (if ((rd_T35 x23 x25).f0) = (-1) then (if ((rd_T35 x23 x25).f1) = 0 then (if ((rd_T35 x23 x25).f2) = 0 then (if ((rd_T35 x23 x25).f3) < 0 then (some false) else (if ((rd_T35 x23 x25).f3) ≥ (x0.length : Int) then (some false) else (solve_shape.l0 k x0 x5 x6 x23 x24 (wrap64 (x25 + 1))))) else (some false)) else (some false)) else (if ((rd_T35 x23 x25).f0) < 0 then (solve_shape.j2 k x0 x5 x6 x25 x23 x24 x25 true ((rd_T35 x23 x25).f0) ((rd_T35 x23 x25).f1) ((rd_T35 x23 x25).f2) ((rd_T35 x23 x25).f3)) else (if ((rd_T35 x23 x25).f0) ≥ 24 then (solve_shape.j2 k x0 x5 x6 x25 x23 x24 x25 true ((rd_T35 x23 x25).f0) ((rd_T35 x23 x25).f1) ((rd_T35 x23 x25).f2) ((rd_T35 x23 x25).f3)) else (solve_shape.j2 k x0 x5 x6 x25 x23 x24 x25 (((rd_T35 x23 x25).f3) != 0) ((rd_T35 x23 x25).f0) ((rd_T35 x23 x25).f1) ((rd_T35 x23 x25).f2) ((rd_T35 x23 x25).f3))))) else (none)) else (none)) else (if 1 ≤ (x6.length : Int) then ((slices_Contains_bool_bool.f k (x6.drop 1) false).bind fun t276 => (some (!t276))) else (none))
def solve_shape.j2 : Nat → List (S61) → Int → List Bool → Int → List (S35) → Int → Int → Bool → Int → Int → Int → Int → Option (Bool)
 | 0, _, _, _, _, _, _, _, _, _, _, _, _ => none
 | k + 1, x0, x5, x6, x7, x23, x24, x25, x65, x279000, x279001, x279002, x279003 => if x65 = true then (some false) else ((some (([x279001, x279002] : List Int) : List Int)).bind fun y279 => (solve_shape.l1 k x0 x5 x6 x7 x23 x24 x25 y279 (y279.length : Int) 0))
def solve_shape.l1 : Nat → List (S61) → Int → List Bool → Int → List (S35) → Int → Int → List Int → Int → Int → Option (Bool)
 | 0, _, _, _, _, _, _, _, _, _, _ => none
 | k + 1, x0, x5, x6, x7, x23, x24, x25, x70, x71, x72 => if x72 < x71 then (if 0 ≤ x72 then (if x72 < (x70.length : Int) then (if (rd x70 x72) ≤ x7 then (some false) else (if (rd x70 x72) ≥ x5 then (some false) else (if 0 ≤ (rd x70 x72) then (if (rd x70 x72) < (x6.length : Int) then (if rdOf false x6 (rd x70 x72) = true then (some false) else (solve_shape.l1 k x0 x5 (x6.set ((rd x70 x72) : Int).toNat true) x7 x23 x24 x25 x70 x71 (wrap64 (x72 + 1)))) else (none)) else (none)))) else (none)) else (none)) else (solve_shape.l0 k x0 x5 x6 x23 x24 (wrap64 (x25 + 1)))
end
def solve_shape.f (k : Nat) (l0 : List (S61)) (l1_0 : List (S35)) : Option (Bool) := if (l1_0.length : Int) = 0 then (solve_shape.j0 k l0 (l1_0.length : Int) true l1_0) else (solve_shape.j0 k l0 (l1_0.length : Int) (decide ((l1_0.length : Int) > 2000)) l1_0)
theorem solve_shape.mono_l : ∀ k, (∀ y0 y1 y2 y3, LeO (solve_shape.j0 k y0 y1 y2 y3) (solve_shape.j0 (k + 1) y0 y1 y2 y3)) ∧ (∀ y0 y1 y2 y3 y4 y5, LeO (solve_shape.l0 k y0 y1 y2 y3 y4 y5) (solve_shape.l0 (k + 1) y0 y1 y2 y3 y4 y5)) ∧ (∀ y0 y1 y2 y3 y4 y5 y6 y7 y8 y9 y10 y11, LeO (solve_shape.j2 k y0 y1 y2 y3 y4 y5 y6 y7 y8 y9 y10 y11) (solve_shape.j2 (k + 1) y0 y1 y2 y3 y4 y5 y6 y7 y8 y9 y10 y11)) ∧ (∀ y0 y1 y2 y3 y4 y5 y6 y7 y8 y9, LeO (solve_shape.l1 k y0 y1 y2 y3 y4 y5 y6 y7 y8 y9) (solve_shape.l1 (k + 1) y0 y1 y2 y3 y4 y5 y6 y7 y8 y9))
 | 0 => ⟨fun _ _ _ _ r h => by simp [solve_shape.j0] at h, fun _ _ _ _ _ _ r h => by simp [solve_shape.l0] at h, fun _ _ _ _ _ _ _ _ _ _ _ _ r h => by simp [solve_shape.j2] at h, fun _ _ _ _ _ _ _ _ _ _ r h => by simp [solve_shape.l1] at h⟩
 | k + 1 => by
  obtain ⟨ih0, ih1, ih2, ih3⟩ := solve_shape.mono_l k
  refine ⟨?_, ?_, ?_, ?_⟩
  ·intro y0 y1 y2 y3
   unfold solve_shape.j0
   repeat' first
   | (with_reducible exact ih0 _ _ _ _)
   | (with_reducible exact ih1 _ _ _ _ _ _)
   | (with_reducible exact ih2 _ _ _ _ _ _ _ _ _ _ _ _)
   | (with_reducible exact ih3 _ _ _ _ _ _ _ _ _ _)
   | (with_reducible exact slices_Contains_bool_bool.mono _ _ _)
   | (with_reducible exact LeO.refl _)
   | (with_reducible exact LeO.none _)
   | (with_reducible refine LeO.ite ?_ ?_)
   | (with_reducible refine LeO.bind ?_ (fun _ => ?_))
   | exact ih0 _ _ _ _
   | exact ih1 _ _ _ _ _ _
   | exact ih2 _ _ _ _ _ _ _ _ _ _ _ _
   | exact ih3 _ _ _ _ _ _ _ _ _ _
   | exact slices_Contains_bool_bool.mono _ _ _
   | exact LeO.none _
   | refine LeO.ite ?_ ?_
   | refine LeO.bind ?_ (fun _ => ?_)
  ·intro y0 y1 y2 y3 y4 y5
   unfold solve_shape.l0
   repeat' first
   | (with_reducible exact ih0 _ _ _ _)
   | (with_reducible exact ih1 _ _ _ _ _ _)
   | (with_reducible exact ih2 _ _ _ _ _ _ _ _ _ _ _ _)
   | (with_reducible exact ih3 _ _ _ _ _ _ _ _ _ _)
   | (with_reducible exact slices_Contains_bool_bool.mono _ _ _)
   | (with_reducible exact LeO.refl _)
   | (with_reducible exact LeO.none _)
   | (with_reducible refine LeO.ite ?_ ?_)
   | (with_reducible refine LeO.bind ?_ (fun _ => ?_))
   | exact ih0 _ _ _ _
   | exact ih1 _ _ _ _ _ _
   | exact ih2 _ _ _ _ _ _ _ _ _ _ _ _
   | exact ih3 _ _ _ _ _ _ _ _ _ _
   | exact slices_Contains_bool_bool.mono _ _ _
   | exact LeO.none _
   | refine LeO.ite ?_ ?_
   | refine LeO.bind ?_ (fun _ => ?_)
  ·intro y0 y1 y2 y3 y4 y5 y6 y7 y8 y9 y10 y11
   unfold solve_shape.j2
   repeat' first
   | (with_reducible exact ih0 _ _ _ _)
   | (with_reducible exact ih1 _ _ _ _ _ _)
   | (with_reducible exact ih2 _ _ _ _ _ _ _ _ _ _ _ _)
   | (with_reducible exact ih3 _ _ _ _ _ _ _ _ _ _)
   | (with_reducible exact slices_Contains_bool_bool.mono _ _ _)
   | (with_reducible exact LeO.refl _)
   | (with_reducible exact LeO.none _)
   | (with_reducible refine LeO.ite ?_ ?_)
   | (with_reducible refine LeO.bind ?_ (fun _ => ?_))
   | exact ih0 _ _ _ _
   | exact ih1 _ _ _ _ _ _
   | exact ih2 _ _ _ _ _ _ _ _ _ _ _ _
   | exact ih3 _ _ _ _ _ _ _ _ _ _
   | exact slices_Contains_bool_bool.mono _ _ _
   | exact LeO.none _
   | refine LeO.ite ?_ ?_
   | refine LeO.bind ?_ (fun _ => ?_)
  ·intro y0 y1 y2 y3 y4 y5 y6 y7 y8 y9
   unfold solve_shape.l1
   repeat' first
   | (with_reducible exact ih0 _ _ _ _)
   | (with_reducible exact ih1 _ _ _ _ _ _)
   | (with_reducible exact ih2 _ _ _ _ _ _ _ _ _ _ _ _)
   | (with_reducible exact ih3 _ _ _ _ _ _ _ _ _ _)
   | (with_reducible exact slices_Contains_bool_bool.mono _ _ _)
   | (with_reducible exact LeO.refl _)
   | (with_reducible exact LeO.none _)
   | (with_reducible refine LeO.ite ?_ ?_)
   | (with_reducible refine LeO.bind ?_ (fun _ => ?_))
   | exact ih0 _ _ _ _
   | exact ih1 _ _ _ _ _ _
   | exact ih2 _ _ _ _ _ _ _ _ _ _ _ _
   | exact ih3 _ _ _ _ _ _ _ _ _ _
   | exact slices_Contains_bool_bool.mono _ _ _
   | exact LeO.none _
   | refine LeO.ite ?_ ?_
   | refine LeO.bind ?_ (fun _ => ?_)
theorem solve_shape.mono : ∀ a0 a1 k, LeO (solve_shape.f k a0 a1) (solve_shape.f (k + 1) a0 a1) := by
 intro a0 a1 k
 obtain ⟨ih0, ih1, ih2, ih3⟩ := solve_shape.mono_l k
 unfold solve_shape.f
 repeat' first
   | (with_reducible exact ih0 _ _ _ _)
   | (with_reducible exact ih1 _ _ _ _ _ _)
   | (with_reducible exact ih2 _ _ _ _ _ _ _ _ _ _ _ _)
   | (with_reducible exact ih3 _ _ _ _ _ _ _ _ _ _)
   | (with_reducible exact slices_Contains_bool_bool.mono _ _ _)
   | (with_reducible exact LeO.refl _)
   | (with_reducible exact LeO.none _)
   | (with_reducible refine LeO.ite ?_ ?_)
   | (with_reducible refine LeO.bind ?_ (fun _ => ?_))
   | exact ih0 _ _ _ _
   | exact ih1 _ _ _ _ _ _
   | exact ih2 _ _ _ _ _ _ _ _ _ _ _ _
   | exact ih3 _ _ _ _ _ _ _ _ _ _
   | exact slices_Contains_bool_bool.mono _ _ _
   | exact LeO.none _
   | refine LeO.ite ?_ ?_
   | refine LeO.bind ?_ (fun _ => ?_)
set_option maxHeartbeats 8000000 in
set_option maxRecDepth 100000 in
theorem solve_shape.calls (k : Nat) (A0 : Option Addr) (c0 : Nat) (l0 : List (S61)) (A1_0 : Option Addr) (c1_0 : Nat) (l1_0 : List (S35)) (r : Bool) (w : World) (hr0 : Kd.C k61 w A0 l0.length l0) (hc0 : l0.length ≤ c0) (hr1_0 : Kd.C k35 w A1_0 l1_0.length l1_0) (hc1_0 : l1_0.length ≤ c1_0) (h : solve_shape.f k l0 l1_0 = some r) :
  Calls Try.prog 53 #[.slice A0 l0.length c0, .agg #[.slice A1_0 l1_0.length c1_0]] w fun e w' => e = .returned (.bool r) ∧ Below w.heap.size w w' := by
 have hu27 := Try.underlying27
 have hu25 := Try.underlying25
 have hu35 := Try.underlying35
 have hu3 := Try.underlying3
 have hu4 := Try.underlying4
 have HR0 := Aside0.mk hr0
 have HC0 := Aside0.mk hc0
 clear hr0 hc0
 have HR1_0 := Aside0.mk hr1_0
 have HC1_0 := Aside0.mk hc1_0
 clear hr1_0 hc1_0
 have HB := Aside0.mk (Below.refl w.heap.size w)
 have H : (if (l1_0.length : Int) = 0 then (solve_shape.j0 k l0 (l1_0.length : Int) true l1_0) else (solve_shape.j0 k l0 (l1_0.length : Int) (decide ((l1_0.length : Int) > 2000)) l1_0)) = some r := h
 clear h
 have HC3 := Aside0.mk H
 clear H
 go_enter Try.func53, Try.ntmps53
 try go_wp2_with (first | ((with_reducible refine gate_dst (N := 3) rfl ?_); (try (refine gate_guard (by rfl) ?_; dsimp only)); refine box_event ?hg (N := 3) ?hd (cs := #[.slice A1_0 l1_0.length c1_0]) (t := 27) ?hr ?_; (case hd => rfl); (case hg => rfl); (case hr => first | (go_simp; done) | (go_simp; rfl)); intro gb268 hg w4 hbox hb; have n0_ := Aside0.mk (below_step zB hb); have n1_ := Aside0.mk (hbox); have n2_ := Aside0.mk ((by rw [hg]; exact (below_size zB) : w.heap.size ≤ gb268)); have n3_ := Aside0.mk ((by rw [hg]; exact (below_size zB) : w.heap.size ≤ gb268)); clear HB; have HB := n0_; have BK268 := n1_; have GW268 := n2_; have GE268 := n3_; clear n0_ n1_ n2_ n3_; clear hb hbox hg))
 refine wp_scope_straight ?_
 (try simp only [Act.put, List.setIfInBounds_toArray, List.set_cons_zero, List.set_cons_succ])
 have H := HC3.out
 clear HC3
 have HC5 := Aside0.mk H
 clear H
 have hcz6_0 : w4.cell? ⟨gb268, 0, none⟩ = some (.slice A1_0 l1_0.length c1_0) := (blk_cell BK268.out 0).trans rfl
 have hfz6_0 := blk_frozen BK268.out 0
 go_upto_region 2 with (fail)
 go_cut [19] (fun v19 wc => ∃ (kq : Nat) (x19_4 : Bool), v19 = .bool x19_4 ∧ Aside0 (solve_shape.j0 kq l0 (l1_0.length : Int) x19_4 l1_0 = some r) ∧ Aside0 (kq ≤ k) ∧ Aside0 (wc.heap[gb268]? = some (.cells #[(.slice A1_0 l1_0.length c1_0)] 27 (0, 0))) ∧ Aside0 (Below w.heap.size w wc))
 case first =>
  have H := HC5.out
  clear HC5
  by_cases c7 : (l1_0.length : Int) = 0
  ·rw [if_pos c7] at H
   have c7b0 : ((l1_0.length : Int) == 0) = true := beq_iff_eq.mpr c7
   have c7b1 : ((l1_0.length : Int) != 0) = false := bne_eq_false_iff_eq.mpr c7
   clear c7
   (first | rw [c7b0] | (simp only [i64_w, i32_w]; rw [c7b0]) | skip)
   (try rw [c7b1])
   have H' := Aside0.mk H
   clear H
   go_wp2
   go_meet
   case rel => exact ⟨_, (true), zT, H', ⟨by first | omega | exact Nat.le_refl _⟩, ⟨by (with_reducible repeat (first | refine blk_drewN ?_ _ | refine blk_drew ?_ | refine blk_alloc ?_ _)); exact BK268.out⟩, ⟨by repeat (first | (with_reducible first | exact HB.out | apply below_alloc | apply pw_below_drewN | apply below_drew1 | refine below_set ?_ GE268.out) | exact HB.out)⟩⟩
  ·rw [if_neg c7] at H
   have c7b0 : ((l1_0.length : Int) == 0) = false := beq_eq_false_iff_ne.mpr c7
   have c7b1 : ((l1_0.length : Int) != 0) = true := bne_iff_ne.mpr c7
   have c7b2 : ¬ (l1_0 = []) := fun h_ => c7 (by rw [h_]; rfl)
   (first | rw [c7b0] | (simp only [i64_w, i32_w]; rw [c7b0]) | skip)
   (try rw [c7b1])
   (try rw [c7b2])
   have H' := Aside0.mk H
   clear H
   go_wp2
   go_meet
   case rel => exact ⟨_, (decide ((l1_0.length : Int) > 2000)), zT, H', ⟨by first | omega | exact Nat.le_refl _⟩, ⟨by (with_reducible repeat (first | refine blk_drewN ?_ _ | refine blk_drew ?_ | refine blk_alloc ?_ _)); exact BK268.out⟩, ⟨by repeat (first | (with_reducible first | exact HB.out | apply below_alloc | apply pw_below_drewN | apply below_drew1 | refine below_set ?_ GE268.out) | exact HB.out)⟩⟩
 case rest =>
  clear HC5
  try clear hcz6_0
  try clear hfz6_0
  obtain ⟨kq, x19_4, rfl, HA, HJ4, BK268, HB⟩ := hcut
  cases kq with
  | zero => exact absurd HA.out (by simp [solve_shape.j0])
  | succ kj4 =>
   have H := HA.out
   clear HA
   simp only [solve_shape.j0] at H
   by_cases c8 : x19_4 = true
   ·subst c8
    have H1 : (some false) = some r := by rw [if_pos rfl] at H; exact H
    clear H
    have H := H1
    clear H1
    obtain rfl := Option.some.inj H
    go_wp2
    go_ret
    exact ⟨by first | rfl | (simp [errW_none, errW_some] <;> rfl) | (simp [*, errW_none, errW_some] <;> rfl), by repeat (first | (with_reducible first | exact HB.out | apply below_alloc | apply pw_below_drewN | apply below_drew1 | refine below_set ?_ GE268.out) | exact HB.out)⟩
   ·replace c8 := Bool.eq_false_iff.mpr c8
    subst c8
    have H1 : (if 0 ≤ (l1_0.length : Int) then (if ((l1_0.length : Int) : Int).toNat ≤ 281474976710656 then (solve_shape.l0 kj4 l0 (l1_0.length : Int) (List.replicate ((l1_0.length : Int) : Int).toNat false) l1_0 (l1_0.length : Int) 0) else (none)) else (none)) = some r := by rw [if_neg (show ¬ (false = true) by decide)] at H; exact H
    clear H
    have H := H1
    clear H1
    by_cases c9 : 0 ≤ (l1_0.length : Int)
    ·rw [if_pos c9] at H
     have c9b0 := eq_true c9
     have c9b1 : decide (0 ≤ (l1_0.length : Int)) = true := decide_eq_true c9
     clear c9
     by_cases c10 : ((l1_0.length : Int) : Int).toNat ≤ 281474976710656
     ·rw [if_pos c10] at H
      have c10b0 := eq_true c10
      have c10b1 : decide (((l1_0.length : Int) : Int).toNat ≤ 281474976710656) = true := decide_eq_true c10
      clear c10
      obtain ⟨y269, hy269⟩ : ∃ y_ : List Bool, y_ = (List.replicate ((l1_0.length : Int) : Int).toNat false) := ⟨_, rfl⟩
      replace H : (solve_shape.l0 kj4 l0 (l1_0.length : Int) y269 l1_0 (l1_0.length : Int) 0) = some r := by first | (rw [hy269]; with_reducible exact H) | (have H2_ := (Option.bind_some _ _).symm.trans H; rw [hy269]; with_reducible exact H2_) | (have H2_ := (Option.bind_some _ _).symm.trans H; with_reducible exact H2_) | with_reducible exact H | (rw [hy269]; exact H) | exact H
      have Ny269 := Aside0.mk hy269
      clear hy269
      have HC11 := Aside0.mk H
      clear H
      try go_wp2_with (first | ((with_reducible refine gate_dst (N := 21) rfl ?_); (try (refine gate_guard (by rfl) ?_; dsimp only)); refine Kd.R_make Kd.bool _ 4 rfl (N := 21) rfl 76 _ _ rfl (l1_0.length : Int) rfl rfl Try.underlying76 (.bool false) 1 info4 rfl (by decide) (by omega) false (ok := fun _ => True) (okp := fun _ => True) rfl (fun _ hk => hk) trivial (of_decide_eq_true zh) (Nat.le_trans (Nat.mul_le_mul_right _ (of_decide_eq_true zh : (l1_0.length : Int).toNat ≤ 281474976710656)) (by omega)) (Below.refl _ _) (Nat.le_refl _) ?_; intro v270 w12 ho13 hb hg_ hnew_; clear hg_ hnew_; (first | rw [← Ny269.out] at ho13 | (simp only [Int.reduceToNat] at ho13; rw [← Ny269.out] at ho13)); have n0_ := Aside0.mk (Kd.R_lower ho13 (below_size zB)); have n1_ := Aside0.mk (blk_below (g := gb268) (o := .cells #[.slice A1_0 l1_0.length c1_0] 27 (0, 0)) (zk BK268) hb); have n2_ := Aside0.mk (below_step zB hb); clear BK268; clear HB; have HO271 := n0_; have BK268 := n1_; have HB := n2_; clear n0_ n1_ n2_; clear hb ho13))
      refine wp_label ?_
      (try simp only [Act.put, List.setIfInBounds_toArray, List.set_cons_zero, List.set_cons_succ])
      have H := HC11.out
      clear HC11
      have H' := Aside0.mk H
      clear H
      have hcz14_0 : w12.cell? ⟨gb268, 0, none⟩ = some (.slice A1_0 l1_0.length c1_0) := (blk_cell BK268.out 0).trans rfl
      have hfz14_0 := blk_frozen BK268.out 0
      go_wp2
      go_loopg [25] kj4 (fun kq v25 w' => ∃ (x6_2 : List Bool) (x25_2 : Int), v25 = .int .i64 x25_2 ∧ Aside0 (solve_shape.l0 kq l0 (l1_0.length : Int) x6_2 l1_0 (l1_0.length : Int) x25_2 = some r) ∧ Aside0 (kq ≤ kj4) ∧ Aside0 (Kd.R Kd.bool 4 w' w.heap.size (fun _ => True) v270 x6_2) ∧ Aside0 (w'.heap[gb268]? = some (.cells #[(.slice A1_0 l1_0.length c1_0)] 27 (0, 0))) ∧ Aside0 (Below w.heap.size w w'))
      case atStart => exact ⟨(y269), (0), zT, H', ⟨Nat.le_refl _⟩, ⟨by (with_reducible repeat (first | apply Kd.R_alloc | apply Kd.R_drewN | apply Kd.R_drew)); exact HO271.out⟩, ⟨by (with_reducible repeat (first | refine blk_drewN ?_ _ | refine blk_drew ?_ | refine blk_alloc ?_ _)); exact BK268.out⟩, ⟨by repeat (first | (with_reducible first | exact HB.out | apply below_alloc | apply pw_below_drewN | apply below_drew1 | refine below_set ?_ GE268.out) | exact HB.out)⟩⟩
      case round =>
       clear H'
       try clear c8
       try clear c9
       try clear c9b0
       try clear c9b1
       try clear c10
       try clear c10b0
       try clear c10b1
       try clear hcz14_0
       try clear hcz6_0
       try clear hfz14_0
       try clear hfz6_0
       obtain ⟨x6_2, x25_2, rfl, HA, HK2, HO_6, BK268, HB⟩ := hrel
       cases gk with
       | zero => exact absurd HA.out (by simp [solve_shape.l0])
       | succ k2 =>
        have H := HA.out
        clear HA
        simp only [solve_shape.l0] at H
        by_cases c15 : x25_2 < (l1_0.length : Int)
        ·rw [if_pos c15] at H
         have c15b0 : decide (x25_2 < (l1_0.length : Int)) = true := decide_eq_true c15
         clear c15
         (first | rw [c15b0] | (simp only [i64_w, i32_w]; rw [c15b0]) | skip)
         by_cases c16 : 0 ≤ x25_2
         ·rw [if_pos c16] at H
          have c16b0 : decide (0 ≤ x25_2) = true := decide_eq_true c16
          clear c16
          by_cases c17 : x25_2 < (l1_0.length : Int)
          ·rw [if_pos c17] at H
           have c17b0 : decide (x25_2 < (l1_0.length : Int)) = true := decide_eq_true c17
           clear c17
           have HC18 := Aside0.mk H
           clear H
           have p277 : 0 ≤ (x25_2 : Int) := of_decide_eq_true zh
           have q277 : x25_2 < (l1_0.length : Int) := of_decide_eq_true zh
           obtain ⟨ad277, e277, hx277_0, hx277_1, hx277_2, hx277_3⟩ := at_T35 HR1_0.out x25_2 p277 q277
           cases e277
           replace hx277_0 := (HB.out.cell (World.block_lt_of_cell? w _ hx277_0)).trans hx277_0
           replace hx277_1 := (HB.out.cell (World.block_lt_of_cell? w _ hx277_1)).trans hx277_1
           replace hx277_2 := (HB.out.cell (World.block_lt_of_cell? w _ hx277_2)).trans hx277_2
           replace hx277_3 := (HB.out.cell (World.block_lt_of_cell? w _ hx277_3)).trans hx277_3
           replace p277 := eq_true p277
           replace q277 := eq_true q277
           go_upto_if 32 with (first | ((with_reducible refine gate_dst (N := 8) rfl ?_); (try (refine gate_guard (by rfl) ?_; dsimp only)); refine box_event ?hg (N := 8) ?hd (cs := #[.int .i64 0, .int .i64 0, .int .i64 0, .int .i64 0]) (t := 35) ?hr ?_; (case hd => rfl); (case hg => rfl); (case hr => first | (go_simp; done) | (go_simp; rfl)); intro gb278 hg w19 hbox hb; have n0_ := Aside0.mk (Kd.R_below (zR HO_6) hb); have n1_ := Aside0.mk (blk_below (g := gb268) (o := .cells #[.slice (some ad277) l1_0.length c1_0] 27 (0, 0)) (zk BK268) hb); have n2_ := Aside0.mk (below_step zB hb); have n3_ := Aside0.mk (hbox); have n4_ := Aside0.mk ((by rw [hg]; exact (below_size zB) : w.heap.size ≤ gb278)); have n5_ := Aside0.mk ((by rw [hg]; exact (below_size zB) : w.heap.size ≤ gb278)); have n6_ := Aside0.mk ((by rw [hg]; exact Nat.ne_of_lt (blk_lt (g := gb268) (o := .cells #[.slice (some ad277) l1_0.length c1_0] 27 (0, 0)) (zk BK268)) : gb268 ≠ gb278)); have n7_ := Aside0.mk ((by rw [hg]; exact Nat.ne_of_gt (blk_lt (g := gb268) (o := .cells #[.slice (some ad277) l1_0.length c1_0] 27 (0, 0)) (zk BK268)) : gb278 ≠ gb268)); clear HO_6; clear BK268; clear HB; have HO_6 := n0_; have BK268 := n1_; have HB := n2_; have BK278 := n3_; have GW278 := n4_; have GE278 := n5_; have NB268_278 := n6_; have NB278_268 := n7_; clear n0_ n1_ n2_ n3_ n4_ n5_ n6_ n7_; clear hb hbox hg; have hnb20 := NB278_268.out; have hnc20 := NB268_278.out; have hcz21_0 : w19.cell? ⟨gb278, 0, none⟩ = some (.int .i64 0) := (blk_cell BK278.out 0).trans rfl; have hcz21_1 : w19.cell? ⟨gb278, 1, none⟩ = some (.int .i64 0) := (blk_cell BK278.out 1).trans rfl; have hcz21_2 : w19.cell? ⟨gb278, 2, none⟩ = some (.int .i64 0) := (blk_cell BK278.out 2).trans rfl; have hcz21_3 : w19.cell? ⟨gb278, 3, none⟩ = some (.int .i64 0) := (blk_cell BK278.out 3).trans rfl; have hfz21_0 := blk_frozen BK278.out 0; have hfz21_1 := blk_frozen BK278.out 1; have hfz21_2 := blk_frozen BK278.out 2; have hfz21_3 := blk_frozen BK278.out 3))
           (try simp only [Act.put, List.setIfInBounds_toArray, List.set_cons_zero, List.set_cons_succ])
           have H := HC18.out
           clear HC18
           by_cases c22 : ((rd_T35 l1_0 x25_2).f0) = (-1)
           ·rw [if_pos c22] at H
            have c22b0 : (((rd_T35 l1_0 x25_2).f0) == (-1)) = true := beq_iff_eq.mpr c22
            have c22b1 : (((rd_T35 l1_0 x25_2).f0) != (-1)) = false := bne_eq_false_iff_eq.mpr c22
            clear c22
            (first | rw [c22b0] | (simp only [i64_w, i32_w]; rw [c22b0]) | skip)
            (try rw [c22b1])
            by_cases c23 : ((rd_T35 l1_0 x25_2).f1) = 0
            ·rw [if_pos c23] at H
             have c23b0 : (((rd_T35 l1_0 x25_2).f1) == 0) = true := beq_iff_eq.mpr c23
             have c23b1 : (((rd_T35 l1_0 x25_2).f1) != 0) = false := bne_eq_false_iff_eq.mpr c23
             clear c23
             by_cases c24 : ((rd_T35 l1_0 x25_2).f2) = 0
             ·rw [if_pos c24] at H
              have c24b0 : (((rd_T35 l1_0 x25_2).f2) == 0) = true := beq_iff_eq.mpr c24
              have c24b1 : (((rd_T35 l1_0 x25_2).f2) != 0) = false := bne_eq_false_iff_eq.mpr c24
              clear c24
              by_cases c25 : ((rd_T35 l1_0 x25_2).f3) < 0
              ·rw [if_pos c25] at H
               have c25b0 : decide (((rd_T35 l1_0 x25_2).f3) < 0) = true := decide_eq_true c25
               clear c25
               obtain rfl := Option.some.inj H
               have hnb26 := NB278_268.out
               have hnc26 := NB268_278.out
               have hcz27_0 : w19.cell? ⟨gb278, 0, none⟩ = some (.int .i64 0) := (blk_cell BK278.out 0).trans rfl
               have hcz27_1 : w19.cell? ⟨gb278, 1, none⟩ = some (.int .i64 0) := (blk_cell BK278.out 1).trans rfl
               have hcz27_2 : w19.cell? ⟨gb278, 2, none⟩ = some (.int .i64 0) := (blk_cell BK278.out 2).trans rfl
               have hcz27_3 : w19.cell? ⟨gb278, 3, none⟩ = some (.int .i64 0) := (blk_cell BK278.out 3).trans rfl
               have hfz27_0 := blk_frozen BK278.out 0
               have hfz27_1 := blk_frozen BK278.out 1
               have hfz27_2 := blk_frozen BK278.out 2
               have hfz27_3 := blk_frozen BK278.out 3
               go_wp2
               go_ret
               exact ⟨by first | rfl | (simp [errW_none, errW_some] <;> rfl) | (simp [*, errW_none, errW_some] <;> rfl), by repeat (first | (with_reducible first | exact HB.out | apply below_alloc | apply pw_below_drewN | apply below_drew1 | refine below_set ?_ GE268.out | refine below_set ?_ GE278.out) | exact HB.out)⟩
              ·rw [if_neg c25] at H
               have c25b0 : decide (((rd_T35 l1_0 x25_2).f3) < 0) = false := decide_eq_false c25
               clear c25
               by_cases c28 : ((rd_T35 l1_0 x25_2).f3) ≥ (l0.length : Int)
               ·rw [if_pos c28] at H
                have c28b0 : decide ((l0.length : Int) ≤ ((rd_T35 l1_0 x25_2).f3)) = true := decide_eq_true c28
                clear c28
                obtain rfl := Option.some.inj H
                have hnb29 := NB278_268.out
                have hnc29 := NB268_278.out
                have hcz30_0 : w19.cell? ⟨gb278, 0, none⟩ = some (.int .i64 0) := (blk_cell BK278.out 0).trans rfl
                have hcz30_1 : w19.cell? ⟨gb278, 1, none⟩ = some (.int .i64 0) := (blk_cell BK278.out 1).trans rfl
                have hcz30_2 : w19.cell? ⟨gb278, 2, none⟩ = some (.int .i64 0) := (blk_cell BK278.out 2).trans rfl
                have hcz30_3 : w19.cell? ⟨gb278, 3, none⟩ = some (.int .i64 0) := (blk_cell BK278.out 3).trans rfl
                have hfz30_0 := blk_frozen BK278.out 0
                have hfz30_1 := blk_frozen BK278.out 1
                have hfz30_2 := blk_frozen BK278.out 2
                have hfz30_3 := blk_frozen BK278.out 3
                go_wp2
                go_ret
                exact ⟨by first | rfl | (simp [errW_none, errW_some] <;> rfl) | (simp [*, errW_none, errW_some] <;> rfl), by repeat (first | (with_reducible first | exact HB.out | apply below_alloc | apply pw_below_drewN | apply below_drew1 | refine below_set ?_ GE268.out | refine below_set ?_ GE278.out) | exact HB.out)⟩
               ·rw [if_neg c28] at H
                have c28b0 : decide ((l0.length : Int) ≤ ((rd_T35 l1_0 x25_2).f3)) = false := decide_eq_false c28
                clear c28
                have H' := Aside0.mk H
                clear H
                have hnb31 := NB278_268.out
                have hnc31 := NB268_278.out
                have hcz32_0 : w19.cell? ⟨gb278, 0, none⟩ = some (.int .i64 0) := (blk_cell BK278.out 0).trans rfl
                have hcz32_1 : w19.cell? ⟨gb278, 1, none⟩ = some (.int .i64 0) := (blk_cell BK278.out 1).trans rfl
                have hcz32_2 : w19.cell? ⟨gb278, 2, none⟩ = some (.int .i64 0) := (blk_cell BK278.out 2).trans rfl
                have hcz32_3 : w19.cell? ⟨gb278, 3, none⟩ = some (.int .i64 0) := (blk_cell BK278.out 3).trans rfl
                have hfz32_0 := blk_frozen BK278.out 0
                have hfz32_1 := blk_frozen BK278.out 1
                have hfz32_2 := blk_frozen BK278.out 2
                have hfz32_3 := blk_frozen BK278.out 3
                go_wp2
                go_roundg k2
                case measure => have := HJ4.out; have := HK2.out; omega
                case rel => exact ⟨(x6_2), (wrap64 (x25_2 + 1)), zT, H', ⟨by have := HJ4.out; have := HK2.out; omega⟩, ⟨by (with_reducible repeat (first | apply Kd.R_alloc | apply Kd.R_drewN | apply Kd.R_drew)); exact Kd.R_mono (Kd.R_far (p := ⟨gb278, 3, none⟩) (Kd.R_far (p := ⟨gb278, 2, none⟩) (Kd.R_far (p := ⟨gb278, 1, none⟩) (Kd.R_far (p := ⟨gb278, 0, none⟩) (Kd.R_types HO_6.out BK278.out (by decide)) (fun _ hk => hk.2) (.int .i64 ((rd_T35 l1_0 x25_2).f0))) (fun _ hk => hk.2) (.int .i64 ((rd_T35 l1_0 x25_2).f1))) (fun _ hk => hk.2) (.int .i64 ((rd_T35 l1_0 x25_2).f2))) (fun _ hk => hk.2) (.int .i64 ((rd_T35 l1_0 x25_2).f3))) (fun _ hk => trivial)⟩, ⟨by (with_reducible repeat (first | refine blk_drewN ?_ _ | refine blk_drew ?_ | refine blk_alloc ?_ _)); refine blk_far ?_ NB268_278.out _; (with_reducible repeat (first | refine blk_drewN ?_ _ | refine blk_drew ?_ | refine blk_alloc ?_ _)); refine blk_far ?_ NB268_278.out _; (with_reducible repeat (first | refine blk_drewN ?_ _ | refine blk_drew ?_ | refine blk_alloc ?_ _)); refine blk_far ?_ NB268_278.out _; (with_reducible repeat (first | refine blk_drewN ?_ _ | refine blk_drew ?_ | refine blk_alloc ?_ _)); refine blk_far ?_ NB268_278.out _; (with_reducible repeat (first | refine blk_drewN ?_ _ | refine blk_drew ?_ | refine blk_alloc ?_ _)); exact BK268.out⟩, ⟨by repeat (first | (with_reducible first | exact HB.out | apply below_alloc | apply pw_below_drewN | apply below_drew1 | refine below_set ?_ GE268.out | refine below_set ?_ GE278.out) | exact HB.out)⟩⟩
             ·rw [if_neg c24] at H
              have c24b0 : (((rd_T35 l1_0 x25_2).f2) == 0) = false := beq_eq_false_iff_ne.mpr c24
              have c24b1 : (((rd_T35 l1_0 x25_2).f2) != 0) = true := bne_iff_ne.mpr c24
              obtain rfl := Option.some.inj H
              have hnb33 := NB278_268.out
              have hnc33 := NB268_278.out
              have hcz34_0 : w19.cell? ⟨gb278, 0, none⟩ = some (.int .i64 0) := (blk_cell BK278.out 0).trans rfl
              have hcz34_1 : w19.cell? ⟨gb278, 1, none⟩ = some (.int .i64 0) := (blk_cell BK278.out 1).trans rfl
              have hcz34_2 : w19.cell? ⟨gb278, 2, none⟩ = some (.int .i64 0) := (blk_cell BK278.out 2).trans rfl
              have hcz34_3 : w19.cell? ⟨gb278, 3, none⟩ = some (.int .i64 0) := (blk_cell BK278.out 3).trans rfl
              have hfz34_0 := blk_frozen BK278.out 0
              have hfz34_1 := blk_frozen BK278.out 1
              have hfz34_2 := blk_frozen BK278.out 2
              have hfz34_3 := blk_frozen BK278.out 3
              go_wp2
              go_ret
              exact ⟨by first | rfl | (simp [errW_none, errW_some] <;> rfl) | (simp [*, errW_none, errW_some] <;> rfl), by repeat (first | (with_reducible first | exact HB.out | apply below_alloc | apply pw_below_drewN | apply below_drew1 | refine below_set ?_ GE268.out | refine below_set ?_ GE278.out) | exact HB.out)⟩
            ·rw [if_neg c23] at H
             have c23b0 : (((rd_T35 l1_0 x25_2).f1) == 0) = false := beq_eq_false_iff_ne.mpr c23
             have c23b1 : (((rd_T35 l1_0 x25_2).f1) != 0) = true := bne_iff_ne.mpr c23
             obtain rfl := Option.some.inj H
             have hnb35 := NB278_268.out
             have hnc35 := NB268_278.out
             have hcz36_0 : w19.cell? ⟨gb278, 0, none⟩ = some (.int .i64 0) := (blk_cell BK278.out 0).trans rfl
             have hcz36_1 : w19.cell? ⟨gb278, 1, none⟩ = some (.int .i64 0) := (blk_cell BK278.out 1).trans rfl
             have hcz36_2 : w19.cell? ⟨gb278, 2, none⟩ = some (.int .i64 0) := (blk_cell BK278.out 2).trans rfl
             have hcz36_3 : w19.cell? ⟨gb278, 3, none⟩ = some (.int .i64 0) := (blk_cell BK278.out 3).trans rfl
             have hfz36_0 := blk_frozen BK278.out 0
             have hfz36_1 := blk_frozen BK278.out 1
             have hfz36_2 := blk_frozen BK278.out 2
             have hfz36_3 := blk_frozen BK278.out 3
             go_wp2
             go_ret
             exact ⟨by first | rfl | (simp [errW_none, errW_some] <;> rfl) | (simp [*, errW_none, errW_some] <;> rfl), by repeat (first | (with_reducible first | exact HB.out | apply below_alloc | apply pw_below_drewN | apply below_drew1 | refine below_set ?_ GE268.out | refine below_set ?_ GE278.out) | exact HB.out)⟩
           ·rw [if_neg c22] at H
            have c22b0 : (((rd_T35 l1_0 x25_2).f0) == (-1)) = false := beq_eq_false_iff_ne.mpr c22
            have c22b1 : (((rd_T35 l1_0 x25_2).f0) != (-1)) = true := bne_iff_ne.mpr c22
            (first | rw [c22b0] | (simp only [i64_w, i32_w]; rw [c22b0]) | skip)
            (try rw [c22b1])
            have HC37 := Aside0.mk H
            clear H
            go_upto_region 11 with (fail)
            go_cut [65] (fun v65 wc => ∃ (kq : Nat) (x65_36 : Bool), v65 = .bool x65_36 ∧ Aside0 (solve_shape.j2 kq l0 (l1_0.length : Int) x6_2 x25_2 l1_0 (l1_0.length : Int) x25_2 x65_36 ((rd_T35 l1_0 x25_2).f0) ((rd_T35 l1_0 x25_2).f1) ((rd_T35 l1_0 x25_2).f2) ((rd_T35 l1_0 x25_2).f3) = some r) ∧ Aside0 (kq ≤ k2) ∧ Aside0 (Kd.R Kd.bool 4 wc w.heap.size (fun _ => True) v270 x6_2) ∧ Aside0 (wc.heap[gb268]? = some (.cells #[(.slice (some ad277) l1_0.length c1_0)] 27 (0, 0))) ∧ Aside0 (wc.heap[gb278]? = some (.cells #[.int .i64 ((rd_T35 l1_0 x25_2).f0), .int .i64 ((rd_T35 l1_0 x25_2).f1), .int .i64 ((rd_T35 l1_0 x25_2).f2), .int .i64 ((rd_T35 l1_0 x25_2).f3)] 35 (0, 0))) ∧ Aside0 (Below w.heap.size w wc))
            case first =>
             have H := HC37.out
             clear HC37
             by_cases c38 : ((rd_T35 l1_0 x25_2).f0) < 0
             ·rw [if_pos c38] at H
              have c38b0 : decide (((rd_T35 l1_0 x25_2).f0) < 0) = true := decide_eq_true c38
              clear c38
              (first | rw [c38b0] | (simp only [i64_w, i32_w]; rw [c38b0]) | skip)
              have H' := Aside0.mk H
              clear H
              have hnb39 := NB278_268.out
              have hnc39 := NB268_278.out
              have hcz40_0 : w19.cell? ⟨gb278, 0, none⟩ = some (.int .i64 0) := (blk_cell BK278.out 0).trans rfl
              have hcz40_1 : w19.cell? ⟨gb278, 1, none⟩ = some (.int .i64 0) := (blk_cell BK278.out 1).trans rfl
              have hcz40_2 : w19.cell? ⟨gb278, 2, none⟩ = some (.int .i64 0) := (blk_cell BK278.out 2).trans rfl
              have hcz40_3 : w19.cell? ⟨gb278, 3, none⟩ = some (.int .i64 0) := (blk_cell BK278.out 3).trans rfl
              have hfz40_0 := blk_frozen BK278.out 0
              have hfz40_1 := blk_frozen BK278.out 1
              have hfz40_2 := blk_frozen BK278.out 2
              have hfz40_3 := blk_frozen BK278.out 3
              go_wp2
              go_meet
              case rel => exact ⟨_, (true), zT, H', ⟨by have := HJ4.out; have := HK2.out; first | omega | exact Nat.le_refl _⟩, ⟨by (with_reducible repeat (first | apply Kd.R_alloc | apply Kd.R_drewN | apply Kd.R_drew)); exact Kd.R_mono (Kd.R_far (p := ⟨gb278, 3, none⟩) (Kd.R_far (p := ⟨gb278, 2, none⟩) (Kd.R_far (p := ⟨gb278, 1, none⟩) (Kd.R_far (p := ⟨gb278, 0, none⟩) (Kd.R_types HO_6.out BK278.out (by decide)) (fun _ hk => hk.2) (.int .i64 ((rd_T35 l1_0 x25_2).f0))) (fun _ hk => hk.2) (.int .i64 ((rd_T35 l1_0 x25_2).f1))) (fun _ hk => hk.2) (.int .i64 ((rd_T35 l1_0 x25_2).f2))) (fun _ hk => hk.2) (.int .i64 ((rd_T35 l1_0 x25_2).f3))) (fun _ hk => trivial)⟩, ⟨by (with_reducible repeat (first | refine blk_drewN ?_ _ | refine blk_drew ?_ | refine blk_alloc ?_ _)); refine blk_far ?_ NB268_278.out _; (with_reducible repeat (first | refine blk_drewN ?_ _ | refine blk_drew ?_ | refine blk_alloc ?_ _)); refine blk_far ?_ NB268_278.out _; (with_reducible repeat (first | refine blk_drewN ?_ _ | refine blk_drew ?_ | refine blk_alloc ?_ _)); refine blk_far ?_ NB268_278.out _; (with_reducible repeat (first | refine blk_drewN ?_ _ | refine blk_drew ?_ | refine blk_alloc ?_ _)); refine blk_far ?_ NB268_278.out _; (with_reducible repeat (first | refine blk_drewN ?_ _ | refine blk_drew ?_ | refine blk_alloc ?_ _)); exact BK268.out⟩, ⟨by (with_reducible repeat (first | refine blk_drewN ?_ _ | refine blk_drew ?_ | refine blk_alloc ?_ _)); refine blk_put (cs := #[.int .i64 ((rd_T35 l1_0 x25_2).f0), .int .i64 ((rd_T35 l1_0 x25_2).f1), .int .i64 ((rd_T35 l1_0 x25_2).f2), .int .i64 0]) ?_ 3 _ rfl; (with_reducible repeat (first | refine blk_drewN ?_ _ | refine blk_drew ?_ | refine blk_alloc ?_ _)); refine blk_put (cs := #[.int .i64 ((rd_T35 l1_0 x25_2).f0), .int .i64 ((rd_T35 l1_0 x25_2).f1), .int .i64 0, .int .i64 0]) ?_ 2 _ rfl; (with_reducible repeat (first | refine blk_drewN ?_ _ | refine blk_drew ?_ | refine blk_alloc ?_ _)); refine blk_put (cs := #[.int .i64 ((rd_T35 l1_0 x25_2).f0), .int .i64 0, .int .i64 0, .int .i64 0]) ?_ 1 _ rfl; (with_reducible repeat (first | refine blk_drewN ?_ _ | refine blk_drew ?_ | refine blk_alloc ?_ _)); refine blk_put (cs := #[.int .i64 0, .int .i64 0, .int .i64 0, .int .i64 0]) ?_ 0 _ rfl; (with_reducible repeat (first | refine blk_drewN ?_ _ | refine blk_drew ?_ | refine blk_alloc ?_ _)); exact BK278.out⟩, ⟨by repeat (first | (with_reducible first | exact HB.out | apply below_alloc | apply pw_below_drewN | apply below_drew1 | refine below_set ?_ GE268.out | refine below_set ?_ GE278.out) | exact HB.out)⟩⟩
             ·rw [if_neg c38] at H
              have c38b0 : decide (((rd_T35 l1_0 x25_2).f0) < 0) = false := decide_eq_false c38
              clear c38
              (first | rw [c38b0] | (simp only [i64_w, i32_w]; rw [c38b0]) | skip)
              by_cases c41 : ((rd_T35 l1_0 x25_2).f0) ≥ 24
              ·rw [if_pos c41] at H
               have c41b0 : decide (24 ≤ ((rd_T35 l1_0 x25_2).f0)) = true := decide_eq_true c41
               clear c41
               have H' := Aside0.mk H
               clear H
               have hnb42 := NB278_268.out
               have hnc42 := NB268_278.out
               have hcz43_0 : w19.cell? ⟨gb278, 0, none⟩ = some (.int .i64 0) := (blk_cell BK278.out 0).trans rfl
               have hcz43_1 : w19.cell? ⟨gb278, 1, none⟩ = some (.int .i64 0) := (blk_cell BK278.out 1).trans rfl
               have hcz43_2 : w19.cell? ⟨gb278, 2, none⟩ = some (.int .i64 0) := (blk_cell BK278.out 2).trans rfl
               have hcz43_3 : w19.cell? ⟨gb278, 3, none⟩ = some (.int .i64 0) := (blk_cell BK278.out 3).trans rfl
               have hfz43_0 := blk_frozen BK278.out 0
               have hfz43_1 := blk_frozen BK278.out 1
               have hfz43_2 := blk_frozen BK278.out 2
               have hfz43_3 := blk_frozen BK278.out 3
               go_wp2
               go_meet
               case rel => exact ⟨_, (true), zT, H', ⟨by have := HJ4.out; have := HK2.out; first | omega | exact Nat.le_refl _⟩, ⟨by (with_reducible repeat (first | apply Kd.R_alloc | apply Kd.R_drewN | apply Kd.R_drew)); exact Kd.R_mono (Kd.R_far (p := ⟨gb278, 3, none⟩) (Kd.R_far (p := ⟨gb278, 2, none⟩) (Kd.R_far (p := ⟨gb278, 1, none⟩) (Kd.R_far (p := ⟨gb278, 0, none⟩) (Kd.R_types HO_6.out BK278.out (by decide)) (fun _ hk => hk.2) (.int .i64 ((rd_T35 l1_0 x25_2).f0))) (fun _ hk => hk.2) (.int .i64 ((rd_T35 l1_0 x25_2).f1))) (fun _ hk => hk.2) (.int .i64 ((rd_T35 l1_0 x25_2).f2))) (fun _ hk => hk.2) (.int .i64 ((rd_T35 l1_0 x25_2).f3))) (fun _ hk => trivial)⟩, ⟨by (with_reducible repeat (first | refine blk_drewN ?_ _ | refine blk_drew ?_ | refine blk_alloc ?_ _)); refine blk_far ?_ NB268_278.out _; (with_reducible repeat (first | refine blk_drewN ?_ _ | refine blk_drew ?_ | refine blk_alloc ?_ _)); refine blk_far ?_ NB268_278.out _; (with_reducible repeat (first | refine blk_drewN ?_ _ | refine blk_drew ?_ | refine blk_alloc ?_ _)); refine blk_far ?_ NB268_278.out _; (with_reducible repeat (first | refine blk_drewN ?_ _ | refine blk_drew ?_ | refine blk_alloc ?_ _)); refine blk_far ?_ NB268_278.out _; (with_reducible repeat (first | refine blk_drewN ?_ _ | refine blk_drew ?_ | refine blk_alloc ?_ _)); exact BK268.out⟩, ⟨by (with_reducible repeat (first | refine blk_drewN ?_ _ | refine blk_drew ?_ | refine blk_alloc ?_ _)); refine blk_put (cs := #[.int .i64 ((rd_T35 l1_0 x25_2).f0), .int .i64 ((rd_T35 l1_0 x25_2).f1), .int .i64 ((rd_T35 l1_0 x25_2).f2), .int .i64 0]) ?_ 3 _ rfl; (with_reducible repeat (first | refine blk_drewN ?_ _ | refine blk_drew ?_ | refine blk_alloc ?_ _)); refine blk_put (cs := #[.int .i64 ((rd_T35 l1_0 x25_2).f0), .int .i64 ((rd_T35 l1_0 x25_2).f1), .int .i64 0, .int .i64 0]) ?_ 2 _ rfl; (with_reducible repeat (first | refine blk_drewN ?_ _ | refine blk_drew ?_ | refine blk_alloc ?_ _)); refine blk_put (cs := #[.int .i64 ((rd_T35 l1_0 x25_2).f0), .int .i64 0, .int .i64 0, .int .i64 0]) ?_ 1 _ rfl; (with_reducible repeat (first | refine blk_drewN ?_ _ | refine blk_drew ?_ | refine blk_alloc ?_ _)); refine blk_put (cs := #[.int .i64 0, .int .i64 0, .int .i64 0, .int .i64 0]) ?_ 0 _ rfl; (with_reducible repeat (first | refine blk_drewN ?_ _ | refine blk_drew ?_ | refine blk_alloc ?_ _)); exact BK278.out⟩, ⟨by repeat (first | (with_reducible first | exact HB.out | apply below_alloc | apply pw_below_drewN | apply below_drew1 | refine below_set ?_ GE268.out | refine below_set ?_ GE278.out) | exact HB.out)⟩⟩
              ·rw [if_neg c41] at H
               have c41b0 : decide (24 ≤ ((rd_T35 l1_0 x25_2).f0)) = false := decide_eq_false c41
               clear c41
               have H' := Aside0.mk H
               clear H
               have hnb44 := NB278_268.out
               have hnc44 := NB268_278.out
               have hcz45_0 : w19.cell? ⟨gb278, 0, none⟩ = some (.int .i64 0) := (blk_cell BK278.out 0).trans rfl
               have hcz45_1 : w19.cell? ⟨gb278, 1, none⟩ = some (.int .i64 0) := (blk_cell BK278.out 1).trans rfl
               have hcz45_2 : w19.cell? ⟨gb278, 2, none⟩ = some (.int .i64 0) := (blk_cell BK278.out 2).trans rfl
               have hcz45_3 : w19.cell? ⟨gb278, 3, none⟩ = some (.int .i64 0) := (blk_cell BK278.out 3).trans rfl
               have hfz45_0 := blk_frozen BK278.out 0
               have hfz45_1 := blk_frozen BK278.out 1
               have hfz45_2 := blk_frozen BK278.out 2
               have hfz45_3 := blk_frozen BK278.out 3
               go_wp2
               go_meet
               case rel => exact ⟨_, ((((rd_T35 l1_0 x25_2).f3) != 0)), zT, H', ⟨by have := HJ4.out; have := HK2.out; first | omega | exact Nat.le_refl _⟩, ⟨by (with_reducible repeat (first | apply Kd.R_alloc | apply Kd.R_drewN | apply Kd.R_drew)); exact Kd.R_mono (Kd.R_far (p := ⟨gb278, 3, none⟩) (Kd.R_far (p := ⟨gb278, 2, none⟩) (Kd.R_far (p := ⟨gb278, 1, none⟩) (Kd.R_far (p := ⟨gb278, 0, none⟩) (Kd.R_types HO_6.out BK278.out (by decide)) (fun _ hk => hk.2) (.int .i64 ((rd_T35 l1_0 x25_2).f0))) (fun _ hk => hk.2) (.int .i64 ((rd_T35 l1_0 x25_2).f1))) (fun _ hk => hk.2) (.int .i64 ((rd_T35 l1_0 x25_2).f2))) (fun _ hk => hk.2) (.int .i64 ((rd_T35 l1_0 x25_2).f3))) (fun _ hk => trivial)⟩, ⟨by (with_reducible repeat (first | refine blk_drewN ?_ _ | refine blk_drew ?_ | refine blk_alloc ?_ _)); refine blk_far ?_ NB268_278.out _; (with_reducible repeat (first | refine blk_drewN ?_ _ | refine blk_drew ?_ | refine blk_alloc ?_ _)); refine blk_far ?_ NB268_278.out _; (with_reducible repeat (first | refine blk_drewN ?_ _ | refine blk_drew ?_ | refine blk_alloc ?_ _)); refine blk_far ?_ NB268_278.out _; (with_reducible repeat (first | refine blk_drewN ?_ _ | refine blk_drew ?_ | refine blk_alloc ?_ _)); refine blk_far ?_ NB268_278.out _; (with_reducible repeat (first | refine blk_drewN ?_ _ | refine blk_drew ?_ | refine blk_alloc ?_ _)); exact BK268.out⟩, ⟨by (with_reducible repeat (first | refine blk_drewN ?_ _ | refine blk_drew ?_ | refine blk_alloc ?_ _)); refine blk_put (cs := #[.int .i64 ((rd_T35 l1_0 x25_2).f0), .int .i64 ((rd_T35 l1_0 x25_2).f1), .int .i64 ((rd_T35 l1_0 x25_2).f2), .int .i64 0]) ?_ 3 _ rfl; (with_reducible repeat (first | refine blk_drewN ?_ _ | refine blk_drew ?_ | refine blk_alloc ?_ _)); refine blk_put (cs := #[.int .i64 ((rd_T35 l1_0 x25_2).f0), .int .i64 ((rd_T35 l1_0 x25_2).f1), .int .i64 0, .int .i64 0]) ?_ 2 _ rfl; (with_reducible repeat (first | refine blk_drewN ?_ _ | refine blk_drew ?_ | refine blk_alloc ?_ _)); refine blk_put (cs := #[.int .i64 ((rd_T35 l1_0 x25_2).f0), .int .i64 0, .int .i64 0, .int .i64 0]) ?_ 1 _ rfl; (with_reducible repeat (first | refine blk_drewN ?_ _ | refine blk_drew ?_ | refine blk_alloc ?_ _)); refine blk_put (cs := #[.int .i64 0, .int .i64 0, .int .i64 0, .int .i64 0]) ?_ 0 _ rfl; (with_reducible repeat (first | refine blk_drewN ?_ _ | refine blk_drew ?_ | refine blk_alloc ?_ _)); exact BK278.out⟩, ⟨by repeat (first | (with_reducible first | exact HB.out | apply below_alloc | apply pw_below_drewN | apply below_drew1 | refine below_set ?_ GE268.out | refine below_set ?_ GE278.out) | exact HB.out)⟩⟩
            case rest =>
             clear HC37
             try clear c8
             try clear c9
             try clear c9b0
             try clear c9b1
             try clear c10
             try clear c10b0
             try clear c10b1
             try clear c15
             try clear c15b0
             try clear c16
             try clear c16b0
             try clear c17
             try clear c17b0
             try clear c22
             try clear c22b0
             try clear c22b1
             try clear hcz14_0
             try clear hcz21_0
             try clear hcz21_1
             try clear hcz21_2
             try clear hcz21_3
             try clear hcz6_0
             try clear hfz14_0
             try clear hfz21_0
             try clear hfz21_1
             try clear hfz21_2
             try clear hfz21_3
             try clear hfz6_0
             try clear hx277_0
             try clear hx277_1
             try clear hx277_2
             try clear hx277_3
             try clear p277
             try clear q277
             obtain ⟨kq, x65_36, rfl, HA, HJ36, HO_6, BK268, BK278, HB⟩ := hcut
             cases kq with
             | zero => exact absurd HA.out (by simp [solve_shape.j2])
             | succ kj36 =>
              have H := HA.out
              clear HA
              simp only [solve_shape.j2] at H
              by_cases c46 : x65_36 = true
              ·subst c46
               have H1 : (some false) = some r := by rw [if_pos rfl] at H; exact H
               clear H
               have H := H1
               clear H1
               obtain rfl := Option.some.inj H
               go_wp2
               go_ret
               exact ⟨by first | rfl | (simp [errW_none, errW_some] <;> rfl) | (simp [*, errW_none, errW_some] <;> rfl), by repeat (first | (with_reducible first | exact HB.out | apply below_alloc | apply pw_below_drewN | apply below_drew1 | refine below_set ?_ GE268.out | refine below_set ?_ GE278.out) | exact HB.out)⟩
              ·replace c46 := Bool.eq_false_iff.mpr c46
               subst c46
               have H1 : ((some (([((rd_T35 l1_0 x25_2).f1), ((rd_T35 l1_0 x25_2).f2)] : List Int) : List Int)).bind fun y279 => (solve_shape.l1 kj36 l0 (l1_0.length : Int) x6_2 x25_2 l1_0 (l1_0.length : Int) x25_2 y279 (y279.length : Int) 0)) = some r := by rw [if_neg (show ¬ (false = true) by decide)] at H; exact H
               clear H
               have H := H1
               clear H1
               obtain ⟨y279, hy279⟩ : ∃ y_ : List Int, y_ = (([((rd_T35 l1_0 x25_2).f1), ((rd_T35 l1_0 x25_2).f2)] : List Int)) := ⟨_, rfl⟩
               replace H : (solve_shape.l1 kj36 l0 (l1_0.length : Int) x6_2 x25_2 l1_0 (l1_0.length : Int) x25_2 y279 (y279.length : Int) 0) = some r := by first | (rw [hy279]; with_reducible exact H) | (have H2_ := (Option.bind_some _ _).symm.trans H; rw [hy279]; with_reducible exact H2_) | (have H2_ := (Option.bind_some _ _).symm.trans H; with_reducible exact H2_) | with_reducible exact H | (rw [hy279]; exact H) | exact H
               have Ny279 := Aside0.mk hy279
               clear hy279
               have H' := Aside0.mk H
               clear H
               have hnb47 := NB278_268.out
               have hnc47 := NB268_278.out
               have hcz48_0 : wc.cell? ⟨gb278, 0, none⟩ = some (.int .i64 ((rd_T35 l1_0 x25_2).f0)) := (blk_cell BK278.out 0).trans rfl
               have hcz48_1 : wc.cell? ⟨gb278, 1, none⟩ = some (.int .i64 ((rd_T35 l1_0 x25_2).f1)) := (blk_cell BK278.out 1).trans rfl
               have hcz48_2 : wc.cell? ⟨gb278, 2, none⟩ = some (.int .i64 ((rd_T35 l1_0 x25_2).f2)) := (blk_cell BK278.out 2).trans rfl
               have hcz48_3 : wc.cell? ⟨gb278, 3, none⟩ = some (.int .i64 ((rd_T35 l1_0 x25_2).f3)) := (blk_cell BK278.out 3).trans rfl
               have hfz48_0 := blk_frozen BK278.out 0
               have hfz48_1 := blk_frozen BK278.out 1
               have hfz48_2 := blk_frozen BK278.out 2
               have hfz48_3 := blk_frozen BK278.out 3
               go_wp2_with (first | ((with_reducible refine gate_dst (N := 70) rfl ?_); (try (refine gate_guard (by rfl) ?_; dsimp only)); refine Kd.R_lit (Kd.int .i64) _ 3 ?hg (N := 70) ?hd (xs := ([((rd_T35 l1_0 x25_2).f1), ((rd_T35 l1_0 x25_2).f2)] : List Int)) (inner := [.int .i64 ((rd_T35 l1_0 x25_2).f1), .int .i64 ((rd_T35 l1_0 x25_2).f2)]) (ok := fun _ => True) (okp := fun _ => True) ?hr ?hp (fun _ hk => hk) trivial (Below.refl _ _) (Nat.le_refl _) (by simp) ?_; (case hd => rfl); (case hg => rfl); (case hr => first | (go_simp; done) | (go_simp; rfl)); (case hp => exact (Reps.one (show Kd.M (Kd.int .i64) _ _ _ ((rd_T35 l1_0 x25_2).f1) [.int .i64 ((rd_T35 l1_0 x25_2).f1)] from rfl) (Reps.one (show Kd.M (Kd.int .i64) _ _ _ ((rd_T35 l1_0 x25_2).f2) [.int .i64 ((rd_T35 l1_0 x25_2).f2)] from rfl) (Reps.none _ _)))); intro v280 w49 ho50 hb hg_ hnew_; clear hg_ hnew_; (first | rw [← Ny279.out] at ho50 | (simp only [Int.reduceToNat] at ho50; rw [← Ny279.out] at ho50)); have n0_ := Aside0.mk (Kd.R_below (zR HO_6) hb); have n1_ := Aside0.mk (Kd.R_lower ho50 (below_size zB)); have n2_ := Aside0.mk (blk_below (g := gb268) (o := .cells #[.slice (some ad277) l1_0.length c1_0] 27 (0, 0)) (zk BK268) hb); have n3_ := Aside0.mk (blk_below (g := gb278) (o := .cells #[.int .i64 ((rd_T35 l1_0 x25_2).f0), .int .i64 ((rd_T35 l1_0 x25_2).f1), .int .i64 ((rd_T35 l1_0 x25_2).f2), .int .i64 ((rd_T35 l1_0 x25_2).f3)] 35 (0, 0)) (zk BK278) hb); have n4_ := Aside0.mk (below_step zB hb); clear HO_6; clear BK268; clear BK278; clear HB; have HO_6 := n0_; have HO281 := n1_; have BK268 := n2_; have BK278 := n3_; have HB := n4_; clear n0_ n1_ n2_ n3_ n4_; clear hb ho50; obtain ⟨Ao51, co51, eo51⟩ := Kd.R_slice HO281.out; subst eo51))
               go_loopg [72] kj36 (fun kq v72 w' => ∃ (x6_4 : List Bool) (x72_4 : Int), v72 = .int .i64 x72_4 ∧ Aside0 (solve_shape.l1 kq l0 (l1_0.length : Int) x6_4 x25_2 l1_0 (l1_0.length : Int) x25_2 y279 (y279.length : Int) x72_4 = some r) ∧ Aside0 (kq ≤ kj36) ∧ Aside0 (Kd.R Kd.bool 4 w' w.heap.size (fun _ => True) v270 x6_4) ∧ Aside0 (Kd.R (Kd.int .i64) 3 w' w.heap.size (fun _ => True) (.slice Ao51 y279.length co51) y279) ∧ Aside0 (w'.heap[gb268]? = some (.cells #[(.slice (some ad277) l1_0.length c1_0)] 27 (0, 0))) ∧ Aside0 (w'.heap[gb278]? = some (.cells #[.int .i64 ((rd_T35 l1_0 x25_2).f0), .int .i64 ((rd_T35 l1_0 x25_2).f1), .int .i64 ((rd_T35 l1_0 x25_2).f2), .int .i64 ((rd_T35 l1_0 x25_2).f3)] 35 (0, 0))) ∧ Aside0 (Below w.heap.size w w'))
               case atStart => exact ⟨(x6_2), (0), zT, H', ⟨Nat.le_refl _⟩, ⟨by (with_reducible repeat (first | apply Kd.R_alloc | apply Kd.R_drewN | apply Kd.R_drew)); exact HO_6.out⟩, ⟨by (with_reducible repeat (first | apply Kd.R_alloc | apply Kd.R_drewN | apply Kd.R_drew)); exact HO281.out⟩, ⟨by (with_reducible repeat (first | refine blk_drewN ?_ _ | refine blk_drew ?_ | refine blk_alloc ?_ _)); exact BK268.out⟩, ⟨by (with_reducible repeat (first | refine blk_drewN ?_ _ | refine blk_drew ?_ | refine blk_alloc ?_ _)); exact BK278.out⟩, ⟨by repeat (first | (with_reducible first | exact HB.out | apply below_alloc | apply pw_below_drewN | apply below_drew1 | refine below_set ?_ GE268.out | refine below_set ?_ GE278.out) | exact HB.out)⟩⟩
               case round =>
                clear H'
                try clear c8
                try clear c9
                try clear c9b0
                try clear c9b1
                try clear c10
                try clear c10b0
                try clear c10b1
                try clear c15
                try clear c15b0
                try clear c16
                try clear c16b0
                try clear c17
                try clear c17b0
                try clear c22
                try clear c22b0
                try clear c22b1
                try clear c46
                try clear hcz14_0
                try clear hcz21_0
                try clear hcz21_1
                try clear hcz21_2
                try clear hcz21_3
                try clear hcz48_0
                try clear hcz48_1
                try clear hcz48_2
                try clear hcz48_3
                try clear hcz6_0
                try clear hfz14_0
                try clear hfz21_0
                try clear hfz21_1
                try clear hfz21_2
                try clear hfz21_3
                try clear hfz48_0
                try clear hfz48_1
                try clear hfz48_2
                try clear hfz48_3
                try clear hfz6_0
                try clear hx277_0
                try clear hx277_1
                try clear hx277_2
                try clear hx277_3
                try clear p277
                try clear q277
                obtain ⟨x6_4, x72_4, rfl, HA, HK4, HO_6, HO_70, BK268, BK278, HB⟩ := hrel
                cases gk with
                | zero => exact absurd HA.out (by simp [solve_shape.l1])
                | succ k4 =>
                 have H := HA.out
                 clear HA
                 simp only [solve_shape.l1] at H
                 by_cases c52 : x72_4 < (y279.length : Int)
                 ·rw [if_pos c52] at H
                  have c52b0 : decide (x72_4 < (y279.length : Int)) = true := decide_eq_true c52
                  clear c52
                  by_cases c53 : 0 ≤ x72_4
                  ·rw [if_pos c53] at H
                   have c53b0 : decide (0 ≤ x72_4) = true := decide_eq_true c53
                   clear c53
                   by_cases c54 : x72_4 < (y279.length : Int)
                   ·rw [if_pos c54] at H
                    have c54b0 : decide (x72_4 < (y279.length : Int)) = true := decide_eq_true c54
                    clear c54
                    by_cases c55 : (rd y279 x72_4) ≤ x25_2
                    ·rw [if_pos c55] at H
                     have c55b0 : decide ((rd y279 x72_4) ≤ x25_2) = true := decide_eq_true c55
                     clear c55
                     obtain rfl := Option.some.inj H
                     have p282 : 0 ≤ (x72_4 : Int) := of_decide_eq_true zh
                     have q282 : x72_4 < (y279.length : Int) := of_decide_eq_true zh
                     obtain ⟨ad282, e282, hx282_0⟩ := Kd.at_int (Kd.R_reads' HO_70.out).2.2 x72_4 p282 q282
                     cases e282
                     replace p282 := eq_true p282
                     replace q282 := eq_true q282
                     go_wp2
                     go_ret
                     exact ⟨by first | rfl | (simp [errW_none, errW_some] <;> rfl) | (simp [*, errW_none, errW_some] <;> rfl), by repeat (first | (with_reducible first | exact HB.out | apply below_alloc | apply pw_below_drewN | apply below_drew1 | refine below_set ?_ GE268.out | refine below_set ?_ GE278.out) | exact HB.out)⟩
                    ·rw [if_neg c55] at H
                     have c55b0 : decide ((rd y279 x72_4) ≤ x25_2) = false := decide_eq_false c55
                     clear c55
                     by_cases c56 : (rd y279 x72_4) ≥ (l1_0.length : Int)
                     ·rw [if_pos c56] at H
                      have c56b0 : decide ((l1_0.length : Int) ≤ (rd y279 x72_4)) = true := decide_eq_true c56
                      clear c56
                      obtain rfl := Option.some.inj H
                      have p282 : 0 ≤ (x72_4 : Int) := of_decide_eq_true zh
                      have q282 : x72_4 < (y279.length : Int) := of_decide_eq_true zh
                      obtain ⟨ad282, e282, hx282_0⟩ := Kd.at_int (Kd.R_reads' HO_70.out).2.2 x72_4 p282 q282
                      cases e282
                      replace p282 := eq_true p282
                      replace q282 := eq_true q282
                      go_wp2
                      go_ret
                      exact ⟨by first | rfl | (simp [errW_none, errW_some] <;> rfl) | (simp [*, errW_none, errW_some] <;> rfl), by repeat (first | (with_reducible first | exact HB.out | apply below_alloc | apply pw_below_drewN | apply below_drew1 | refine below_set ?_ GE268.out | refine below_set ?_ GE278.out) | exact HB.out)⟩
                     ·rw [if_neg c56] at H
                      have c56b0 : decide ((l1_0.length : Int) ≤ (rd y279 x72_4)) = false := decide_eq_false c56
                      clear c56
                      by_cases c57 : 0 ≤ (rd y279 x72_4)
                      ·rw [if_pos c57] at H
                       have c57b0 : decide (0 ≤ (rd y279 x72_4)) = true := decide_eq_true c57
                       clear c57
                       by_cases c58 : (rd y279 x72_4) < (x6_4.length : Int)
                       ·rw [if_pos c58] at H
                        have c58b0 : decide ((rd y279 x72_4) < (x6_4.length : Int)) = true := decide_eq_true c58
                        clear c58
                        obtain ⟨bq59, hbq59⟩ : ∃ b_ : Bool, b_ = (rdOf false x6_4 (rd y279 x72_4)) := ⟨_, rfl⟩
                        replace H : (if bq59 = true then (some false) else (solve_shape.l1 k4 l0 (l1_0.length : Int) (x6_4.set ((rd y279 x72_4) : Int).toNat true) x25_2 l1_0 (l1_0.length : Int) x25_2 y279 (y279.length : Int) (wrap64 (x72_4 + 1)))) = some r := by rw [← hbq59] at H; exact H
                        have Nbq59 := Aside0.mk hbq59
                        clear hbq59
                        by_cases c60 : bq59 = true
                        ·subst c60
                         have H1 : (some false) = some r := by rw [if_pos rfl] at H; exact H
                         clear H
                         have H := H1
                         clear H1
                         obtain rfl := Option.some.inj H
                         have p282 : 0 ≤ (x72_4 : Int) := of_decide_eq_true zh
                         have q282 : x72_4 < (y279.length : Int) := of_decide_eq_true zh
                         obtain ⟨ad282, e282, hx282_0⟩ := Kd.at_int (Kd.R_reads' HO_70.out).2.2 x72_4 p282 q282
                         cases e282
                         replace p282 := eq_true p282
                         replace q282 := eq_true q282
                         obtain ⟨Ao61, co61, eo61⟩ := Kd.R_slice HO_6.out
                         subst eo61
                         have p283 : 0 ≤ ((rd y279 x72_4) : Int) := of_decide_eq_true zh
                         have q283 : (rd y279 x72_4) < (x6_4.length : Int) := of_decide_eq_true zh
                         obtain ⟨ad283, e283, hx283_0⟩ := Kd.at_bool (Kd.R_reads' HO_6.out).2.2 (rd y279 x72_4) p283 q283
                         (try rw [← Nbq59.out] at hx283_0)
                         cases e283
                         replace p283 := eq_true p283
                         replace q283 := eq_true q283
                         go_wp2
                         go_ret
                         exact ⟨by first | rfl | (simp [errW_none, errW_some] <;> rfl) | (simp [*, errW_none, errW_some] <;> rfl), by repeat (first | (with_reducible first | exact HB.out | apply below_alloc | apply pw_below_drewN | apply below_drew1 | refine below_set ?_ GE268.out | refine below_set ?_ GE278.out) | exact HB.out)⟩
                        ·replace c60 := Bool.eq_false_iff.mpr c60
                         subst c60
                         have H1 : (solve_shape.l1 k4 l0 (l1_0.length : Int) (x6_4.set ((rd y279 x72_4) : Int).toNat true) x25_2 l1_0 (l1_0.length : Int) x25_2 y279 (y279.length : Int) (wrap64 (x72_4 + 1))) = some r := by rw [if_neg (show ¬ (false = true) by decide)] at H; exact H
                         clear H
                         have H := H1
                         clear H1
                         obtain ⟨y284, hy284⟩ : ∃ y_ : List Bool, y_ = (x6_4.set ((rd y279 x72_4) : Int).toNat true) := ⟨_, rfl⟩
                         replace H : (solve_shape.l1 k4 l0 (l1_0.length : Int) y284 x25_2 l1_0 (l1_0.length : Int) x25_2 y279 (y279.length : Int) (wrap64 (x72_4 + 1))) = some r := by first | (rw [hy284]; with_reducible exact H) | (have H2_ := (Option.bind_some _ _).symm.trans H; rw [hy284]; with_reducible exact H2_) | (have H2_ := (Option.bind_some _ _).symm.trans H; with_reducible exact H2_) | with_reducible exact H | (rw [hy284]; exact H) | exact H
                         have Ny284 := Aside0.mk hy284
                         clear hy284
                         have H' := Aside0.mk H
                         clear H
                         have p282 : 0 ≤ (x72_4 : Int) := of_decide_eq_true zh
                         have q282 : x72_4 < (y279.length : Int) := of_decide_eq_true zh
                         obtain ⟨ad282, e282, hx282_0⟩ := Kd.at_int (Kd.R_reads' HO_70.out).2.2 x72_4 p282 q282
                         cases e282
                         replace p282 := eq_true p282
                         replace q282 := eq_true q282
                         obtain ⟨Ao63, co63, eo63⟩ := Kd.R_slice HO_6.out
                         subst eo63
                         have p283 : 0 ≤ ((rd y279 x72_4) : Int) := of_decide_eq_true zh
                         have q283 : (rd y279 x72_4) < (x6_4.length : Int) := of_decide_eq_true zh
                         obtain ⟨ad283, e283, hx283_0⟩ := Kd.at_bool (Kd.R_reads' HO_6.out).2.2 (rd y279 x72_4) p283 q283
                         (try rw [← Nbq59.out] at hx283_0)
                         cases e283
                         replace p283 := eq_true p283
                         replace q283 := eq_true q283
                         have p62 : 0 ≤ ((rd y279 x72_4) : Int) := of_decide_eq_true zh
                         have q62 : ((rd y279 x72_4) : Int) < ((x6_4.length : Int) : Int) := of_decide_eq_true zh
                         obtain ⟨go62, co62, eo62, gb62, gl62, cl62, HG62⟩ := Kd.R_form HO_6.out (by omega)
                         (first | cases eo62 | (injection eo62 with ea_ en_ ec_; (first | subst ea_ | (injection ea_ with ea_; subst ea_)); subst ec_; clear en_))
                         have GB62 := Aside0.mk gb62
                         have GG62 := Aside0.mk HG62
                         clear gb62 gl62 HG62
                         (first | simp only [add_plain] at hx283_0 | skip)
                         obtain ⟨hx62_0, hf62_0⟩ := Kd.R_celln false HO_6.out ((rd y279 x72_4) : Int) p62 q62
                         replace p62 := eq_true p62
                         replace q62 := eq_true q62
                         have HP64 := Kd.R_putg HO_6.out ((rd y279 x72_4) : Int) true
                         go_wp2_with (first | ((with_reducible refine gate_store (t := 4) (p := 92) rfl ?_); refine store_event (t := 4) (p := 92) (v := ?vo_w65) (w1 := (wr.setCell ⟨go62, ((rd y279 x72_4) : Int).toNat, none⟩ (.bool true))) ?hg ?ho ?hn ?hr ?_; (case ho => rfl); (case hg => rfl); (case hn => rfl); (case hr => first | (go_simp; done) | (go_simp; rfl)); intro w65 hw; have hg : wr.grownBy w65 (some go62) := (by rw [hw]; exact HP64.2); have hp_ : Kd.R Kd.bool 4 w65 w.heap.size (fun _ => True) (.slice (some ⟨go62, 0, none⟩) x6_4.length co63) y284 := (by rw [hw, Ny284.out]; exact HP64.1); clear HP64; have n0_ := Aside0.mk (hp_); have n1_ := Aside0.mk (Kd.R_over' (v := (.slice (some ⟨go62, 0, none⟩) x6_4.length co63)) (zR HO_70) (Kd.R_typed HO_6.out) (by decide) hg); have n2_ := Aside0.mk (blk_grown (g := gb268) (o := .cells #[.slice (some ad277) l1_0.length c1_0] 27 (0, 0)) (zk BK268) hg (Kd.R_ne HO_6.out BK268.out (by decide))); have n3_ := Aside0.mk (blk_grown (g := gb278) (o := .cells #[.int .i64 ((rd_T35 l1_0 x25_2).f0), .int .i64 ((rd_T35 l1_0 x25_2).f1), .int .i64 ((rd_T35 l1_0 x25_2).f2), .int .i64 ((rd_T35 l1_0 x25_2).f3)] 35 (0, 0)) (zk BK278) hg (Kd.R_ne HO_6.out BK278.out (by decide))); have n4_ := Aside0.mk ((by rw [hw]; exact below_set (HB.out) GB62.out : Below w.heap.size w w65)); clear HO_6; clear HO_70; clear BK268; clear BK278; clear HB; have HO_6 := n0_; have HO_70 := n1_; have BK268 := n2_; have BK278 := n3_; have HB := n4_; clear n0_ n1_ n2_ n3_ n4_; clear hg hw hp_))
                         go_roundg k4
                         case measure => have := HJ4.out; have := HK2.out; have := HJ36.out; have := HK4.out; omega
                         case rel => exact ⟨(y284), (wrap64 (x72_4 + 1)), zT, H', ⟨by have := HJ4.out; have := HK2.out; have := HJ36.out; have := HK4.out; omega⟩, ⟨by (with_reducible repeat (first | apply Kd.R_alloc | apply Kd.R_drewN | apply Kd.R_drew)); exact HO_6.out⟩, ⟨by (with_reducible repeat (first | apply Kd.R_alloc | apply Kd.R_drewN | apply Kd.R_drew)); exact HO_70.out⟩, ⟨by (with_reducible repeat (first | refine blk_drewN ?_ _ | refine blk_drew ?_ | refine blk_alloc ?_ _)); exact BK268.out⟩, ⟨by (with_reducible repeat (first | refine blk_drewN ?_ _ | refine blk_drew ?_ | refine blk_alloc ?_ _)); exact BK278.out⟩, ⟨by repeat (first | (with_reducible first | exact HB.out | apply below_alloc | apply pw_below_drewN | apply below_drew1 | refine below_set ?_ GE268.out | refine below_set ?_ GE278.out) | exact HB.out)⟩⟩
                       ·rw [if_neg c58] at H
                        exact absurd H (by simp)
                      ·rw [if_neg c57] at H
                       exact absurd H (by simp)
                   ·rw [if_neg c54] at H
                    exact absurd H (by simp)
                  ·rw [if_neg c53] at H
                   exact absurd H (by simp)
                 ·rw [if_neg c52] at H
                  have c52b0 : decide (x72_4 < (y279.length : Int)) = false := decide_eq_false c52
                  clear c52
                  have H' := Aside0.mk H
                  clear H
                  go_wp2
                  go_roundg k4
                  case measure => have := HJ4.out; have := HK2.out; have := HJ36.out; have := HK4.out; omega
                  case rel => exact ⟨(x6_4), (wrap64 (x25_2 + 1)), zT, H', ⟨by have := HJ4.out; have := HK2.out; have := HJ36.out; have := HK4.out; omega⟩, ⟨by (with_reducible repeat (first | apply Kd.R_alloc | apply Kd.R_drewN | apply Kd.R_drew)); exact HO_6.out⟩, ⟨by (with_reducible repeat (first | refine blk_drewN ?_ _ | refine blk_drew ?_ | refine blk_alloc ?_ _)); exact BK268.out⟩, ⟨by repeat (first | (with_reducible first | exact HB.out | apply below_alloc | apply pw_below_drewN | apply below_drew1 | refine below_set ?_ GE268.out | refine below_set ?_ GE278.out) | exact HB.out)⟩⟩
          ·rw [if_neg c17] at H
           exact absurd H (by simp)
         ·rw [if_neg c16] at H
          exact absurd H (by simp)
        ·rw [if_neg c15] at H
         have c15b0 : decide (x25_2 < (l1_0.length : Int)) = false := decide_eq_false c15
         clear c15
         (first | rw [c15b0] | (simp only [i64_w, i32_w]; rw [c15b0]) | skip)
         by_cases c66 : 1 ≤ (x6_2.length : Int)
         ·rw [if_pos c66] at H
          have c66b0 := eq_true c66
          have c66b1 : decide (1 ≤ (x6_2.length : Int)) = true := decide_eq_true c66
          clear c66
          obtain ⟨y272, hy272⟩ : ∃ y_ : List Bool, y_ = (x6_2.drop 1) := ⟨_, rfl⟩
          replace H : ((slices_Contains_bool_bool.f k2 y272 false).bind fun t276 => (some (!t276))) = some r := by first | (rw [hy272]; with_reducible exact H) | (have H2_ := (Option.bind_some _ _).symm.trans H; rw [hy272]; with_reducible exact H2_) | (have H2_ := (Option.bind_some _ _).symm.trans H; with_reducible exact H2_) | with_reducible exact H | (rw [hy272]; exact H) | exact H
          have Ny272 := Aside0.mk hy272
          clear hy272
          replace H := Option.bind_eq_some_iff.mp H
          obtain ⟨t276, A670, H⟩ := H
          replace H : (some (!t276)) = some r := H
          have A67 := Aside0.mk A670
          clear A670
          obtain rfl := Option.some.inj H
          obtain ⟨Ao69, co69, eo69⟩ := Kd.R_slice HO_6.out
          subst eo69
          have q68 : (1 : Int) ≤ ((x6_2.length : Int) : Int) := of_decide_eq_true zh
          obtain ⟨i068, hi068, _, hsz68, _⟩ := info_parts info4
          have hroom68 : x6_2.length ≤ co69 := (Kd.R_reads' HO_6.out).2.1
          have hC68 : Kd.C Kd.bool _ Ao69 x6_2.length x6_2 := (Kd.R_reads' HO_6.out).2.2
          have hcut68 := cut_from (P := Try.prog) 76 4 .i64 Try.underlying76 hi068 1 hsz68 Ao69 x6_2.length co69 1 (by omega) q68
          have hr68 := Kd.C_drop (m := (1 : Int).toNat) (c := co69) hC68 (by omega) hroom68
          obtain ⟨A68, hA68⟩ : ∃ A1, A1 = (if co69 = (1 : Int).toNat then Ao69 else (Ao69 : Option Addr).map (·.add ((1 : Int).toNat * 1))) := ⟨_, rfl⟩
          obtain ⟨c68, hc68⟩ : ∃ c1, c1 = co69 - (1 : Int).toNat := ⟨_, rfl⟩
          have hy68 : y272.length = x6_2.length - (1 : Int).toNat := (by rw [Ny272.out, List.length_drop] <;> omega)
          rw [show (x6_2).drop (1 : Int).toNat = y272 from Ny272.out.symm] at hr68
          replace hr68 : Kd.C Kd.bool _ A68 y272.length y272 := (by rw [hA68]; exact hr68)
          rw [← hy68, ← hA68, ← hc68] at hcut68
          have HR275 := Aside0.mk hr68
          have HC275 := Aside0.mk (show y272.length ≤ c68 from by rw [hy68, hc68]; exact Nat.sub_le_sub_right hroom68 _)
          clear hr68 hC68 hroom68 hi068 hsz68 hc68
          have KY68 := Aside0.mk hy68
          have KA68 := Aside0.mk hA68
          clear hy68 hA68
          have KL68 := Aside0.mk (show 1 ≤ x6_2.length from by omega)
          replace q68 := eq_true q68
          go_wp2_with (first | ((with_reducible refine gate_callee (f := 91) rfl ?_); refine goesL_ (some 97) rfl rfl Try.func91 zK rfl #[.slice A68 y272.length c68, .bool false] rfl zM ?_; (with_reducible refine (slices_Contains_bool_bool.calls k2 _ _ y272 false t276 _ ?side1 ?side2 A67.out).mono ?_); (case side1 => repeat (first | exact (by repeat (first | (with_reducible exact HR275.out) | (with_reducible refine Kd.C_alloc ?_ _) | (with_reducible refine Kd.C_drewN ?_ _) | (with_reducible refine Kd.C_drew ?_) | exact HR275.out)) | (with_reducible refine Kd.C_alloc ?_ _) | (with_reducible refine Kd.C_drewN ?_ _) | (with_reducible refine Kd.C_drew ?_))); (case side2 => exact HC275.out); rintro e w' ⟨rfl, ⟨nd, rfl⟩⟩; refine ⟨_, rfl, ?_⟩))
          go_ret
          exact ⟨by first | rfl | (simp [errW_none, errW_some] <;> rfl) | (simp [*, errW_none, errW_some] <;> rfl), by repeat (first | (with_reducible first | exact HB.out | apply below_alloc | apply pw_below_drewN | apply below_drew1 | refine below_set ?_ GE268.out) | exact HB.out)⟩
         ·rw [if_neg c66] at H
          exact absurd H (by simp)
     ·rw [if_neg c10] at H
      exact absurd H (by simp)
    ·rw [if_neg c9] at H
     exact absurd H (by simp)
end Go.Proofs.Ytbagnalcabdlhaa.S
