-- Written by wip/tools/myprint.py, a program of this session's.
import Derived.Test.YtbagnalcabdlhaaS0
import Derived.Test.YtbagnalcabdlhaaS1
import Derived.Test.YtbagnalcabdlhaaS4
import Derived.Test.YtbagnalcabdlhaaS6
import Derived.Test.YtbagnalcabdlhaaS7
import Derived.Test.YtbagnalcabdlhaaS8
import Derived.Test.YtbagnalcabdlhaaS10
import Derived.Test.YtbagnalcabdlhaaS15
import Derived.Test.YtbagnalcabdlhaaS18
namespace Go.Proofs.Ytbagnalcabdlhaa.S
open Go.RowKit Go.Proofs.YtbagnalcabdlhaaW.PrintWords Go.Proofs.YtbagnalcabdlhaaW.PrintLast Go.Proofs.YtbagnalcabdlhaaW.PrintMore
attribute [local go_sem] max2_int min2_int max_two min_two max_three min_three max_four min_four   -- for this text's walks alone
set_option linter.unusedVariables false
set_option linter.unusedSimpArgs false
attribute [local go_sem high] eqA35
/-! ### ancepsref40_split: function 52 -/
mutual
def ancepsref40_split.l0 : Nat → List (S61) → List Int → List (S35) → Int → Int → Int → Option ((List (S35)))
 | 0, _, _, _, _, _, _ => none
 | k + 1, x0, x1, x3, x9, x520000, x520001 => if x9 < (x0.length : Int) then (if 0 ≤ x9 then ((ancepsref40_fails.f k ((rd_T61 x0 x9).f0) ((rd_T61 x0 x9).f1) x520000 x520001).bind fun t521 => (if t521 = true then (if x3.length < 4398046511104 then (some (x3 ++ [(⟨(-1), 0, 0, x9⟩ : S35)])) else (none)) else (ancepsref40_split.l0 k x0 x1 x3 (wrap64 (x9 + 1)) x520000 x520001))) else (none)) else (if 0 < (x1.length : Int) then (if x3.length < 4398046511104 then (if 1 ≤ (x1.length : Int) then ((ancepsref40_choices_with.f x520000 x520001 (rd x1 0) 0).bind fun bt531 => ((ancepsref40_split.f k x0 (x1.drop 1) bt531.1 bt531.2 (x3 ++ [(⟨rd x1 0, wrap64 ((x3.length : Int) + 1), 0, 0⟩ : S35)])).bind fun t533 => (if 0 ≤ (x3.length : Int) then (if (x3.length : Int) < (t533.length : Int) then ((ancepsref40_choices_with.f x520000 x520001 (rd x1 0) 1).bind fun bt539 => ((ancepsref40_split.f k x0 (x1.drop 1) bt539.1 bt539.2 (t533.set ((x3.length : Int) : Int).toNat (⟨(rd_T35 t533 (x3.length : Int)).f0, (rd_T35 t533 (x3.length : Int)).f1, (t533.length : Int), (rd_T35 t533 (x3.length : Int)).f3⟩ : S35))).bind fun t541 => (some t541))) else (none)) else (none)))) else (none)) else (none)) else (none))
def ancepsref40_split.f : Nat → List (S61) → List Int → Int → Int → List (S35) → Option ((List (S35)))
 | 0, _, _, _, _, _ => none
 | k + 1, l0, l1, a2_0, a2_1, l3 => if (l3.length : Int) > 2000 then (some l3) else (ancepsref40_split.l0 k l0 l1 l3 0 a2_0 a2_1)
end
theorem ancepsref40_split.mono_l : ∀ k, (∀ y0 y1 y2 y3 y4, LeO (ancepsref40_split.f k y0 y1 y2 y3 y4) (ancepsref40_split.f (k + 1) y0 y1 y2 y3 y4)) ∧ (∀ y0 y1 y2 y3 y4 y5, LeO (ancepsref40_split.l0 k y0 y1 y2 y3 y4 y5) (ancepsref40_split.l0 (k + 1) y0 y1 y2 y3 y4 y5))
 | 0 => ⟨fun _ _ _ _ _ r h => by simp [ancepsref40_split.f] at h, fun _ _ _ _ _ _ r h => by simp [ancepsref40_split.l0] at h⟩
 | k + 1 => by
  obtain ⟨ih0, ih1⟩ := ancepsref40_split.mono_l k
  refine ⟨?_, ?_⟩
  ·intro y0 y1 y2 y3 y4
   unfold ancepsref40_split.f
   repeat' first
   | (with_reducible exact ih0 _ _ _ _ _)
   | (with_reducible exact ih1 _ _ _ _ _ _)
   | (with_reducible exact ancepsref40_fails.mono _ _ _ _ _)
   | (with_reducible exact LeO.refl _)
   | (with_reducible exact LeO.none _)
   | (with_reducible refine LeO.ite ?_ ?_)
   | (with_reducible refine LeO.bind ?_ (fun _ => ?_))
   | exact ih0 _ _ _ _ _
   | exact ih1 _ _ _ _ _ _
   | exact ancepsref40_fails.mono _ _ _ _ _
   | exact LeO.none _
   | refine LeO.ite ?_ ?_
   | refine LeO.bind ?_ (fun _ => ?_)
  ·intro y0 y1 y2 y3 y4 y5
   unfold ancepsref40_split.l0
   repeat' first
   | (with_reducible exact ih0 _ _ _ _ _)
   | (with_reducible exact ih1 _ _ _ _ _ _)
   | (with_reducible exact ancepsref40_fails.mono _ _ _ _ _)
   | (with_reducible exact LeO.refl _)
   | (with_reducible exact LeO.none _)
   | (with_reducible refine LeO.ite ?_ ?_)
   | (with_reducible refine LeO.bind ?_ (fun _ => ?_))
   | exact ih0 _ _ _ _ _
   | exact ih1 _ _ _ _ _ _
   | exact ancepsref40_fails.mono _ _ _ _ _
   | exact LeO.none _
   | refine LeO.ite ?_ ?_
   | refine LeO.bind ?_ (fun _ => ?_)
theorem ancepsref40_split.mono : ∀ a0 a1 a2 a3 a4 k, LeO (ancepsref40_split.f k a0 a1 a2 a3 a4) (ancepsref40_split.f (k + 1) a0 a1 a2 a3 a4) := by
 intro a0 a1 a2 a3 a4 k
 obtain ⟨ih0, ih1⟩ := ancepsref40_split.mono_l k
 exact ih0 a0 a1 a2 a3 a4
def ancepsref40_split.T10 : Bool × List (List Nat × List Nat) := (true, [([], []), ([], []), ([1], [1]), ([], []), ([], []), ([4], [4]), ([5], [5]), ([3, 6], [3, 6]), ([], []), ([0, 2, 7, 8, 7], [0, 2, 7, 8]), ([9, 9, 0, 1, 2, 3, 4, 5, 6, 7, 8, 9], [8, 9])])
def ancepsref40_split.B10 : List Nat := [0, 0, 2, 0, 0, 16, 48, 120, 0, 511, 1023]
theorem ancepsref40_split.tab10 : rtab .any (opsOf Try.f52 10) = ancepsref40_split.T10 := by kernel_rfl
theorem ancepsref40_split.bits10 : waitsOk ancepsref40_split.T10.2 ancepsref40_split.B10 = true := by kernel_rfl
def ancepsref40_split.T12 : Bool × List (List Nat × List Nat) := (true, [([], []), ([], []), ([1], [1]), ([], []), ([], []), ([4], [4]), ([5], [5]), ([3, 6], [3, 6]), ([], []), ([0, 2, 7, 8, 7], [0, 2, 7, 8]), ([9, 9, 0, 1, 2, 3, 4, 5, 6, 7, 8, 9], [9])])
def ancepsref40_split.B12 : List Nat := [0, 0, 2, 0, 0, 16, 48, 120, 0, 511, 1023]
theorem ancepsref40_split.tab12 : rtab .any (opsOf Try.f52 12) = ancepsref40_split.T12 := by kernel_rfl
theorem ancepsref40_split.bits12 : waitsOk ancepsref40_split.T12.2 ancepsref40_split.B12 = true := by kernel_rfl
set_option maxHeartbeats 8000000 in
set_option maxRecDepth 100000 in
theorem ancepsref40_split.calls (k : Nat) : ∀ (A0 : Option Addr) (c0 : Nat) (l0 : List (S61)) (A1 : Option Addr) (c1 : Nat) (l1 : List Int) (a2_0 : Int) (a2_1 : Int) (P3_ : Nat → Prop) (u9000_ : Value) (l3 : List (S35)) (r : List (S35)) (w0 w : World) (hB : Below w0.heap.size w0 w) (hr0 : ∀ W_, Kept w W_ (fun k_ => P3_ k_) → Kd.C k61 W_ A0 l0.length l0) (hc0 : l0.length ≤ c0) (hr1 : ∀ W_, Kept w W_ (fun k_ => P3_ k_) → Kd.C (Kd.int .i64) W_ A1 l1.length l1) (hc1 : l1.length ≤ c1) (ho3 : Kd.R k35 35 w w0.heap.size P3_ u9000_ l3) (h : ancepsref40_split.f k l0 l1 a2_0 a2_1 l3 = some r),
  Calls Try.prog 52 #[.slice A0 l0.length c0, .slice A1 l1.length c1, .agg #[.int .i64 a2_0, .int .i64 a2_1], u9000_] w fun e w' => ∃ v0_ : Value, e = .returned (v0_) ∧ Kd.R k35 35 w' w0.heap.size (fun k_ => (P3_ k_ ∨ w.heap.size ≤ k_)) v0_ r ∧ Below w0.heap.size w0 w' ∧ Kept w w' (fun k_ => P3_ k_) := by
 induction k using Nat.strongRecOn with
 | _ k ih =>
 intro A0 c0 l0 A1 c1 l1 a2_0 a2_1 P3_ u9000_ l3 r w0 w hB hr0 hc0 hr1 hc1 ho3 h
 cases k with
 | zero => exact absurd h (by simp [ancepsref40_split.f])
 | succ k =>
 simp only [ancepsref40_split.f] at h
 have hu74 := Try.underlying74
 have hu61 := Try.underlying61
 have hu35 := Try.underlying35
 have hu3 := Try.underlying3
 have HR0 := Aside0.mk hr0
 have HC0 := Aside0.mk hc0
 clear hr0 hc0
 have HR1 := Aside0.mk hr1
 have HC1 := Aside0.mk hc1
 clear hr1 hc1
 have HO3 := Aside0.mk (show Kd.R k35 35 w w0.heap.size (fun k_ => (P3_ k_ ∨ w.heap.size ≤ k_)) u9000_ l3 from Kd.R_mono ho3 (fun k_ hk => (.inl hk)))
 have HK := Aside0.mk (Kept.refl w (fun k_ => P3_ k_))
 have HW0 := Aside0.mk hB.size
 have HB := Aside0.mk hB
 clear hB
 have H : (if (l3.length : Int) > 2000 then (some l3) else (ancepsref40_split.l0 k l0 l1 l3 0 a2_0 a2_1)) = some r := h
 clear h
 have HC5 := Aside0.mk H
 clear H
 go_enter Try.func52, Try.ntmps52
 go_upto_if 13 with (first | ((with_reducible refine gate_dst (N := 6) rfl ?_); refine box_event ?hg (N := 6) ?hd (cs := #[.int .i64 a2_0, .int .i64 a2_1]) (t := 74) ?hr ?_; (case hd => rfl); (case hg => rfl); (case hr => first | (go_simp; done) | (go_simp; rfl)); intro gb519 hg w6 hbox hb; have n0_ := Aside0.mk (Kd.R_below (zR HO3) hb); have n1_ := Aside0.mk (Kept.below (S := (fun k_ => P3_ k_)) (by repeat (first | (with_reducible first | exact HK.out | apply Kept.alloc | apply Kept.drewN | apply Kept.drew) | exact HK.out)) hb); have n2_ := Aside0.mk (below_step zB hb); have n3_ := Aside0.mk (hbox); have n4_ := Aside0.mk ((by rw [hg]; exact (by first | exact HK.out.1 | exact (show Kept w _ (fun k_ => P3_ k_) from by repeat (first | (with_reducible first | exact HK.out | apply Kept.alloc | apply Kept.drewN | apply Kept.drew) | exact HK.out)).1) : w.heap.size ≤ gb519)); have n5_ := Aside0.mk ((by rw [hg]; exact (below_size zB) : w0.heap.size ≤ gb519)); clear HO3; clear HK; clear HB; have HO3 := n0_; have HK := n1_; have HB := n2_; have BK519 := n3_; have GW519 := n4_; have GE519 := n5_; clear n0_ n1_ n2_ n3_ n4_ n5_; clear hb hbox hg; obtain ⟨Ao7, co7, eo7⟩ := Kd.R_slice HO3.out; subst eo7))
 (try simp only [Act.put, List.setIfInBounds_toArray, List.set_cons_zero, List.set_cons_succ])
 have H := HC5.out
 clear HC5
 by_cases c8 : (l3.length : Int) > 2000
 ·rw [if_pos c8] at H
  have c8b0 : decide (2000 < (l3.length : Int)) = true := decide_eq_true c8
  have c8b1 : decide (2000 < l3.length) = true := decide_eq_true (by omega)
  clear c8
  (first | rw [c8b0] | (simp only [i64_w, i32_w]; rw [c8b0]) | skip)
  (try rw [c8b1])
  obtain rfl := Option.some.inj H
  go_wp2
  go_ret
  exact ⟨_, by first | rfl | (simp [errW_none, errW_some] <;> rfl) | (simp [*, errW_none, errW_some] <;> rfl), by (with_reducible repeat (first | apply Kd.R_alloc | apply Kd.R_drewN | apply Kd.R_drew)); exact HO3.out, by repeat (first | (with_reducible first | exact HB.out | apply below_alloc | apply pw_below_drewN | apply below_drew1 | refine below_set ?_ GE519.out) | exact HB.out), by repeat (first | (with_reducible first | exact HK.out | apply Kept.alloc | apply Kept.drewN | apply Kept.drew | refine Kept.setCell ?_ (.inr GW519.out) _) | exact HK.out)⟩
 ·rw [if_neg c8] at H
  have c8b0 : decide (2000 < (l3.length : Int)) = false := decide_eq_false c8
  have c8b1 : decide (2000 < l3.length) = false := decide_eq_false (by omega)
  clear c8
  (first | rw [c8b0] | (simp only [i64_w, i32_w]; rw [c8b0]) | skip)
  (try rw [c8b1])
  have H' := Aside0.mk H
  clear H
  go_wp2
  go_loopg [9] k (fun kq v9 w' => ∃ (x9_1 : Int), v9 = .int .i64 x9_1 ∧ Aside0 (ancepsref40_split.l0 kq l0 l1 l3 x9_1 a2_0 a2_1 = some r) ∧ Aside0 (kq ≤ k) ∧ Aside0 (Kd.R k35 35 w' w0.heap.size (fun k_ => (P3_ k_ ∨ w.heap.size ≤ k_)) (.slice Ao7 l3.length co7) l3) ∧ Aside0 (w'.heap[gb519]? = some (.cells #[.int .i64 a2_0, .int .i64 a2_1] 74 (0, 0))) ∧ Aside0 (Kept w w' (fun k_ => P3_ k_)) ∧ Aside0 (Below w0.heap.size w0 w'))
  case atStart => exact ⟨(0), zT, H', ⟨Nat.le_refl _⟩, ⟨by (with_reducible repeat (first | apply Kd.R_alloc | apply Kd.R_drewN | apply Kd.R_drew)); exact HO3.out⟩, ⟨by (with_reducible repeat (first | refine blk_drewN ?_ _ | refine blk_drew ?_ | refine blk_alloc ?_ _)); exact BK519.out⟩, ⟨by repeat (first | (with_reducible first | exact HK.out | apply Kept.alloc | apply Kept.drewN | apply Kept.drew | refine Kept.setCell ?_ (.inr GW519.out) _) | exact HK.out)⟩, ⟨by repeat (first | (with_reducible first | exact HB.out | apply below_alloc | apply pw_below_drewN | apply below_drew1 | refine below_set ?_ GE519.out) | exact HB.out)⟩⟩
  case round =>
   clear H'
   try clear c8
   try clear c8b0
   try clear c8b1
   obtain ⟨x9_1, rfl, HA, HK1, HO_3, BK519, HK, HB⟩ := hrel
   cases gk with
   | zero => exact absurd HA.out (by simp [ancepsref40_split.l0])
   | succ k1 =>
    have H := HA.out
    clear HA
    simp only [ancepsref40_split.l0] at H
    by_cases c9 : x9_1 < (l0.length : Int)
    ·rw [if_pos c9] at H
     have c9b0 : decide (x9_1 < (l0.length : Int)) = true := decide_eq_true c9
     clear c9
     by_cases c10 : 0 ≤ x9_1
     ·rw [if_pos c10] at H
      have c10b0 : decide (0 ≤ x9_1) = true := decide_eq_true c10
      clear c10
      replace H := Option.bind_eq_some_iff.mp H
      obtain ⟨t521, A110, H⟩ := H
      replace H : (if t521 = true then (if l3.length < 4398046511104 then (some (l3 ++ [(⟨(-1), 0, 0, x9_1⟩ : S35)])) else (none)) else (ancepsref40_split.l0 k1 l0 l1 l3 (wrap64 (x9_1 + 1)) a2_0 a2_1)) = some r := H
      have A11 := Aside0.mk A110
      clear A110
      have HC12 := Aside0.mk H
      clear H
      try go_wp2
      have n0_ := Aside0.mk (Kd.R_drew HO_3.out)
      have n1_ := Aside0.mk (blk_drew BK519.out)
      have n2_ := Aside0.mk (Kept.drew HK.out)
      have n3_ := Aside0.mk (below_drew1 HB.out)
      clear HO_3
      clear BK519
      clear HK
      clear HB
      have HO_3 := n0_
      have BK519 := n1_
      have HK := n2_
      have HB := n3_
      clear n0_ n1_ n2_ n3_
      have p520 : 0 ≤ (x9_1 : Int) := of_decide_eq_true zh
      have q520 : x9_1 < (l0.length : Int) := of_decide_eq_true zh
      obtain ⟨ad520, A520_0, c520_0, A520_1, c520_1, e520, hx520_0, hx520_1, hl520_0, hi520_0, hl520_1, hi520_1⟩ := at_T61 (Kd.C_kept_now HR0.out HK.out) x9_1 p520 q520
      have hw520_1 := hx520_1
      have hw520_0 := hx520_0
      cases e520
      have HR520_0 := Aside0.mk hi520_0
      have HC520_0 := Aside0.mk hl520_0
      clear hi520_0 hl520_0
      have HR520_1 := Aside0.mk hi520_1
      have HC520_1 := Aside0.mk hl520_1
      clear hi520_1 hl520_1
      replace p520 := eq_true p520
      replace q520 := eq_true q520
      refine start_ (n := 6) (S := fun w' => w'.cell? ⟨gb519, 0, none⟩ = some (.int .i64 a2_0) ∧ w'.cell? ⟨gb519, 1, none⟩ = some (.int .i64 a2_1) ∧ w'.cell? (ad520.add ((x9_1).toNat * 2)) = some (.slice A520_0 ((rd_T61 l0 x9_1).f0).length c520_0) ∧ w'.cell? ⟨(ad520.add ((x9_1).toNat * 2)).block, (ad520.add ((x9_1).toNat * 2)).off + 1, none⟩ = some (.slice A520_1 ((rd_T61 l0 x9_1).f1).length c520_1)) (ds := []) #[false, false, false, false, false, false] zK rfl rfl ⟨(blk_cell BK519.out 0).trans rfl, (blk_cell BK519.out 1).trans rfl, hx520_0, hx520_1⟩ (fun hHeld => ?_)
      generalize wr.drew = w13 at HO_3 BK519 HK HB HR520_0 HR520_1 hx520_0 hx520_1 hHeld ⊢
      refine pure_ (i := 0) (N := some 21) (v := ?_) (a' := ?_) #[true, false, false, false, false, false] rfl rfl zK (fun _ _ _ h => h) (Or.inl ⟨by rfl, ?_⟩) ?_ ?_
      rotate_left
      ·intro w'
       go_simp
       with_reducible rfl
      rotate_left
      ·simp only [Act.put, List.setIfInBounds_toArray, List.set_cons_zero, List.set_cons_succ, i64_w, i32_w]
       rfl
      refine pure_ (i := 1) (N := some 22) (v := ?_) (a' := ?_) #[true, true, false, false, false, false] rfl rfl zK (fun _ _ _ h => h) (Or.inl ⟨by rfl, ?_⟩) ?_ ?_
      rotate_left
      ·intro w'
       go_simp
       with_reducible rfl
      rotate_left
      ·simp only [Act.put, List.setIfInBounds_toArray, List.set_cons_zero, List.set_cons_succ, i64_w, i32_w]
       rfl
      refine pure_ (i := 2) (N := some 23) (v := ?_) (a' := ?_) #[true, true, true, false, false, false] rfl rfl zK (fun _ _ _ h => h) (Or.inl ⟨by rfl, ?_⟩) ?_ ?_
      rotate_left
      ·intro w'
       go_simp
       with_reducible rfl
      rotate_left
      ·simp only [Act.put, List.setIfInBounds_toArray, List.set_cons_zero, List.set_cons_succ, i64_w, i32_w]
       rfl
      refine take_ (i := 3) (N := some 24) (v := ?_) (a' := ?_) #[true, true, true, true, false, false] rfl rfl zK (fun _ _ _ h => h) (Or.inl ⟨by rfl, ?_⟩) hHeld ?_ ?_
      rotate_left
      ·rintro w' ⟨s0, s1, s2, s3⟩
       go_simp
       with_reducible rfl
      rotate_left
      ·simp only [Act.put, List.setIfInBounds_toArray, List.set_cons_zero, List.set_cons_succ, i64_w, i32_w]
       rfl
      refine take_ (i := 4) (N := some 25) (v := ?_) (a' := ?_) #[true, true, true, true, true, false] rfl rfl zK (fun _ _ _ h => h) (Or.inl ⟨by rfl, ?_⟩) hHeld ?_ ?_
      rotate_left
      ·rintro w' ⟨s0, s1, s2, s3⟩
       go_simp
       with_reducible rfl
      rotate_left
      ·simp only [Act.put, List.setIfInBounds_toArray, List.set_cons_zero, List.set_cons_succ, i64_w, i32_w]
       rfl
      refine one_ (i := 5) (N := some 26) #[true, true, true, true, true, true] rfl rfl zK (by decide) (fun K hK => ?_)
      refine goes_ Try.func89 zK rfl #[.agg #[.slice A520_0 ((rd_T61 l0 x9_1).f0).length c520_0, .slice A520_1 ((rd_T61 l0 x9_1).f1).length c520_1], .agg #[.int .i64 a2_0, .int .i64 a2_1]] (by rfl) rfl rfl zM ?_
      with_reducible refine (ancepsref40_fails.calls k1 _ _ ((rd_T61 l0 x9_1).f0) _ _ ((rd_T61 l0 x9_1).f1) a2_0 a2_1 t521 _ ?side1 ?side2 ?side3 ?side4 A11.out).mono ?_
      (case side1 => repeat (first | exact (by repeat (first | (with_reducible exact HR520_0.out) | (with_reducible refine Kd.C_alloc ?_ _) | (with_reducible refine Kd.C_drewN ?_ _) | (with_reducible refine Kd.C_drew ?_) | exact HR520_0.out)) | (with_reducible refine Kd.C_alloc ?_ _) | (with_reducible refine Kd.C_drewN ?_ _) | (with_reducible refine Kd.C_drew ?_)))
      (case side2 => exact HC520_0.out)
      (case side3 => repeat (first | exact (by repeat (first | (with_reducible exact HR520_1.out) | (with_reducible refine Kd.C_alloc ?_ _) | (with_reducible refine Kd.C_drewN ?_ _) | (with_reducible refine Kd.C_drew ?_) | exact HR520_1.out)) | (with_reducible refine Kd.C_alloc ?_ _) | (with_reducible refine Kd.C_drewN ?_ _) | (with_reducible refine Kd.C_drew ?_)))
      (case side4 => exact HC520_1.out)
      rintro e w14 ⟨rfl, hb⟩
      have HS2_ := (hb.cell (World.block_lt_of_cell? _ _ (hHeld.2.2.1))).trans (hHeld.2.2.1)
      have HS3_ := (hb.cell (World.block_lt_of_cell? _ _ (hHeld.2.2.2))).trans (hHeld.2.2.2)
      refine ⟨_, rfl, ?_⟩
      have n0_ := Aside0.mk (Kd.R_below (zR HO_3) hb)
      have n1_ := Aside0.mk (blk_below (g := gb519) (o := .cells #[.int .i64 a2_0, .int .i64 a2_1] 74 (0, 0)) (zk BK519) hb)
      have n2_ := Aside0.mk (Kd.C_below (by repeat (first | (with_reducible exact HR520_0.out) | (with_reducible refine Kd.C_alloc ?_ _) | (with_reducible refine Kd.C_drewN ?_ _) | (with_reducible refine Kd.C_drew ?_) | exact HR520_0.out)) hb)
      have n3_ := Aside0.mk (Kd.C_below (by repeat (first | (with_reducible exact HR520_1.out) | (with_reducible refine Kd.C_alloc ?_ _) | (with_reducible refine Kd.C_drewN ?_ _) | (with_reducible refine Kd.C_drew ?_) | exact HR520_1.out)) hb)
      have n4_ := Aside0.mk (Kept.below (S := (fun k_ => P3_ k_)) (by repeat (first | (with_reducible first | exact HK.out | apply Kept.alloc | apply Kept.drewN | apply Kept.drew | refine Kept.setCell ?_ (.inr GW519.out) _) | exact HK.out)) hb)
      have n5_ := Aside0.mk (below_step zB hb)
      clear HO_3
      clear BK519
      clear HR520_0
      clear HR520_1
      clear HK
      clear HB
      have HO_3 := n0_
      have BK519 := n1_
      have HR520_0 := n2_
      have HR520_1 := n3_
      have HK := n4_
      have HB := n5_
      clear n0_ n1_ n2_ n3_ n4_ n5_
      (try clear hb)
      (try clear hb2)
      (try clear hk)
      (try clear hi)
      refine hK.out _ _ ⟨(blk_cell BK519.out 0).trans rfl, (blk_cell BK519.out 1).trans rfl, HS2_, HS3_⟩ (fun hHeld => ?_)
      clear hK K
      refine norm_ (a' := ?_) ?_ ?_
      rotate_left
      ·show Act.put _ (some 26) _ = _
       simp only [Act.put, List.setIfInBounds_toArray, List.set_cons_zero, List.set_cons_succ, i64_w, i32_w]
       rfl
      refine done_ zK ?_
      go_upto_if 26 with (fail)
      (try simp only [Act.put, List.setIfInBounds_toArray, List.set_cons_zero, List.set_cons_succ])
      have H := HC12.out
      clear HC12
      by_cases c15 : t521 = true
      ·subst c15
       have H1 : (if l3.length < 4398046511104 then (some (l3 ++ [(⟨(-1), 0, 0, x9_1⟩ : S35)])) else (none)) = some r := by rw [if_pos rfl] at H; exact H
       clear H
       have H := H1
       clear H1
       by_cases c16 : l3.length < 4398046511104
       ·rw [if_pos c16] at H
        have LMc16 := Aside0.mk c16
        clear c16
        obtain ⟨y522, hy522⟩ : ∃ y_ : List (S35), y_ = (l3 ++ [(⟨(-1), 0, 0, x9_1⟩ : S35)]) := ⟨_, rfl⟩
        replace H : (some y522) = some r := by first | (rw [hy522]; with_reducible exact H) | (have H2_ := (Option.bind_some _ _).symm.trans H; rw [hy522]; with_reducible exact H2_) | (have H2_ := (Option.bind_some _ _).symm.trans H; with_reducible exact H2_) | with_reducible exact H | (rw [hy522]; exact H) | exact H
        have Ny522 := Aside0.mk hy522
        clear hy522
        obtain rfl := Option.some.inj H
        go_wp2_with (first | ((with_reducible refine gate_builtin (b := .append) (xs := #[.tmp 27, .tmp 30]) rfl ?_); at_builtin; refine Kd.R_append k35 (w0 := w0) w0.heap.size rfl (.tmp 27) (.tmp 30) 25 35 (.agg #[(.int .i64 0), (.int .i64 0), (.int .i64 0), (.int .i64 0)]) 32 rfl Try.underlying25 info35 rfl (by decide) (by omega) (.slice Ao7 l3.length co7) l3 (⟨(-1), 0, 0, x9_1⟩ : S35) [.int .i64 (-1), .int .i64 0, .int .i64 0, .int .i64 x9_1] (fun k_ => (P3_ k_ ∨ w.heap.size ≤ k_)) (fun _ => False) rfl rfl ?aP (fun _ hk => hk.elim) ?aF ?aO ?aB ?aS ?aL ?_; (case aP => exact k35_mkM _ _ _ (⟨(-1), 0, 0, x9_1⟩ : S35)); (case aB => exact zB); (case aF => exact (fun k_ hk => (.inr (Nat.le_trans (by first | exact HK.out.1 | exact (show Kept w _ (fun k_ => P3_ k_) from by repeat (first | (with_reducible first | exact HK.out | apply Kept.alloc | apply Kept.drewN | apply Kept.drew | refine Kept.setCell ?_ (.inr GW519.out) _) | exact HK.out)).1) hk)))); (case aO => exact (zR HO_3)); (case aS => exact (below_size zB)); (case aL => have := LMc16.out; omega); intro v523 w17 ho hb hg hat; rw [← Ny522.out] at ho; have n0_ := Aside0.mk (blk_grown (g := gb519) (o := .cells #[.int .i64 a2_0, .int .i64 a2_1] 74 (0, 0)) (zk BK519) hg (Kd.R_ne HO_3.out BK519.out (by decide))); have n1_ := Aside0.mk (hb); have n2_ := Aside0.mk (Kept.of_grown (S := (fun k_ => P3_ k_)) hg (by repeat (first | (with_reducible first | exact HK.out | apply Kept.alloc | apply Kept.drewN | apply Kept.drew | refine Kept.setCell ?_ (.inr GW519.out) _) | exact HK.out)) (fun k_ e_ => (HO_3.out.1 k_ e_))); have n3_ := Aside0.mk (ho); clear BK519; clear HB; clear HK; clear HO_3; have BK519 := n0_; have HB := n1_; have HK := n2_; have HO524 := n3_; clear n0_ n1_ n2_ n3_; clear ho hb hg hat))
        go_ret
        exact ⟨_, by first | rfl | (simp [errW_none, errW_some] <;> rfl) | (simp [*, errW_none, errW_some] <;> rfl), by (with_reducible repeat (first | apply Kd.R_alloc | apply Kd.R_drewN | apply Kd.R_drew)); exact HO524.out, by repeat (first | (with_reducible first | exact HB.out | apply below_alloc | apply pw_below_drewN | apply below_drew1 | refine below_set ?_ GE519.out) | exact HB.out), by repeat (first | (with_reducible first | exact HK.out | apply Kept.alloc | apply Kept.drewN | apply Kept.drew | refine Kept.setCell ?_ (.inr GW519.out) _) | exact HK.out)⟩
       ·rw [if_neg c16] at H
        exact absurd H (by simp)
      ·replace c15 := Bool.eq_false_iff.mpr c15
       subst c15
       have H1 : (ancepsref40_split.l0 k1 l0 l1 l3 (wrap64 (x9_1 + 1)) a2_0 a2_1) = some r := by rw [if_neg (show ¬ (false = true) by decide)] at H; exact H
       clear H
       have H := H1
       clear H1
       have H' := Aside0.mk H
       clear H
       go_wp2
       go_roundg k1
       case measure => have := HK1.out; omega
       case rel => exact ⟨(wrap64 (x9_1 + 1)), zT, H', ⟨by have := HK1.out; omega⟩, ⟨by (with_reducible repeat (first | apply Kd.R_alloc | apply Kd.R_drewN | apply Kd.R_drew)); exact HO_3.out⟩, ⟨by (with_reducible repeat (first | refine blk_drewN ?_ _ | refine blk_drew ?_ | refine blk_alloc ?_ _)); exact BK519.out⟩, ⟨by repeat (first | (with_reducible first | exact HK.out | apply Kept.alloc | apply Kept.drewN | apply Kept.drew | refine Kept.setCell ?_ (.inr GW519.out) _) | exact HK.out)⟩, ⟨by repeat (first | (with_reducible first | exact HB.out | apply below_alloc | apply pw_below_drewN | apply below_drew1 | refine below_set ?_ GE519.out) | exact HB.out)⟩⟩
     ·rw [if_neg c10] at H
      exact absurd H (by simp)
    ·rw [if_neg c9] at H
     have c9b0 : decide (x9_1 < (l0.length : Int)) = false := decide_eq_false c9
     clear c9
     by_cases c18 : 0 < (l1.length : Int)
     ·rw [if_pos c18] at H
      have c18b0 : decide (0 < (l1.length : Int)) = true := decide_eq_true c18
      have c18b1 : decide (0 < l1.length) = true := decide_eq_true (by omega)
      clear c18
      by_cases c19 : l3.length < 4398046511104
      ·rw [if_pos c19] at H
       have LMc19 := Aside0.mk c19
       clear c19
       obtain ⟨y526, hy526⟩ : ∃ y_ : List (S35), y_ = (l3 ++ [(⟨rd l1 0, wrap64 ((l3.length : Int) + 1), 0, 0⟩ : S35)]) := ⟨_, rfl⟩
       replace H : (if 1 ≤ (l1.length : Int) then ((ancepsref40_choices_with.f a2_0 a2_1 (rd l1 0) 0).bind fun bt531 => ((ancepsref40_split.f k1 l0 (l1.drop 1) bt531.1 bt531.2 y526).bind fun t533 => (if 0 ≤ (l3.length : Int) then (if (l3.length : Int) < (t533.length : Int) then ((ancepsref40_choices_with.f a2_0 a2_1 (rd l1 0) 1).bind fun bt539 => ((ancepsref40_split.f k1 l0 (l1.drop 1) bt539.1 bt539.2 (t533.set ((l3.length : Int) : Int).toNat (⟨(rd_T35 t533 (l3.length : Int)).f0, (rd_T35 t533 (l3.length : Int)).f1, (t533.length : Int), (rd_T35 t533 (l3.length : Int)).f3⟩ : S35))).bind fun t541 => (some t541))) else (none)) else (none)))) else (none)) = some r := by first | (rw [hy526]; with_reducible exact H) | (have H2_ := (Option.bind_some _ _).symm.trans H; rw [hy526]; with_reducible exact H2_) | (have H2_ := (Option.bind_some _ _).symm.trans H; with_reducible exact H2_) | with_reducible exact H | (rw [hy526]; exact H) | exact H
       have Ny526 := Aside0.mk hy526
       clear hy526
       by_cases c20 : 1 ≤ (l1.length : Int)
       ·rw [if_pos c20] at H
        have c20b0 := eq_true c20
        have c20b1 : decide (1 ≤ (l1.length : Int)) = true := decide_eq_true c20
        clear c20
        replace H := Option.bind_eq_some_iff.mp H
        obtain ⟨⟨t531, t532⟩, A210, H⟩ := H
        replace H : ((ancepsref40_split.f k1 l0 (l1.drop 1) t531 t532 y526).bind fun t533 => (if 0 ≤ (l3.length : Int) then (if (l3.length : Int) < (t533.length : Int) then ((ancepsref40_choices_with.f a2_0 a2_1 (rd l1 0) 1).bind fun bt539 => ((ancepsref40_split.f k1 l0 (l1.drop 1) bt539.1 bt539.2 (t533.set ((l3.length : Int) : Int).toNat (⟨(rd_T35 t533 (l3.length : Int)).f0, (rd_T35 t533 (l3.length : Int)).f1, (t533.length : Int), (rd_T35 t533 (l3.length : Int)).f3⟩ : S35))).bind fun t541 => (some t541))) else (none)) else (none))) = some r := H
        have A21 := Aside0.mk A210
        clear A210
        replace H := Option.bind_eq_some_iff.mp H
        obtain ⟨t533, A220, H⟩ := H
        replace H : (if 0 ≤ (l3.length : Int) then (if (l3.length : Int) < (t533.length : Int) then ((ancepsref40_choices_with.f a2_0 a2_1 (rd l1 0) 1).bind fun bt539 => ((ancepsref40_split.f k1 l0 (l1.drop 1) bt539.1 bt539.2 (t533.set ((l3.length : Int) : Int).toNat (⟨(rd_T35 t533 (l3.length : Int)).f0, (rd_T35 t533 (l3.length : Int)).f1, (t533.length : Int), (rd_T35 t533 (l3.length : Int)).f3⟩ : S35))).bind fun t541 => (some t541))) else (none)) else (none)) = some r := H
        have A22 := Aside0.mk A220
        clear A220
        by_cases c23 : 0 ≤ (l3.length : Int)
        ·rw [if_pos c23] at H
         have c23b0 : decide (0 ≤ (l3.length : Int)) = true := decide_eq_true c23
         have c23b1 : decide (0 ≤ l3.length) = true := decide_eq_true (by omega)
         clear c23
         by_cases c24 : (l3.length : Int) < (t533.length : Int)
         ·rw [if_pos c24] at H
          have c24b0 : decide ((l3.length : Int) < (t533.length : Int)) = true := decide_eq_true c24
          have c24b1 : decide (l3.length < t533.length) = true := decide_eq_true (Int.ofNat_lt.mp c24)
          clear c24
          obtain ⟨y536, hy536⟩ : ∃ y_ : List (S35), y_ = (t533.set ((l3.length : Int) : Int).toNat (⟨(rd_T35 t533 (l3.length : Int)).f0, (rd_T35 t533 (l3.length : Int)).f1, (t533.length : Int), (rd_T35 t533 (l3.length : Int)).f3⟩ : S35)) := ⟨_, rfl⟩
          replace H : ((ancepsref40_choices_with.f a2_0 a2_1 (rd l1 0) 1).bind fun bt539 => ((ancepsref40_split.f k1 l0 (l1.drop 1) bt539.1 bt539.2 y536).bind fun t541 => (some t541))) = some r := by first | (rw [hy536]; with_reducible exact H) | (have H2_ := (Option.bind_some _ _).symm.trans H; rw [hy536]; with_reducible exact H2_) | (have H2_ := (Option.bind_some _ _).symm.trans H; with_reducible exact H2_) | with_reducible exact H | (rw [hy536]; exact H) | exact H
          have Ny536 := Aside0.mk hy536
          clear hy536
          have c26b0 := eq_true (of_decide_eq_true zh : 1 ≤ (l1.length : Int))
          replace H := Option.bind_eq_some_iff.mp H
          obtain ⟨⟨t539, t540⟩, A270, H⟩ := H
          replace H : ((ancepsref40_split.f k1 l0 (l1.drop 1) t539 t540 y536).bind fun t541 => (some t541)) = some r := H
          have A27 := Aside0.mk A270
          clear A270
          replace H := Option.bind_eq_some_iff.mp H
          obtain ⟨t541, A280, H⟩ := H
          replace H : (some t541) = some r := H
          have A28 := Aside0.mk A280
          clear A280
          obtain rfl := Option.some.inj H
          have p525 : 0 ≤ (0 : Int) := (by omega)
          have q525 : 0 < (l1.length : Int) := of_decide_eq_true zh
          obtain ⟨ad525, e525, hx525_0⟩ := Kd.at_int (Kd.C_kept_now HR1.out HK.out) 0 p525 q525
          cases e525
          have qi525 : (0 < l1.length) = True := eq_true (by omega)
          (try rw [show ((0 : Int)).toNat = 0 from rfl] at hx525_0)
          (try rw [Addr.add_zero'] at hx525_0)
          replace p525 := eq_true p525
          replace q525 := eq_true q525
          try go_wp2_with (first | ((with_reducible refine gate_builtin (b := .append) (xs := #[.tmp 34, .tmp 41]) rfl ?_); at_builtin; refine Kd.R_append k35 (w0 := w0) w0.heap.size rfl (.tmp 34) (.tmp 41) 25 35 (.agg #[(.int .i64 0), (.int .i64 0), (.int .i64 0), (.int .i64 0)]) 32 rfl Try.underlying25 info35 rfl (by decide) (by omega) (.slice Ao7 l3.length co7) l3 (⟨rd l1 0, wrap64 ((l3.length : Int) + 1), 0, 0⟩ : S35) [.int .i64 (rd l1 0), .int .i64 (wrap64 ((l3.length : Int) + 1)), .int .i64 0, .int .i64 0] (fun k_ => (P3_ k_ ∨ w.heap.size ≤ k_)) (fun _ => False) rfl rfl ?aP (fun _ hk => hk.elim) ?aF ?aO ?aB ?aS ?aL ?_; (case aP => exact k35_mkM _ _ _ (⟨rd l1 0, wrap64 ((l3.length : Int) + 1), 0, 0⟩ : S35)); (case aB => exact zB); (case aF => exact (fun k_ hk => (.inr (Nat.le_trans (by first | exact HK.out.1 | exact (show Kept w _ (fun k_ => P3_ k_) from by repeat (first | (with_reducible first | exact HK.out | apply Kept.alloc | apply Kept.drewN | apply Kept.drew | refine Kept.setCell ?_ (.inr GW519.out) _) | exact HK.out)).1) hk)))); (case aO => exact (zR HO_3)); (case aS => exact (below_size zB)); (case aL => have := LMc19.out; omega); intro v527 w29 ho hb hg hat; rw [← Ny526.out] at ho; have n0_ := Aside0.mk (blk_grown (g := gb519) (o := .cells #[.int .i64 a2_0, .int .i64 a2_1] 74 (0, 0)) (zk BK519) hg (Kd.R_ne HO_3.out BK519.out (by decide))); have n1_ := Aside0.mk (hb); have n2_ := Aside0.mk (Kept.of_grown (S := (fun k_ => P3_ k_)) hg (by repeat (first | (with_reducible first | exact HK.out | apply Kept.alloc | apply Kept.drewN | apply Kept.drew | refine Kept.setCell ?_ (.inr GW519.out) _) | exact HK.out)) (fun k_ e_ => (HO_3.out.1 k_ e_))); have n3_ := Aside0.mk (ho); clear BK519; clear HB; clear HK; clear HO_3; have BK519 := n0_; have HB := n1_; have HK := n2_; have HO528 := n3_; clear n0_ n1_ n2_ n3_; clear ho hb hg hat))
          have n0_ := Aside0.mk (Kd.R_drew HO528.out)
          have n1_ := Aside0.mk (blk_drew BK519.out)
          have n2_ := Aside0.mk (Kept.drew HK.out)
          have n3_ := Aside0.mk (below_drew1 HB.out)
          clear HO528
          clear BK519
          clear HK
          clear HB
          have HO528 := n0_
          have BK519 := n1_
          have HK := n2_
          have HB := n3_
          clear n0_ n1_ n2_ n3_
          obtain ⟨i031, hi031, _, hsz31, _⟩ := info_parts info3
          obtain ⟨A31, hcut31, hA31, hC31⟩ := print_drop_of (P := Try.prog) (Value.int .i64) 0 42 3 .i64 Try.underlying42 hi031 hsz31 (some ad525) c1 l1 1 (by omega) (of_decide_eq_true zh) HC1.out
          have HR529 := Aside0.mk (fun W_ hk_ => Kd.C_of_reads (h1 := fun _ => rfl) (hA31 _ (Kd.reads_of_C (HR1.out W_ hk_))))
          have HC529 := Aside0.mk hC31
          clear hA31 hC31 hi031 hsz31
          have p530 : 0 ≤ (0 : Int) := (by omega)
          have q530 : 0 < (l1.length : Int) := of_decide_eq_true zh
          obtain ⟨ad530, e530, hx530_0⟩ := Kd.at_int (Kd.C_kept_now HR1.out HK.out) 0 p530 q530
          have hw530_0 := hx530_0
          (try rw [show ((0 : Int)).toNat = 0 from rfl] at hw530_0)
          (try rw [show 0 * 1 = 0 from rfl] at hw530_0)
          (try rw [Addr.add_zero'] at hw530_0)
          obtain rfl : ad525 = ad530 := (by injection e530)
          have qi530 : (0 < l1.length) = True := eq_true (by omega)
          (try rw [show ((0 : Int)).toNat = 0 from rfl] at hx530_0)
          (try rw [Addr.add_zero'] at hx530_0)
          replace p530 := eq_true p530
          replace q530 := eq_true q530
          refine start_ (n := 11) (S := fun w' => w'.cell? ⟨gb519, 0, none⟩ = some (.int .i64 a2_0) ∧ w'.cell? ⟨gb519, 1, none⟩ = some (.int .i64 a2_1) ∧ w'.cell? ad525 = some (.int .i64 (rd l1 0))) (ds := []) #[false, false, false, false, false, false, false, false, false, false, false] zK rfl rfl ⟨(blk_cell BK519.out 0).trans rfl, (blk_cell BK519.out 1).trans rfl, (by have h_ := Kd.foot_int (HR1.out _ (by repeat (first | exact HK.out | apply Kept.alloc | apply Kept.drewN | apply Kept.drew))) (0 : Int) (of_eq_true p530) (of_eq_true q530); rw [show ((0 : Int)).toNat = 0 from rfl, Addr.add_zero'] at h_; exact h_)⟩ (fun hHeld => ?_); refine with_tabW ancepsref40_split.tab10 ancepsref40_split.bits10 (fun HT_ HW_ => ?_)
          generalize w29.drew = w30 at HO528 BK519 HK HB HR529 hx530_0 hHeld ⊢
          refine pure_ (i := 0) (N := some 43) (v := ?_) (a' := ?_) #[true, false, false, false, false, false, false, false, false, false, false] rfl rfl (any_of HT_.out zK) (fun _ _ _ h => h) (Or.inl ⟨by rfl, ?_⟩) ?_ ?_
          rotate_left
          ·intro w'
           go_simp
           with_reducible rfl
          rotate_left
          ·simp only [Act.put, List.setIfInBounds_toArray, List.set_cons_zero, List.set_cons_succ, i64_w, i32_w]
           rfl
          refine pure_ (i := 1) (N := some 44) (v := ?_) (a' := ?_) #[true, true, false, false, false, false, false, false, false, false, false] rfl rfl (any_of HT_.out zK) (fun _ _ _ h => h) (Or.inl ⟨by rfl, ?_⟩) ?_ ?_
          rotate_left
          ·intro w'
           go_simp
           with_reducible rfl
          rotate_left
          ·simp only [Act.put, List.setIfInBounds_toArray, List.set_cons_zero, List.set_cons_succ, i64_w, i32_w]
           rfl
          refine pure_ (i := 2) (N := some 45) (v := ?_) (a' := ?_) #[true, true, true, false, false, false, false, false, false, false, false] rfl rfl (any_of HT_.out zK) (fun _ _ _ h => h) (Or.inl ⟨by rfl, ?_⟩) ?_ ?_
          rotate_left
          ·intro w'
           go_simp
           with_reducible rfl
          rotate_left
          ·simp only [Act.put, List.setIfInBounds_toArray, List.set_cons_zero, List.set_cons_succ, i64_w, i32_w]
           rfl
          refine pure_ (i := 4) (N := some 47) (v := ?_) (a' := ?_) #[true, true, true, false, true, false, false, false, false, false, false] rfl rfl (any_of HT_.out zK) (fun _ _ _ h => h) (Or.inl ⟨by rfl, ?_⟩) ?_ ?_
          rotate_left
          ·intro w'
           go_simp
           with_reducible rfl
          rotate_left
          ·simp only [Act.put, List.setIfInBounds_toArray, List.set_cons_zero, List.set_cons_succ, i64_w, i32_w]
           rfl
          refine pure_ (i := 5) (N := some 48) (v := ?_) (a' := ?_) #[true, true, true, false, true, true, false, false, false, false, false] rfl rfl (any_of HT_.out zK) (fun _ _ _ h => h) (Or.inl ⟨by rfl, ?_⟩) ?_ ?_
          rotate_left
          ·intro w'
           go_simp
           with_reducible rfl
          rotate_left
          ·simp only [Act.put, List.setIfInBounds_toArray, List.set_cons_zero, List.set_cons_succ, i64_w, i32_w]
           rfl
          refine pure_ (i := 8) (N := some 51) (v := ?_) (a' := ?_) #[true, true, true, false, true, true, false, false, true, false, false] rfl rfl (any_of HT_.out zK) (fun _ _ _ h => h) (Or.inl ⟨by rfl, ?_⟩) ?_ ?_
          rotate_left
          ·intro w'
           go_simp
           with_reducible rfl
          rotate_left
          ·simp only [Act.put, List.setIfInBounds_toArray, List.set_cons_zero, List.set_cons_succ, i64_w, i32_w]
           rfl
          refine take_ (i := 3) (N := some 46) (v := ?_) (a' := ?_) #[true, true, true, true, true, true, false, false, true, false, false] rfl rfl (take_ofW HT_.out HW_.out zK) (fun _ _ _ h => h) (Or.inl ⟨by rfl, ?_⟩) hHeld ?_ ?_
          rotate_left
          ·rintro w' ⟨s0, s1, s2⟩
           go_simp
           with_reducible rfl
          rotate_left
          ·simp only [Act.put, List.setIfInBounds_toArray, List.set_cons_zero, List.set_cons_succ, i64_w, i32_w]
           rfl
          refine take_ (i := 6) (N := some 49) (v := ?_) (a' := ?_) #[true, true, true, true, true, true, true, false, true, false, false] rfl rfl (take_ofW HT_.out HW_.out zK) (fun _ _ _ h => h) (Or.inl ⟨by rfl, ?_⟩) hHeld ?_ ?_
          rotate_left
          ·rintro w' ⟨s0, s1, s2⟩
           go_simp
           with_reducible rfl
          rotate_left
          ·simp only [Act.put, List.setIfInBounds_toArray, List.set_cons_zero, List.set_cons_succ, i64_w, i32_w]
           rfl
          refine one_ (i := 7) (N := some 50) #[true, true, true, true, true, true, true, true, true, false, false] rfl rfl (one_of HT_.out zK) (by decide) (fun K hK => ?_)
          refine goes_ Try.func90 zK rfl #[.agg #[.int .i64 a2_0, .int .i64 a2_1], .int .i64 (rd l1 0), .int .i64 0] (by rfl) rfl rfl zM ?_
          with_reducible refine (ancepsref40_choices_with.calls a2_0 a2_1 (rd l1 0) 0 t531 t532 _ A21.out).mono ?_
          rintro e w32 ⟨rfl, hb⟩
          refine ⟨_, rfl, ?_⟩
          have n0_ := Aside0.mk (Kd.R_below (zR HO528) hb)
          have n1_ := Aside0.mk (blk_below (g := gb519) (o := .cells #[.int .i64 a2_0, .int .i64 a2_1] 74 (0, 0)) (zk BK519) hb)
          have n2_ := Aside0.mk (Kept.below (S := (fun k_ => P3_ k_)) (by repeat (first | (with_reducible first | exact HK.out | apply Kept.alloc | apply Kept.drewN | apply Kept.drew | refine Kept.setCell ?_ (.inr GW519.out) _) | exact HK.out)) hb)
          have n3_ := Aside0.mk (below_step zB hb)
          clear HO528
          clear BK519
          clear HK
          clear HB
          have HO528 := n0_
          have BK519 := n1_
          have HK := n2_
          have HB := n3_
          clear n0_ n1_ n2_ n3_
          (try clear hb)
          (try clear hb2)
          (try clear hk)
          (try clear hi)
          obtain ⟨Ao33, co33, eo33⟩ := Kd.R_slice HO528.out
          (first | subst eo33 | (injection eo33 with f1_ f2_ f3_; have f4_ := f1_.symm; have f5_ := f3_.symm; clear f1_ f2_ f3_; subst f4_; subst f5_))
          refine hK.out _ _ ⟨(blk_cell BK519.out 0).trans rfl, (blk_cell BK519.out 1).trans rfl, (by have h_ := Kd.foot_int (HR1.out _ (by repeat (first | exact HK.out | apply Kept.alloc | apply Kept.drewN | apply Kept.drew))) (0 : Int) (of_eq_true p530) (of_eq_true q530); rw [show ((0 : Int)).toNat = 0 from rfl, Addr.add_zero'] at h_; exact h_)⟩ (fun hHeld => ?_)
          clear hK K
          refine norm_ (a' := ?_) ?_ ?_
          rotate_left
          ·show Act.put _ (some 50) _ = _
           simp only [Act.put, List.setIfInBounds_toArray, List.set_cons_zero, List.set_cons_succ, i64_w, i32_w]
           rfl
          refine one_ (i := 9) (N := some 52) #[true, true, true, true, true, true, true, true, true, true, false] rfl rfl (one_of HT_.out zK) (by decide) (fun K hK => ?_)
          refine goes_ Try.func52 zK rfl #[.slice A0 l0.length c0, .slice A31 (l1.drop 1).length (c1 - 1), .agg #[.int .i64 t531, .int .i64 t532], .slice Ao33 y526.length co33] (by rfl) rfl rfl (by (try simp only [List.map_toArray, List.map_cons, List.map_nil]); first | done | (rw [show (l1.drop 1).length = (l1.length - 1) from List.length_drop] <;> rfl) | rfl | (simp only [List.length_drop, List.length_take]; rfl)) ?_
          with_reducible refine (ih k1 (by have := HK1.out; omega) _ _ l0 _ _ (l1.drop 1) t531 t532 (fun k_ => some k_ = (.slice Ao33 y526.length co33 : Value).ownBlock) (.slice Ao33 y526.length co33) y526 t533 w0 _ ?side1 ?side2 ?side3 ?side4 ?side5 ?side6 A22.out).mono ?_
          (case side1 => repeat (first | (with_reducible first | exact HB.out | apply below_alloc | apply pw_below_drewN | apply below_drew1 | refine below_set ?_ GE519.out) | exact HB.out))
          (case side2 => exact Kd.C_kept_call HR0.out (by repeat (first | (with_reducible first | exact HK.out | apply Kept.alloc | apply Kept.drewN | apply Kept.drew | refine Kept.setCell ?_ (.inr GW519.out) _) | exact HK.out)) (fun k_ hs_ => (fun e_ => (HO528.out.1 k_ e_.symm)) hs_))
          (case side3 => exact HC0.out)
          (case side4 => exact Kd.C_kept_call HR529.out (by repeat (first | (with_reducible first | exact HK.out | apply Kept.alloc | apply Kept.drewN | apply Kept.drew | refine Kept.setCell ?_ (.inr GW519.out) _) | exact HK.out)) (fun k_ hs_ => (fun e_ => (HO528.out.1 k_ e_.symm)) hs_))
          (case side5 => exact HC529.out)
          (case side6 => exact Kd.R_tight rfl HO528.out)
          rintro e w34 ⟨v534, rfl, ho0, hb, hkp⟩
          refine ⟨_, rfl, ?_⟩
          have n0_ := Aside0.mk (blk_kept (zk BK519) hkp (fun hs_ => (fun e_ => (Kd.R_ne HO528.out BK519.out (by decide)) e_) hs_))
          have n1_ := Aside0.mk (Kd.R_mono (ok' := fun k_ => (P3_ k_ ∨ w.heap.size ≤ k_)) ho0 (fun k_ hk_ => Or.elim hk_ (fun hs_ => (HO528.out.1 k_ (hs_).symm)) (fun hn_ => (.inr (Nat.le_trans (by first | exact HK.out.1 | exact (show Kept w _ (fun k_ => P3_ k_) from by repeat (first | (with_reducible first | exact HK.out | apply Kept.alloc | apply Kept.drewN | apply Kept.drew | refine Kept.setCell ?_ (.inr GW519.out) _) | exact HK.out)).1) hn_)))))
          have n2_ := Aside0.mk (Kept.then_ (S := (fun k_ => P3_ k_)) (by repeat (first | (with_reducible first | exact HK.out | apply Kept.alloc | apply Kept.drewN | apply Kept.drew | refine Kept.setCell ?_ (.inr GW519.out) _) | exact HK.out)) hkp (fun k_ hs_ => (fun e_ => (HO528.out.1 k_ e_.symm)) hs_))
          have n3_ := Aside0.mk (hb)
          clear BK519
          clear HK
          clear HB
          clear HO528
          have BK519 := n0_
          have HO535 := n1_
          have HK := n2_
          have HB := n3_
          clear n0_ n1_ n2_ n3_
          (try clear hb)
          (try clear hkp)
          (try clear ho0)
          refine hK.out _ _ ⟨(blk_cell BK519.out 0).trans rfl, (blk_cell BK519.out 1).trans rfl, (by have h_ := Kd.foot_int (HR1.out _ (by repeat (first | exact HK.out | apply Kept.alloc | apply Kept.drewN | apply Kept.drew))) (0 : Int) (of_eq_true p530) (of_eq_true q530); rw [show ((0 : Int)).toNat = 0 from rfl, Addr.add_zero'] at h_; exact h_)⟩ (fun hHeld => ?_)
          clear hK K
          refine norm_ (a' := ?_) ?_ ?_
          rotate_left
          ·show Act.put _ (some 52) _ = _
           simp only [Act.put, List.setIfInBounds_toArray, List.set_cons_zero, List.set_cons_succ, i64_w, i32_w]
           rfl
          refine pure_ (i := 10) (N := some 3) (v := ?_) (a' := ?_) #[true, true, true, true, true, true, true, true, true, true, true] rfl rfl (any_of HT_.out zK) (fun _ _ _ h => h) (Or.inl ⟨by rfl, ?_⟩) ?_ ?_
          rotate_left
          ·intro w'
           go_simp
           with_reducible rfl
          rotate_left
          ·simp only [Act.put, List.setIfInBounds_toArray, List.set_cons_zero, List.set_cons_succ, i64_w, i32_w]
           rfl
          refine done_ (done_of HT_.out zK) ?_
          obtain ⟨Ao35, co35, eo35⟩ := Kd.R_slice HO535.out
          subst eo35
          have p25 : 0 ≤ ((l3.length : Int) : Int) := of_decide_eq_true zh
          have q25 : ((l3.length : Int) : Int) < ((t533.length : Int) : Int) := of_decide_eq_true zh
          obtain ⟨go25, co25, eo25, gb25, gl25, cl25, HG25⟩ := Kd.R_form HO535.out (by omega)
          (first | cases eo25 | (injection eo25 with ea_ en_ ec_; (first | subst ea_ | (injection ea_ with ea_; subst ea_)); subst ec_; clear en_))
          have GB25 := Aside0.mk gb25
          have GG25 := Aside0.mk HG25
          clear gb25 gl25 HG25
          have HMgo25 := Aside0.mk (show (P3_ go25 ∨ w.heap.size ≤ go25) from (HO535.out.1 _ rfl))
          obtain ⟨ce25, hcl25, hM25, hcc25, hfr25⟩ := Kd.R_elem HO535.out z35 ((l3.length : Int) : Int) p25 q25
          obtain rfl := k35_openM hM25
          have hx25_0 : w34.cell? ⟨go25, ((l3.length : Int) : Int).toNat * 4, none⟩ = some (.int .i64 ((rd_T35 t533 (l3.length : Int)).f0)) := hcc25 0 _ rfl
          have hx25_1 : w34.cell? ⟨go25, ((l3.length : Int) : Int).toNat * 4 + 1, none⟩ = some (.int .i64 ((rd_T35 t533 (l3.length : Int)).f1)) := hcc25 1 _ rfl
          have hx25_2 : w34.cell? ⟨go25, ((l3.length : Int) : Int).toNat * 4 + 2, none⟩ = some (.int .i64 ((rd_T35 t533 (l3.length : Int)).f2)) := hcc25 2 _ rfl
          have hx25_3 : w34.cell? ⟨go25, ((l3.length : Int) : Int).toNat * 4 + 3, none⟩ = some (.int .i64 ((rd_T35 t533 (l3.length : Int)).f3)) := hcc25 3 _ rfl
          have hf25_0 : w34.frozen? ⟨go25, ((l3.length : Int) : Int).toNat * 4, none⟩ = false := hfr25 0
          have hf25_1 : w34.frozen? ⟨go25, ((l3.length : Int) : Int).toNat * 4 + 1, none⟩ = false := hfr25 1
          have hf25_2 : w34.frozen? ⟨go25, ((l3.length : Int) : Int).toNat * 4 + 2, none⟩ = false := hfr25 2
          have hf25_3 : w34.frozen? ⟨go25, ((l3.length : Int) : Int).toNat * 4 + 3, none⟩ = false := hfr25 3
          clear hcl25 hcc25 hfr25 hM25
          replace p25 := eq_true p25
          replace q25 := eq_true q25
          have HX36 := Aside0.mk (show Kd.R k35 35 w34 w0.heap.size (fun k_ => (P3_ k_ ∨ w.heap.size ≤ k_)) (.slice (some ⟨go25, 0, none⟩) t533.length co35) t533 from (zR HO535))
          obtain ⟨ce36, hcl36, hM36, hcc36, hfr36⟩ := Kd.R_elem HX36.out z35 ((l3.length : Int) : Int) (of_decide_eq_true zh) (by have h_ : ((l3.length : Int) : Int) < ((t533.length : Int) : Int) := of_decide_eq_true zh; first | exact h_ | (have e_ := (Kd.R_reads' HO535.out).1; omega) | simpa using h_)
          obtain rfl := k35_openM hM36
          have HP36 := Kd.R_seg HX36.out ((l3.length : Int) : Int) (of_decide_eq_true zh) (by have h_ : ((l3.length : Int) : Int) < ((t533.length : Int) : Int) := of_decide_eq_true zh; first | exact h_ | (have e_ := (Kd.R_reads' HO535.out).1; omega) | simpa using h_) (seg := [.int .i64 (t533.length : Int)]) (j := 2) hcl36 hcc36 (show 3 ≤ 4 from by decide) (x' := (⟨(rd_T35 t533 (l3.length : Int)).f0, (rd_T35 t533 (l3.length : Int)).f1, (t533.length : Int), (rd_T35 t533 (l3.length : Int)).f3⟩ : S35)) (k35_mkM _ _ _ (⟨(rd_T35 t533 (l3.length : Int)).f0, (rd_T35 t533 (l3.length : Int)).f1, (t533.length : Int), (rd_T35 t533 (l3.length : Int)).f3⟩ : S35) ) (fun _ hk => hk)
          have hx36_2 := hcc36 2 _ rfl
          (try simp only [show (k35).sz = 4 from rfl, Nat.mul_one, Nat.add_zero, Int.toNat_natCast] at hx36_2)
          have hf36_2 := hfr36 2
          (try simp only [show (k35).sz = 4 from rfl, Nat.mul_one, Nat.add_zero, Int.toNat_natCast] at hf36_2)
          clear hcl36 hcc36 hfr36 hM36
          try go_wp2_with (first | ((with_reducible refine gate_store (t := 3) (p := 58) rfl ?_); refine store_event (t := 3) (p := 58) (v := ?vo_w37) (w1 := (w34.setCell ⟨go25, ((l3.length : Int) : Int).toNat * 4 + 2, none⟩ (.int .i64 (t533.length : Int)))) ?hg ?ho ?hn ?hr ?_; (case ho => rfl); (case hg => rfl); (case hn => rfl); (case hr => first | (go_simp; done) | (go_simp; rfl)); intro w37 hw; have hg : w34.grownBy w37 (some go25) := (by rw [hw]; exact HP36.2); have hp_ : Kd.R k35 35 w37 w0.heap.size (fun k_ => (P3_ k_ ∨ w.heap.size ≤ k_)) (.slice (some ⟨go25, 0, none⟩) t533.length co35) y536 := (by rw [hw, Ny536.out]; exact HP36.1); clear HP36; have n0_ := Aside0.mk (blk_grown (g := gb519) (o := .cells #[.int .i64 a2_0, .int .i64 a2_1] 74 (0, 0)) (zk BK519) hg (Kd.R_ne HO535.out BK519.out (by decide))); have n1_ := Aside0.mk (hp_); have n2_ := Aside0.mk ((by rw [hw]; exact below_set (HB.out) GB25.out : Below w0.heap.size w0 w37)); have n3_ := Aside0.mk (Kept.of_grown (S := (fun k_ => P3_ k_)) hg (by repeat (first | (with_reducible first | exact HK.out | apply Kept.alloc | apply Kept.drewN | apply Kept.drew | refine Kept.setCell ?_ (.inr GW519.out) _) | exact HK.out)) (fun k_ e_ => (HO535.out.1 k_ e_))); clear BK519; clear HO535; clear HB; clear HK; have BK519 := n0_; have HO535 := n1_; have HB := n2_; have HK := n3_; clear n0_ n1_ n2_ n3_; clear hg hw hp_))
          have n0_ := Aside0.mk (Kd.R_drew HO535.out)
          have n1_ := Aside0.mk (blk_drew BK519.out)
          have n2_ := Aside0.mk (Kept.drew HK.out)
          have n3_ := Aside0.mk (below_drew1 HB.out)
          clear HO535
          clear BK519
          clear HK
          clear HB
          have HO535 := n0_
          have BK519 := n1_
          have HK := n2_
          have HB := n3_
          clear n0_ n1_ n2_ n3_
          try clear hcut31
          obtain ⟨i039, hi039, _, hsz39, _⟩ := info_parts info3
          obtain ⟨A39, hcut39, hA39, hC39⟩ := print_drop_of (P := Try.prog) (Value.int .i64) 0 42 3 .i64 Try.underlying42 hi039 hsz39 (some ad525) c1 l1 1 (by omega) (of_decide_eq_true zh) HC1.out
          have HR537 := Aside0.mk (fun W_ hk_ => Kd.C_of_reads (h1 := fun _ => rfl) (hA39 _ (Kd.reads_of_C (HR1.out W_ hk_))))
          have HC537 := Aside0.mk hC39
          clear hA39 hC39 hi039 hsz39
          have p538 : 0 ≤ (0 : Int) := (by omega)
          have q538 : 0 < (l1.length : Int) := of_decide_eq_true zh
          obtain ⟨ad538, e538, hx538_0⟩ := Kd.at_int (Kd.C_kept_now HR1.out HK.out) 0 p538 q538
          have hw538_0 := hx538_0
          (try rw [show ((0 : Int)).toNat = 0 from rfl] at hw538_0)
          (try rw [show 0 * 1 = 0 from rfl] at hw538_0)
          (try rw [Addr.add_zero'] at hw538_0)
          obtain rfl : ad525 = ad538 := (by injection e538)
          have qi538 : (0 < l1.length) = True := eq_true (by omega)
          (try rw [show ((0 : Int)).toNat = 0 from rfl] at hx538_0)
          (try rw [Addr.add_zero'] at hx538_0)
          replace p538 := eq_true p538
          replace q538 := eq_true q538
          refine start_ (n := 11) (S := fun w' => w'.cell? ⟨gb519, 0, none⟩ = some (.int .i64 a2_0) ∧ w'.cell? ⟨gb519, 1, none⟩ = some (.int .i64 a2_1) ∧ w'.cell? ad525 = some (.int .i64 (rd l1 0))) (ds := []) #[false, false, false, false, false, false, false, false, false, false, false] zK rfl rfl ⟨(blk_cell BK519.out 0).trans rfl, (blk_cell BK519.out 1).trans rfl, (by have h_ := Kd.foot_int (HR1.out _ (by repeat (first | exact HK.out | apply Kept.alloc | apply Kept.drewN | apply Kept.drew))) (0 : Int) (of_eq_true p538) (of_eq_true q538); rw [show ((0 : Int)).toNat = 0 from rfl, Addr.add_zero'] at h_; exact h_)⟩ (fun hHeld => ?_); refine with_tabW ancepsref40_split.tab12 ancepsref40_split.bits12 (fun HT_ HW_ => ?_)
          generalize w37.drew = w38 at HO535 BK519 HK HB HR537 hx538_0 hHeld ⊢
          refine pure_ (i := 0) (N := some 59) (v := ?_) (a' := ?_) #[true, false, false, false, false, false, false, false, false, false, false] rfl rfl (any_of HT_.out zK) (fun _ _ _ h => h) (Or.inl ⟨by rfl, ?_⟩) ?_ ?_
          rotate_left
          ·intro w'
           go_simp
           with_reducible rfl
          rotate_left
          ·simp only [Act.put, List.setIfInBounds_toArray, List.set_cons_zero, List.set_cons_succ, i64_w, i32_w]
           rfl
          refine pure_ (i := 1) (N := some 60) (v := ?_) (a' := ?_) #[true, true, false, false, false, false, false, false, false, false, false] rfl rfl (any_of HT_.out zK) (fun _ _ _ h => h) (Or.inl ⟨by rfl, ?_⟩) ?_ ?_
          rotate_left
          ·intro w'
           go_simp
           with_reducible rfl
          rotate_left
          ·simp only [Act.put, List.setIfInBounds_toArray, List.set_cons_zero, List.set_cons_succ, i64_w, i32_w]
           rfl
          refine pure_ (i := 2) (N := some 61) (v := ?_) (a' := ?_) #[true, true, true, false, false, false, false, false, false, false, false] rfl rfl (any_of HT_.out zK) (fun _ _ _ h => h) (Or.inl ⟨by rfl, ?_⟩) ?_ ?_
          rotate_left
          ·intro w'
           go_simp
           with_reducible rfl
          rotate_left
          ·simp only [Act.put, List.setIfInBounds_toArray, List.set_cons_zero, List.set_cons_succ, i64_w, i32_w]
           rfl
          refine pure_ (i := 4) (N := some 63) (v := ?_) (a' := ?_) #[true, true, true, false, true, false, false, false, false, false, false] rfl rfl (any_of HT_.out zK) (fun _ _ _ h => h) (Or.inl ⟨by rfl, ?_⟩) ?_ ?_
          rotate_left
          ·intro w'
           go_simp
           with_reducible rfl
          rotate_left
          ·simp only [Act.put, List.setIfInBounds_toArray, List.set_cons_zero, List.set_cons_succ, i64_w, i32_w]
           rfl
          refine pure_ (i := 5) (N := some 64) (v := ?_) (a' := ?_) #[true, true, true, false, true, true, false, false, false, false, false] rfl rfl (any_of HT_.out zK) (fun _ _ _ h => h) (Or.inl ⟨by rfl, ?_⟩) ?_ ?_
          rotate_left
          ·intro w'
           go_simp
           with_reducible rfl
          rotate_left
          ·simp only [Act.put, List.setIfInBounds_toArray, List.set_cons_zero, List.set_cons_succ, i64_w, i32_w]
           rfl
          refine pure_ (i := 8) (N := some 67) (v := ?_) (a' := ?_) #[true, true, true, false, true, true, false, false, true, false, false] rfl rfl (any_of HT_.out zK) (fun _ _ _ h => h) (Or.inl ⟨by rfl, ?_⟩) ?_ ?_
          rotate_left
          ·intro w'
           go_simp
           with_reducible rfl
          rotate_left
          ·simp only [Act.put, List.setIfInBounds_toArray, List.set_cons_zero, List.set_cons_succ, i64_w, i32_w]
           rfl
          refine take_ (i := 3) (N := some 62) (v := ?_) (a' := ?_) #[true, true, true, true, true, true, false, false, true, false, false] rfl rfl (take_ofW HT_.out HW_.out zK) (fun _ _ _ h => h) (Or.inl ⟨by rfl, ?_⟩) hHeld ?_ ?_
          rotate_left
          ·rintro w' ⟨s0, s1, s2⟩
           go_simp
           with_reducible rfl
          rotate_left
          ·simp only [Act.put, List.setIfInBounds_toArray, List.set_cons_zero, List.set_cons_succ, i64_w, i32_w]
           rfl
          refine take_ (i := 6) (N := some 65) (v := ?_) (a' := ?_) #[true, true, true, true, true, true, true, false, true, false, false] rfl rfl (take_ofW HT_.out HW_.out zK) (fun _ _ _ h => h) (Or.inl ⟨by rfl, ?_⟩) hHeld ?_ ?_
          rotate_left
          ·rintro w' ⟨s0, s1, s2⟩
           go_simp
           with_reducible rfl
          rotate_left
          ·simp only [Act.put, List.setIfInBounds_toArray, List.set_cons_zero, List.set_cons_succ, i64_w, i32_w]
           rfl
          refine one_ (i := 7) (N := some 66) #[true, true, true, true, true, true, true, true, true, false, false] rfl rfl (one_of HT_.out zK) (by decide) (fun K hK => ?_)
          refine goes_ Try.func90 zK rfl #[.agg #[.int .i64 a2_0, .int .i64 a2_1], .int .i64 (rd l1 0), .int .i64 1] (by rfl) rfl rfl zM ?_
          with_reducible refine (ancepsref40_choices_with.calls a2_0 a2_1 (rd l1 0) 1 t539 t540 _ A27.out).mono ?_
          rintro e w40 ⟨rfl, hb⟩
          refine ⟨_, rfl, ?_⟩
          have n0_ := Aside0.mk (Kd.R_below (zR HO535) hb)
          have n1_ := Aside0.mk (blk_below (g := gb519) (o := .cells #[.int .i64 a2_0, .int .i64 a2_1] 74 (0, 0)) (zk BK519) hb)
          have n2_ := Aside0.mk (Kept.below (S := (fun k_ => P3_ k_)) (by repeat (first | (with_reducible first | exact HK.out | apply Kept.alloc | apply Kept.drewN | apply Kept.drew | refine Kept.setCell ?_ (.inr GW519.out) _) | exact HK.out)) hb)
          have n3_ := Aside0.mk (below_step zB hb)
          clear HO535
          clear BK519
          clear HK
          clear HB
          have HO535 := n0_
          have BK519 := n1_
          have HK := n2_
          have HB := n3_
          clear n0_ n1_ n2_ n3_
          (try clear hb)
          (try clear hb2)
          (try clear hk)
          (try clear hi)
          refine hK.out _ _ ⟨(blk_cell BK519.out 0).trans rfl, (blk_cell BK519.out 1).trans rfl, (by have h_ := Kd.foot_int (HR1.out _ (by repeat (first | exact HK.out | apply Kept.alloc | apply Kept.drewN | apply Kept.drew))) (0 : Int) (of_eq_true p538) (of_eq_true q538); rw [show ((0 : Int)).toNat = 0 from rfl, Addr.add_zero'] at h_; exact h_)⟩ (fun hHeld => ?_)
          clear hK K
          refine norm_ (a' := ?_) ?_ ?_
          rotate_left
          ·show Act.put _ (some 66) _ = _
           simp only [Act.put, List.setIfInBounds_toArray, List.set_cons_zero, List.set_cons_succ, i64_w, i32_w]
           rfl
          refine one_ (i := 9) (N := some 68) #[true, true, true, true, true, true, true, true, true, true, false] rfl rfl (one_of HT_.out zK) (by decide) (fun K hK => ?_)
          refine goes_ Try.func52 zK rfl #[.slice A0 l0.length c0, .slice A39 (l1.drop 1).length (c1 - 1), .agg #[.int .i64 t539, .int .i64 t540], .slice (some ⟨go25, 0, none⟩) t533.length co35] (by rfl) rfl rfl (by (try simp only [List.map_toArray, List.map_cons, List.map_nil]); first | done | (rw [show (l1.drop 1).length = (l1.length - 1) from List.length_drop] <;> rfl) | rfl | (simp only [List.length_drop, List.length_take]; rfl)) ?_
          with_reducible refine (ih k1 (by have := HK1.out; omega) _ _ l0 _ _ (l1.drop 1) t539 t540 (fun k_ => some k_ = (.slice (some ⟨go25, 0, none⟩) t533.length co35 : Value).ownBlock) (.slice (some ⟨go25, 0, none⟩) t533.length co35) y536 t541 w0 _ ?side1 ?side2 ?side3 ?side4 ?side5 ?side6 A28.out).mono ?_
          (case side1 => repeat (first | (with_reducible first | exact HB.out | apply below_alloc | apply pw_below_drewN | apply below_drew1 | refine below_set ?_ GE519.out) | exact HB.out))
          (case side2 => exact Kd.C_kept_call HR0.out (by repeat (first | (with_reducible first | exact HK.out | apply Kept.alloc | apply Kept.drewN | apply Kept.drew | refine Kept.setCell ?_ (.inr GW519.out) _) | exact HK.out)) (fun k_ hs_ => (fun e_ => (HO535.out.1 k_ e_.symm)) hs_))
          (case side3 => exact HC0.out)
          (case side4 => exact Kd.C_kept_call HR537.out (by repeat (first | (with_reducible first | exact HK.out | apply Kept.alloc | apply Kept.drewN | apply Kept.drew | refine Kept.setCell ?_ (.inr GW519.out) _) | exact HK.out)) (fun k_ hs_ => (fun e_ => (HO535.out.1 k_ e_.symm)) hs_))
          (case side5 => exact HC537.out)
          (case side6 => exact Kd.R_tight rfl HO535.out)
          rintro e w41 ⟨v542, rfl, ho0, hb, hkp⟩
          refine ⟨_, rfl, ?_⟩
          have n0_ := Aside0.mk (blk_kept (zk BK519) hkp (fun hs_ => (fun e_ => (Kd.R_ne HO535.out BK519.out (by decide)) e_) hs_))
          have n1_ := Aside0.mk (Kd.R_mono (ok' := fun k_ => (P3_ k_ ∨ w.heap.size ≤ k_)) ho0 (fun k_ hk_ => Or.elim hk_ (fun hs_ => (HO535.out.1 k_ (hs_).symm)) (fun hn_ => (.inr (Nat.le_trans (by first | exact HK.out.1 | exact (show Kept w _ (fun k_ => P3_ k_) from by repeat (first | (with_reducible first | exact HK.out | apply Kept.alloc | apply Kept.drewN | apply Kept.drew | refine Kept.setCell ?_ (.inr GW519.out) _) | exact HK.out)).1) hn_)))))
          have n2_ := Aside0.mk (Kept.then_ (S := (fun k_ => P3_ k_)) (by repeat (first | (with_reducible first | exact HK.out | apply Kept.alloc | apply Kept.drewN | apply Kept.drew | refine Kept.setCell ?_ (.inr GW519.out) _) | exact HK.out)) hkp (fun k_ hs_ => (fun e_ => (HO535.out.1 k_ e_.symm)) hs_))
          have n3_ := Aside0.mk (hb)
          clear BK519
          clear HK
          clear HB
          clear HO535
          have BK519 := n0_
          have HO543 := n1_
          have HK := n2_
          have HB := n3_
          clear n0_ n1_ n2_ n3_
          (try clear hb)
          (try clear hkp)
          (try clear ho0)
          refine hK.out _ _ ⟨(blk_cell BK519.out 0).trans rfl, (blk_cell BK519.out 1).trans rfl, (by have h_ := Kd.foot_int (HR1.out _ (by repeat (first | exact HK.out | apply Kept.alloc | apply Kept.drewN | apply Kept.drew))) (0 : Int) (of_eq_true p538) (of_eq_true q538); rw [show ((0 : Int)).toNat = 0 from rfl, Addr.add_zero'] at h_; exact h_)⟩ (fun hHeld => ?_)
          clear hK K
          refine norm_ (a' := ?_) ?_ ?_
          rotate_left
          ·show Act.put _ (some 68) _ = _
           simp only [Act.put, List.setIfInBounds_toArray, List.set_cons_zero, List.set_cons_succ, i64_w, i32_w]
           rfl
          refine pure_ (i := 10) (N := some 8) (v := ?_) (a' := ?_) #[true, true, true, true, true, true, true, true, true, true, true] rfl rfl (any_of HT_.out zK) (fun _ _ _ h => h) (Or.inl ⟨by rfl, ?_⟩) ?_ ?_
          rotate_left
          ·intro w'
           go_simp
           with_reducible rfl
          rotate_left
          ·simp only [Act.put, List.setIfInBounds_toArray, List.set_cons_zero, List.set_cons_succ, i64_w, i32_w]
           rfl
          refine done_ (done_of HT_.out zK) ?_
          try go_wp2
          go_ret
          exact ⟨_, by first | rfl | (simp [errW_none, errW_some] <;> rfl) | (simp [*, errW_none, errW_some] <;> rfl), by (with_reducible repeat (first | apply Kd.R_alloc | apply Kd.R_drewN | apply Kd.R_drew)); exact HO543.out, by repeat (first | (with_reducible first | exact HB.out | apply below_alloc | apply pw_below_drewN | apply below_drew1 | refine below_set ?_ GE519.out) | exact HB.out), by repeat (first | (with_reducible first | exact HK.out | apply Kept.alloc | apply Kept.drewN | apply Kept.drew | refine Kept.setCell ?_ (.inr GW519.out) _) | exact HK.out)⟩
         ·rw [if_neg c24] at H
          exact absurd H (by simp)
        ·rw [if_neg c23] at H
         exact absurd H (by simp)
       ·rw [if_neg c20] at H
        exact absurd H (by simp)
      ·rw [if_neg c19] at H
       exact absurd H (by simp)
     ·rw [if_neg c18] at H
      exact absurd H (by simp)
/-! ### ancepsref40_Refute: function 15 -/
def ancepsref40_Refute.f (k : Nat) (l0 : List (S61)) : Option ((List (S35)) × Int) := (ancepsref40_Valid.f k l0).bind fun t545 => (if t545 = 0 then ((ancepsref40_solutions.f k l0 1).bind fun t546 => (if (t546.length : Int) > 0 then (some (([] : List (S35)), 11)) else ((ancepsref40_Vars.f k l0).bind fun t549 => ((ancepsref40_split.f k l0 t549 0 0 ([] : List (S35))).bind fun t552 => (if (t552.length : Int) > 2000 then (some (([] : List (S35)), 3)) else (some (t552, 0))))))) else (some (([] : List (S35)), t545)))
theorem ancepsref40_Refute.mono : ∀ a0 k, LeO (ancepsref40_Refute.f k a0) (ancepsref40_Refute.f (k + 1) a0) := by
 intro a0 k
 unfold ancepsref40_Refute.f
 repeat' first
   | (with_reducible exact ancepsref40_Valid.mono _ _)
   | (with_reducible exact ancepsref40_Vars.mono _ _)
   | (with_reducible exact ancepsref40_solutions.mono _ _ _)
   | (with_reducible exact ancepsref40_split.mono _ _ _ _ _ _)
   | (with_reducible exact LeO.refl _)
   | (with_reducible exact LeO.none _)
   | (with_reducible refine LeO.ite ?_ ?_)
   | (with_reducible refine LeO.bind ?_ (fun _ => ?_))
   | exact ancepsref40_Valid.mono _ _
   | exact ancepsref40_Vars.mono _ _
   | exact ancepsref40_solutions.mono _ _ _
   | exact ancepsref40_split.mono _ _ _ _ _ _
   | exact LeO.none _
   | refine LeO.ite ?_ ?_
   | refine LeO.bind ?_ (fun _ => ?_)
set_option maxHeartbeats 8000000 in
set_option maxRecDepth 100000 in
theorem ancepsref40_Refute.calls (k : Nat) (A0 : Option Addr) (c0 : Nat) (l0 : List (S61)) (r1 : List (S35)) (r2 : Int) (w : World) (hr0 : Kd.C k61 w A0 l0.length l0) (hc0 : l0.length ≤ c0) (h : ancepsref40_Refute.f k l0 = some (r1, r2)) :
  Calls Try.prog 15 #[.slice A0 l0.length c0] w fun e w' => ∃ v0_ : Value, e = .returned (.tuple #[.agg #[v0_], .int .i64 r2]) ∧ Kd.R k35 35 w' w.heap.size (fun _ => True) v0_ r1 ∧ Below w.heap.size w w' := by
 have hu27 := Try.underlying27
 have hu74 := Try.underlying74
 have HR0 := Aside0.mk hr0
 have HC0 := Aside0.mk hc0
 clear hr0 hc0
 have HB := Aside0.mk (Below.refl w.heap.size w)
 have H : ((ancepsref40_Valid.f k l0).bind fun t545 => (if t545 = 0 then ((ancepsref40_solutions.f k l0 1).bind fun t546 => (if (t546.length : Int) > 0 then (some (([] : List (S35)), 11)) else ((ancepsref40_Vars.f k l0).bind fun t549 => ((ancepsref40_split.f k l0 t549 0 0 ([] : List (S35))).bind fun t552 => (if (t552.length : Int) > 2000 then (some (([] : List (S35)), 3)) else (some (t552, 0))))))) else (some (([] : List (S35)), t545)))) = some (r1, r2) := h
 clear h
 replace H := Option.bind_eq_some_iff.mp H
 obtain ⟨t545, A20, H⟩ := H
 replace H : (if t545 = 0 then ((ancepsref40_solutions.f k l0 1).bind fun t546 => (if (t546.length : Int) > 0 then (some (([] : List (S35)), 11)) else ((ancepsref40_Vars.f k l0).bind fun t549 => ((ancepsref40_split.f k l0 t549 0 0 ([] : List (S35))).bind fun t552 => (if (t552.length : Int) > 2000 then (some (([] : List (S35)), 3)) else (some (t552, 0))))))) else (some (([] : List (S35)), t545))) = some (r1, r2) := H
 have A2 := Aside0.mk A20
 clear A20
 have HC3 := Aside0.mk H
 clear H
 go_enter Try.func15, Try.ntmps15
 go_upto_if 9 with (first | ((with_reducible refine gate_dst (N := 2) rfl ?_); refine box_event ?hg (N := 2) ?hd (cs := #[.slice none 0 0]) (t := 27) ?hr ?_; (case hd => rfl); (case hg => rfl); (case hr => first | (go_simp; done) | (go_simp; rfl)); intro gb544 hg w4 hbox hb; have n0_ := Aside0.mk (below_step zB hb); have n1_ := Aside0.mk (hbox); have n2_ := Aside0.mk ((by rw [hg]; exact (below_size zB) : w.heap.size ≤ gb544)); have n3_ := Aside0.mk ((by rw [hg]; exact (below_size zB) : w.heap.size ≤ gb544)); clear HB; have HB := n0_; have BK544 := n1_; have GW544 := n2_; have GE544 := n3_; clear n0_ n1_ n2_ n3_; clear hb hbox hg) | ((with_reducible refine gate_callee (f := 50) rfl ?_); refine goesL_ (some 7) rfl rfl Try.func50 zK rfl #[.slice A0 l0.length c0] rfl zM ?_; (with_reducible refine (ancepsref40_Valid.calls k _ _ l0 t545 _ ?side1 ?side2 A2.out).mono ?_); (case side1 => repeat (first | exact (Kd.C_below HR0.out HB.out) | (with_reducible refine Kd.C_alloc ?_ _) | (with_reducible refine Kd.C_drewN ?_ _) | (with_reducible refine Kd.C_drew ?_))); (case side2 => exact HC0.out); rintro e w5 ⟨rfl, hb⟩; refine ⟨_, rfl, ?_⟩; have n0_ := Aside0.mk (blk_below (g := gb544) (o := .cells #[.slice none 0 0] 27 (0, 0)) (zk BK544) hb); have n1_ := Aside0.mk (below_step zB hb); clear BK544; clear HB; have BK544 := n0_; have HB := n1_; clear n0_ n1_; (try clear hb); (try clear hb2); (try clear hk); (try clear hi)))
 (try simp only [Act.put, List.setIfInBounds_toArray, List.set_cons_zero, List.set_cons_succ])
 have H := HC3.out
 clear HC3
 by_cases c6 : t545 = 0
 ·rw [if_pos c6] at H
  have c6b0 : (t545 == 0) = true := beq_iff_eq.mpr c6
  have c6b1 : (t545 != 0) = false := bne_eq_false_iff_eq.mpr c6
  clear c6
  (first | rw [c6b0] | (simp only [i64_w, i32_w]; rw [c6b0]) | skip)
  (try rw [c6b1])
  replace H := Option.bind_eq_some_iff.mp H
  obtain ⟨t546, A70, H⟩ := H
  replace H : (if (t546.length : Int) > 0 then (some (([] : List (S35)), 11)) else ((ancepsref40_Vars.f k l0).bind fun t549 => ((ancepsref40_split.f k l0 t549 0 0 ([] : List (S35))).bind fun t552 => (if (t552.length : Int) > 2000 then (some (([] : List (S35)), 3)) else (some (t552, 0)))))) = some (r1, r2) := H
  have A7 := Aside0.mk A70
  clear A70
  have HC8 := Aside0.mk H
  clear H
  go_upto_if 15 with (first | ((with_reducible refine gate_callee (f := 51) rfl ?_); refine goesL_ (some 13) rfl rfl Try.func51 zK rfl #[.slice A0 l0.length c0, .int .i64 1] rfl zM ?_; (with_reducible refine (ancepsref40_solutions.calls k _ _ l0 1 t546 _ ?side1 ?side2 A7.out).mono ?_); (case side1 => repeat (first | exact (Kd.C_below HR0.out HB.out) | (with_reducible refine Kd.C_alloc ?_ _) | (with_reducible refine Kd.C_drewN ?_ _) | (with_reducible refine Kd.C_drew ?_))); (case side2 => exact HC0.out); rintro e w9 ⟨v547, rfl, ho0, hb⟩; refine ⟨_, rfl, ?_⟩; have n0_ := Aside0.mk (Kd.R_lower ho0 (below_size zB)); have n1_ := Aside0.mk (blk_below (g := gb544) (o := .cells #[.slice none 0 0] 27 (0, 0)) (zk BK544) hb); have n2_ := Aside0.mk (below_step zB hb); clear BK544; clear HB; have HO548 := n0_; have BK544 := n1_; have HB := n2_; clear n0_ n1_ n2_; (try clear hb); (try clear hb2); (try clear hk); (try clear hi); (try clear ho0); obtain ⟨Ao10, co10, eo10⟩ := Kd.R_slice HO548.out; subst eo10))
  (try simp only [Act.put, List.setIfInBounds_toArray, List.set_cons_zero, List.set_cons_succ])
  have H := HC8.out
  clear HC8
  by_cases c11 : (t546.length : Int) > 0
  ·rw [if_pos c11] at H
   have c11b0 : decide (0 < (t546.length : Int)) = true := decide_eq_true c11
   have c11b1 : decide (0 < t546.length) = true := decide_eq_true (by omega)
   clear c11
   (first | rw [c11b0] | (simp only [i64_w, i32_w]; rw [c11b0]) | skip)
   (try rw [c11b1])
   simp only [Option.some.injEq, Prod.mk.injEq] at H
   obtain ⟨rfl, rfl⟩ := H
   have hcz12_0 : w9.cell? ⟨gb544, 0, none⟩ = some (.slice none 0 0) := (blk_cell BK544.out 0).trans rfl
   have hfz12_0 := blk_frozen BK544.out 0
   go_wp2
   refine bodyPost_ret (results_ct rfl _ _ gb544 27 #[.slice none 0 0] (0, 0) _ rfl (by (with_reducible repeat (first | refine blk_drewN ?_ _ | refine blk_drew ?_ | refine blk_alloc ?_ _)); refine blk_put (cs := #[.slice none 0 0]) ?_ 0 _ rfl; (with_reducible repeat (first | refine blk_drewN ?_ _ | refine blk_drew ?_ | refine blk_alloc ?_ _)); exact BK544.out) Try.underlying27 rfl zK) rfl ?_
   exact ⟨_, by first | rfl | (simp [errW_none, errW_some] <;> rfl) | (simp [*, errW_none, errW_some] <;> rfl), by first | exact Kd.R_nil _ _ _ _ _ | exact Kd.N_nil _ _ _ _ _ | exact Kd.V_nil _ _ _ _ _ | exact Kd.Q_nil _ _ _ _ _ | exact Kd.S_nil _ _ _ _ _, by repeat (first | (with_reducible first | exact HB.out | apply below_alloc | apply pw_below_drewN | apply below_drew1 | refine below_set ?_ GE544.out) | exact HB.out)⟩
  ·rw [if_neg c11] at H
   have c11b0 : decide (0 < (t546.length : Int)) = false := decide_eq_false c11
   have c11b1 : decide (0 < t546.length) = false := decide_eq_false (by omega)
   clear c11
   (first | rw [c11b0] | (simp only [i64_w, i32_w]; rw [c11b0]) | skip)
   (try rw [c11b1])
   replace H := Option.bind_eq_some_iff.mp H
   obtain ⟨t549, A130, H⟩ := H
   replace H : ((ancepsref40_split.f k l0 t549 0 0 ([] : List (S35))).bind fun t552 => (if (t552.length : Int) > 2000 then (some (([] : List (S35)), 3)) else (some (t552, 0)))) = some (r1, r2) := H
   have A13 := Aside0.mk A130
   clear A130
   replace H := Option.bind_eq_some_iff.mp H
   obtain ⟨t552, A140, H⟩ := H
   replace H : (if (t552.length : Int) > 2000 then (some (([] : List (S35)), 3)) else (some (t552, 0))) = some (r1, r2) := H
   have A14 := Aside0.mk A140
   clear A140
   have HC15 := Aside0.mk H
   clear H
   go_upto_if 24 with (first | ((with_reducible refine gate_callee (f := 31) rfl ?_); refine goesL_ (some 19) rfl rfl Try.func31 zK rfl #[.slice A0 l0.length c0] rfl zM ?_; (with_reducible refine (ancepsref40_Vars.calls k _ _ l0 t549 _ ?side1 ?side2 A13.out).mono ?_); (case side1 => repeat (first | exact (Kd.C_below HR0.out HB.out) | (with_reducible refine Kd.C_alloc ?_ _) | (with_reducible refine Kd.C_drewN ?_ _) | (with_reducible refine Kd.C_drew ?_))); (case side2 => exact HC0.out); rintro e w16 ⟨v550, rfl, ho0, hb⟩; refine ⟨_, rfl, ?_⟩; have n0_ := Aside0.mk (Kd.R_elder' (zR HO548) (Kd.R_base ho0) hb); have n1_ := Aside0.mk (Kd.R_lower (Kd.R_new' ho0 (Kd.R_lt (zR HO548))) (below_size zB)); have n2_ := Aside0.mk (blk_below (g := gb544) (o := .cells #[.slice none 0 0] 27 (0, 0)) (zk BK544) hb); have n3_ := Aside0.mk (below_step zB hb); clear HO548; clear BK544; clear HB; have HO548 := n0_; have HO551 := n1_; have BK544 := n2_; have HB := n3_; clear n0_ n1_ n2_ n3_; (try clear hb); (try clear hb2); (try clear hk); (try clear hi); (try clear ho0); obtain ⟨Ao17, co17, eo17⟩ := Kd.R_slice HO551.out; subst eo17) | ((with_reducible refine gate_callee (f := 52) rfl ?_); refine goesL_ (some 21) rfl rfl Try.func52 zK rfl #[.slice A0 l0.length c0, .slice Ao17 t549.length co17, .agg #[.int .i64 0, .int .i64 0], .slice none 0 0] rfl zM ?_; (refine (ancepsref40_split.calls k _ _ l0 _ _ t549 0 0 (fun k_ => some k_ = (.slice none 0 0 : Value).ownBlock) (.slice none 0 0) ([] : List (S35)) t552 w _ ?side1 ?side2 ?side3 ?side4 ?side5 ?side6 A14.out).mono ?_); (case side1 => repeat (first | (with_reducible first | exact HB.out | apply below_alloc | apply pw_below_drewN | apply below_drew1 | refine below_set ?_ GE544.out) | exact HB.out)); (case side2 => exact Kd.C_kept_came k61_heap HR0.out zB (fun k_ hs_ => (fun e_ => by simp [Value.ownBlock] at e_) hs_)); (case side3 => exact HC0.out); (case side4 => exact Kd.C_kept_own (HO551.out) (fun k_ hk_ hs_ => (fun e_ => by simp [Value.ownBlock] at e_) hs_)); (case side5 => exact (Kd.R_reads' HO551.out).2.1); (case side6 => exact Kd.R_nil _ _ _ _ _); rintro e w18 ⟨v553, rfl, ho0, hb, hkp⟩; refine ⟨_, rfl, ?_⟩; have n0_ := Aside0.mk (blk_kept (zk BK544) hkp (fun hs_ => (fun e_ => by simp [Value.ownBlock] at e_) hs_)); have n1_ := Aside0.mk (Kd.R_mono (ok' := fun k_ => some k_ ≠ (.slice Ao17 t549.length co17 : Value).ownBlock) (Kd.R_keptB (HO548.out) hkp (fun k_ hk_ hs_ => (fun e_ => by simp [Value.ownBlock] at e_) hs_)) (fun k_ hk_ => hk_.1.2)); have n2_ := Aside0.mk (Kd.R_mono (ok' := fun k_ => some k_ ≠ (.slice Ao10 t546.length co10 : Value).ownBlock) (Kd.R_keptB (HO551.out) hkp (fun k_ hk_ hs_ => (fun e_ => by simp [Value.ownBlock] at e_) hs_)) (fun k_ hk_ => hk_.1.2)); have n3_ := Aside0.mk (Kd.R_mono (ok' := fun k_ => True) ho0 (fun k_ hk_ => trivial)); have n4_ := Aside0.mk (hb); clear BK544; clear HO548; clear HO551; clear HB; have BK544 := n0_; have HO548 := n1_; have HO551 := n2_; have HO554 := n3_; have HB := n4_; clear n0_ n1_ n2_ n3_ n4_; (try clear hb); (try clear hkp); (try clear ho0); obtain ⟨Ao19, co19, eo19⟩ := Kd.R_slice HO554.out; subst eo19))
   (try simp only [Act.put, List.setIfInBounds_toArray, List.set_cons_zero, List.set_cons_succ])
   have H := HC15.out
   clear HC15
   by_cases c20 : (t552.length : Int) > 2000
   ·rw [if_pos c20] at H
    have c20b0 : decide (2000 < (t552.length : Int)) = true := decide_eq_true c20
    have c20b1 : decide (2000 < t552.length) = true := decide_eq_true (by omega)
    clear c20
    (first | rw [c20b0] | (simp only [i64_w, i32_w]; rw [c20b0]) | skip)
    (try rw [c20b1])
    simp only [Option.some.injEq, Prod.mk.injEq] at H
    obtain ⟨rfl, rfl⟩ := H
    have hcz21_0 : w18.cell? ⟨gb544, 0, none⟩ = some (.slice none 0 0) := (blk_cell BK544.out 0).trans rfl
    have hfz21_0 := blk_frozen BK544.out 0
    go_wp2
    refine bodyPost_ret (results_ct rfl _ _ gb544 27 #[.slice none 0 0] (0, 0) _ rfl (by (with_reducible repeat (first | refine blk_drewN ?_ _ | refine blk_drew ?_ | refine blk_alloc ?_ _)); refine blk_put (cs := #[.slice none 0 0]) ?_ 0 _ rfl; (with_reducible repeat (first | refine blk_drewN ?_ _ | refine blk_drew ?_ | refine blk_alloc ?_ _)); exact BK544.out) Try.underlying27 rfl zK) rfl ?_
    exact ⟨_, by first | rfl | (simp [errW_none, errW_some] <;> rfl) | (simp [*, errW_none, errW_some] <;> rfl), by first | exact Kd.R_nil _ _ _ _ _ | exact Kd.N_nil _ _ _ _ _ | exact Kd.V_nil _ _ _ _ _ | exact Kd.Q_nil _ _ _ _ _ | exact Kd.S_nil _ _ _ _ _, by repeat (first | (with_reducible first | exact HB.out | apply below_alloc | apply pw_below_drewN | apply below_drew1 | refine below_set ?_ GE544.out) | exact HB.out)⟩
   ·rw [if_neg c20] at H
    have c20b0 : decide (2000 < (t552.length : Int)) = false := decide_eq_false c20
    have c20b1 : decide (2000 < t552.length) = false := decide_eq_false (by omega)
    clear c20
    (first | rw [c20b0] | (simp only [i64_w, i32_w]; rw [c20b0]) | skip)
    (try rw [c20b1])
    simp only [Option.some.injEq, Prod.mk.injEq] at H
    obtain ⟨rfl, rfl⟩ := H
    have hcz22_0 : w18.cell? ⟨gb544, 0, none⟩ = some (.slice none 0 0) := (blk_cell BK544.out 0).trans rfl
    have hfz22_0 := blk_frozen BK544.out 0
    go_wp2
    refine bodyPost_ret (results_ct rfl _ _ gb544 27 #[.slice Ao19 t552.length co19] (0, 0) _ rfl (by (with_reducible repeat (first | refine blk_drewN ?_ _ | refine blk_drew ?_ | refine blk_alloc ?_ _)); refine blk_put (cs := #[.slice none 0 0]) ?_ 0 _ rfl; (with_reducible repeat (first | refine blk_drewN ?_ _ | refine blk_drew ?_ | refine blk_alloc ?_ _)); exact BK544.out) Try.underlying27 rfl zK) rfl ?_
    exact ⟨_, by first | rfl | (simp [errW_none, errW_some] <;> rfl) | (simp [*, errW_none, errW_some] <;> rfl), by (with_reducible repeat (first | apply Kd.R_alloc | apply Kd.R_drewN | apply Kd.R_drew)); exact Kd.R_mono (Kd.R_far (p := ⟨gb544, 0, none⟩) (Kd.R_types HO554.out BK544.out (by decide)) (fun _ hk => hk.2) (.slice Ao19 t552.length co19)) (fun _ hk => trivial), by repeat (first | (with_reducible first | exact HB.out | apply below_alloc | apply pw_below_drewN | apply below_drew1 | refine below_set ?_ GE544.out) | exact HB.out)⟩
 ·rw [if_neg c6] at H
  have c6b0 : (t545 == 0) = false := beq_eq_false_iff_ne.mpr c6
  have c6b1 : (t545 != 0) = true := bne_iff_ne.mpr c6
  (first | rw [c6b0] | (simp only [i64_w, i32_w]; rw [c6b0]) | skip)
  (try rw [c6b1])
  simp only [Option.some.injEq, Prod.mk.injEq] at H
  obtain ⟨rfl, rfl⟩ := H
  have hcz23_0 : w5.cell? ⟨gb544, 0, none⟩ = some (.slice none 0 0) := (blk_cell BK544.out 0).trans rfl
  have hfz23_0 := blk_frozen BK544.out 0
  go_wp2
  refine bodyPost_ret (results_ct rfl _ _ gb544 27 #[.slice none 0 0] (0, 0) _ rfl (by (with_reducible repeat (first | refine blk_drewN ?_ _ | refine blk_drew ?_ | refine blk_alloc ?_ _)); refine blk_put (cs := #[.slice none 0 0]) ?_ 0 _ rfl; (with_reducible repeat (first | refine blk_drewN ?_ _ | refine blk_drew ?_ | refine blk_alloc ?_ _)); exact BK544.out) Try.underlying27 rfl zK) rfl ?_
  exact ⟨_, by first | rfl | (simp [errW_none, errW_some] <;> rfl) | (simp [*, errW_none, errW_some] <;> rfl), by first | exact Kd.R_nil _ _ _ _ _ | exact Kd.N_nil _ _ _ _ _ | exact Kd.V_nil _ _ _ _ _ | exact Kd.Q_nil _ _ _ _ _ | exact Kd.S_nil _ _ _ _ _, by repeat (first | (with_reducible first | exact HB.out | apply below_alloc | apply pw_below_drewN | apply below_drew1 | refine below_set ?_ GE544.out) | exact HB.out)⟩
/-! ### ancepsref40_Same: function 16 -/
def ancepsref40_Same.l0 : Nat → Int → List (S35) → List (S35) → Option (Bool)
 | 0, _, _, _ => none
 | k + 1, x5, x556000, x557000 => if x5 < (x556000.length : Int) then (if 0 ≤ x5 then (if x5 < (x557000.length : Int) then (if (!(((rd_T35 x556000 x5).f0) == ((rd_T35 x557000 x5).f0)) || (!(((rd_T35 x556000 x5).f1) == ((rd_T35 x557000 x5).f1)) || (!(((rd_T35 x556000 x5).f2) == ((rd_T35 x557000 x5).f2)) || (!(((rd_T35 x556000 x5).f3) == ((rd_T35 x557000 x5).f3)))))) = true then (some false) else (ancepsref40_Same.l0 k (wrap64 (x5 + 1)) x556000 x557000)) else (none)) else (none)) else (some true)
def ancepsref40_Same.f (k : Nat) (l0_0 : List (S35)) (l1_0 : List (S35)) : Option (Bool) := if (l0_0.length : Int) = (l1_0.length : Int) then (ancepsref40_Same.l0 k 0 l0_0 l1_0) else (some false)
theorem ancepsref40_Same.mono_l : ∀ k, (∀ y0 y1 y2, LeO (ancepsref40_Same.l0 k y0 y1 y2) (ancepsref40_Same.l0 (k + 1) y0 y1 y2))
 | 0 => fun _ _ _ r h => by simp [ancepsref40_Same.l0] at h
 | k + 1 => by
  have ih0 := ancepsref40_Same.mono_l k
  ·intro y0 y1 y2
   unfold ancepsref40_Same.l0
   repeat' first
   | (with_reducible exact ih0 _ _ _)
   | (with_reducible exact LeO.refl _)
   | (with_reducible exact LeO.none _)
   | (with_reducible refine LeO.ite ?_ ?_)
   | (with_reducible refine LeO.bind ?_ (fun _ => ?_))
   | exact ih0 _ _ _
   | exact LeO.none _
   | refine LeO.ite ?_ ?_
   | refine LeO.bind ?_ (fun _ => ?_)
theorem ancepsref40_Same.mono : ∀ a0 a1 k, LeO (ancepsref40_Same.f k a0 a1) (ancepsref40_Same.f (k + 1) a0 a1) := by
 intro a0 a1 k
 have ih0 := ancepsref40_Same.mono_l k
 unfold ancepsref40_Same.f
 repeat' first
   | (with_reducible exact ih0 _ _ _)
   | (with_reducible exact LeO.refl _)
   | (with_reducible exact LeO.none _)
   | (with_reducible refine LeO.ite ?_ ?_)
   | (with_reducible refine LeO.bind ?_ (fun _ => ?_))
   | exact ih0 _ _ _
   | exact LeO.none _
   | refine LeO.ite ?_ ?_
   | refine LeO.bind ?_ (fun _ => ?_)
set_option maxHeartbeats 8000000 in
set_option maxRecDepth 100000 in
theorem ancepsref40_Same.calls (k : Nat) (A0_0 : Option Addr) (c0_0 : Nat) (l0_0 : List (S35)) (A1_0 : Option Addr) (c1_0 : Nat) (l1_0 : List (S35)) (r : Bool) (w : World) (hr0_0 : Kd.C k35 w A0_0 l0_0.length l0_0) (hc0_0 : l0_0.length ≤ c0_0) (hr1_0 : Kd.C k35 w A1_0 l1_0.length l1_0) (hc1_0 : l1_0.length ≤ c1_0) (h : ancepsref40_Same.f k l0_0 l1_0 = some r) :
  Calls Try.prog 16 #[.agg #[.slice A0_0 l0_0.length c0_0], .agg #[.slice A1_0 l1_0.length c1_0]] w fun e w' => e = .returned (.bool r) ∧ Below w.heap.size w w' := by
 have hu27 := Try.underlying27
 have hu25 := Try.underlying25
 have hu35 := Try.underlying35
 have HR0_0 := Aside0.mk hr0_0
 have HC0_0 := Aside0.mk hc0_0
 clear hr0_0 hc0_0
 have HR1_0 := Aside0.mk hr1_0
 have HC1_0 := Aside0.mk hc1_0
 clear hr1_0 hc1_0
 have HB := Aside0.mk (Below.refl w.heap.size w)
 have H : (if (l0_0.length : Int) = (l1_0.length : Int) then (ancepsref40_Same.l0 k 0 l0_0 l1_0) else (some false)) = some r := h
 clear h
 have HC3 := Aside0.mk H
 clear H
 go_enter Try.func16, Try.ntmps16
 go_upto_if 12 with (first | ((with_reducible refine gate_dst (N := 2) rfl ?_); refine box_event ?hg (N := 2) ?hd (cs := #[.slice A0_0 l0_0.length c0_0]) (t := 27) ?hr ?_; (case hd => rfl); (case hg => rfl); (case hr => first | (go_simp; done) | (go_simp; rfl)); intro gb555 hg w4 hbox hb; have n0_ := Aside0.mk (below_step zB hb); have n1_ := Aside0.mk (hbox); have n2_ := Aside0.mk ((by rw [hg]; exact (below_size zB) : w.heap.size ≤ gb555)); have n3_ := Aside0.mk ((by rw [hg]; exact (below_size zB) : w.heap.size ≤ gb555)); clear HB; have HB := n0_; have BK555 := n1_; have GW555 := n2_; have GE555 := n3_; clear n0_ n1_ n2_ n3_; clear hb hbox hg) | ((with_reducible refine gate_dst (N := 3) rfl ?_); refine box_event ?hg (N := 3) ?hd (cs := #[.slice A1_0 l1_0.length c1_0]) (t := 27) ?hr ?_; (case hd => rfl); (case hg => rfl); (case hr => first | (go_simp; done) | (go_simp; rfl)); intro gb556 hg w5 hbox hb; have n0_ := Aside0.mk (blk_below (g := gb555) (o := .cells #[.slice A0_0 l0_0.length c0_0] 27 (0, 0)) (zk BK555) hb); have n1_ := Aside0.mk (below_step zB hb); have n2_ := Aside0.mk (hbox); have n3_ := Aside0.mk ((by rw [hg]; exact (below_size zB) : w.heap.size ≤ gb556)); have n4_ := Aside0.mk ((by rw [hg]; exact (below_size zB) : w.heap.size ≤ gb556)); have n5_ := Aside0.mk ((by rw [hg]; exact Nat.ne_of_lt (blk_lt (g := gb555) (o := .cells #[.slice A0_0 l0_0.length c0_0] 27 (0, 0)) (zk BK555)) : gb555 ≠ gb556)); have n6_ := Aside0.mk ((by rw [hg]; exact Nat.ne_of_gt (blk_lt (g := gb555) (o := .cells #[.slice A0_0 l0_0.length c0_0] 27 (0, 0)) (zk BK555)) : gb556 ≠ gb555)); clear BK555; clear HB; have BK555 := n0_; have HB := n1_; have BK556 := n2_; have GW556 := n3_; have GE556 := n4_; have NB555_556 := n5_; have NB556_555 := n6_; clear n0_ n1_ n2_ n3_ n4_ n5_ n6_; clear hb hbox hg; have hnb6 := NB555_556.out; have hnc6 := NB556_555.out; have hcz7_0 : w5.cell? ⟨gb555, 0, none⟩ = some (.slice A0_0 l0_0.length c0_0) := (blk_cell BK555.out 0).trans rfl; have hfz7_0 := blk_frozen BK555.out 0; have hcz8_0 : w5.cell? ⟨gb556, 0, none⟩ = some (.slice A1_0 l1_0.length c1_0) := (blk_cell BK556.out 0).trans rfl; have hfz8_0 := blk_frozen BK556.out 0))
 repeat (go_quiet (first | ((with_reducible refine gate_dst (N := 2) rfl ?_); refine box_event ?hg (N := 2) ?hd (cs := #[.slice A0_0 l0_0.length c0_0]) (t := 27) ?hr ?_; (case hd => rfl); (case hg => rfl); (case hr => first | (go_simp; done) | (go_simp; rfl)); intro gb555 hg w4 hbox hb; have n0_ := Aside0.mk (below_step zB hb); have n1_ := Aside0.mk (hbox); have n2_ := Aside0.mk ((by rw [hg]; exact (below_size zB) : w.heap.size ≤ gb555)); have n3_ := Aside0.mk ((by rw [hg]; exact (below_size zB) : w.heap.size ≤ gb555)); clear HB; have HB := n0_; have BK555 := n1_; have GW555 := n2_; have GE555 := n3_; clear n0_ n1_ n2_ n3_; clear hb hbox hg) | ((with_reducible refine gate_dst (N := 3) rfl ?_); refine box_event ?hg (N := 3) ?hd (cs := #[.slice A1_0 l1_0.length c1_0]) (t := 27) ?hr ?_; (case hd => rfl); (case hg => rfl); (case hr => first | (go_simp; done) | (go_simp; rfl)); intro gb556 hg w5 hbox hb; have n0_ := Aside0.mk (blk_below (g := gb555) (o := .cells #[.slice A0_0 l0_0.length c0_0] 27 (0, 0)) (zk BK555) hb); have n1_ := Aside0.mk (below_step zB hb); have n2_ := Aside0.mk (hbox); have n3_ := Aside0.mk ((by rw [hg]; exact (below_size zB) : w.heap.size ≤ gb556)); have n4_ := Aside0.mk ((by rw [hg]; exact (below_size zB) : w.heap.size ≤ gb556)); have n5_ := Aside0.mk ((by rw [hg]; exact Nat.ne_of_lt (blk_lt (g := gb555) (o := .cells #[.slice A0_0 l0_0.length c0_0] 27 (0, 0)) (zk BK555)) : gb555 ≠ gb556)); have n6_ := Aside0.mk ((by rw [hg]; exact Nat.ne_of_gt (blk_lt (g := gb555) (o := .cells #[.slice A0_0 l0_0.length c0_0] 27 (0, 0)) (zk BK555)) : gb556 ≠ gb555)); clear BK555; clear HB; have BK555 := n0_; have HB := n1_; have BK556 := n2_; have GW556 := n3_; have GE556 := n4_; have NB555_556 := n5_; have NB556_555 := n6_; clear n0_ n1_ n2_ n3_ n4_ n5_ n6_; clear hb hbox hg; have hnb6 := NB555_556.out; have hnc6 := NB556_555.out; have hcz7_0 : w5.cell? ⟨gb555, 0, none⟩ = some (.slice A0_0 l0_0.length c0_0) := (blk_cell BK555.out 0).trans rfl; have hfz7_0 := blk_frozen BK555.out 0; have hcz8_0 : w5.cell? ⟨gb556, 0, none⟩ = some (.slice A1_0 l1_0.length c1_0) := (blk_cell BK556.out 0).trans rfl; have hfz8_0 := blk_frozen BK556.out 0)); go_upto_if 12 with (first | ((with_reducible refine gate_dst (N := 2) rfl ?_); refine box_event ?hg (N := 2) ?hd (cs := #[.slice A0_0 l0_0.length c0_0]) (t := 27) ?hr ?_; (case hd => rfl); (case hg => rfl); (case hr => first | (go_simp; done) | (go_simp; rfl)); intro gb555 hg w4 hbox hb; have n0_ := Aside0.mk (below_step zB hb); have n1_ := Aside0.mk (hbox); have n2_ := Aside0.mk ((by rw [hg]; exact (below_size zB) : w.heap.size ≤ gb555)); have n3_ := Aside0.mk ((by rw [hg]; exact (below_size zB) : w.heap.size ≤ gb555)); clear HB; have HB := n0_; have BK555 := n1_; have GW555 := n2_; have GE555 := n3_; clear n0_ n1_ n2_ n3_; clear hb hbox hg) | ((with_reducible refine gate_dst (N := 3) rfl ?_); refine box_event ?hg (N := 3) ?hd (cs := #[.slice A1_0 l1_0.length c1_0]) (t := 27) ?hr ?_; (case hd => rfl); (case hg => rfl); (case hr => first | (go_simp; done) | (go_simp; rfl)); intro gb556 hg w5 hbox hb; have n0_ := Aside0.mk (blk_below (g := gb555) (o := .cells #[.slice A0_0 l0_0.length c0_0] 27 (0, 0)) (zk BK555) hb); have n1_ := Aside0.mk (below_step zB hb); have n2_ := Aside0.mk (hbox); have n3_ := Aside0.mk ((by rw [hg]; exact (below_size zB) : w.heap.size ≤ gb556)); have n4_ := Aside0.mk ((by rw [hg]; exact (below_size zB) : w.heap.size ≤ gb556)); have n5_ := Aside0.mk ((by rw [hg]; exact Nat.ne_of_lt (blk_lt (g := gb555) (o := .cells #[.slice A0_0 l0_0.length c0_0] 27 (0, 0)) (zk BK555)) : gb555 ≠ gb556)); have n6_ := Aside0.mk ((by rw [hg]; exact Nat.ne_of_gt (blk_lt (g := gb555) (o := .cells #[.slice A0_0 l0_0.length c0_0] 27 (0, 0)) (zk BK555)) : gb556 ≠ gb555)); clear BK555; clear HB; have BK555 := n0_; have HB := n1_; have BK556 := n2_; have GW556 := n3_; have GE556 := n4_; have NB555_556 := n5_; have NB556_555 := n6_; clear n0_ n1_ n2_ n3_ n4_ n5_ n6_; clear hb hbox hg; have hnb6 := NB555_556.out; have hnc6 := NB556_555.out; have hcz7_0 : w5.cell? ⟨gb555, 0, none⟩ = some (.slice A0_0 l0_0.length c0_0) := (blk_cell BK555.out 0).trans rfl; have hfz7_0 := blk_frozen BK555.out 0; have hcz8_0 : w5.cell? ⟨gb556, 0, none⟩ = some (.slice A1_0 l1_0.length c1_0) := (blk_cell BK556.out 0).trans rfl; have hfz8_0 := blk_frozen BK556.out 0)))
 (try simp only [Act.put, List.setIfInBounds_toArray, List.set_cons_zero, List.set_cons_succ])
 have H := HC3.out
 clear HC3
 by_cases c9 : (l0_0.length : Int) = (l1_0.length : Int)
 ·rw [if_pos c9] at H
  have c9b0 : ((l0_0.length : Int) == (l1_0.length : Int)) = true := beq_iff_eq.mpr c9
  have c9b1 : ((l0_0.length : Int) != (l1_0.length : Int)) = false := bne_eq_false_iff_eq.mpr c9
  have c9b2 : (l0_0.length == l1_0.length) = true := by first | simpa using c9 | (simp at c9 ⊢; omega)
  clear c9
  (first | rw [c9b0] | (simp only [i64_w, i32_w]; rw [c9b0]) | skip)
  (try rw [c9b1])
  (try rw [c9b2])
  have H' := Aside0.mk H
  clear H
  go_wp2
  repeat (go_quiet (fail); try go_wp2)
  go_loopg [5] k (fun kq v5 w' => ∃ (x5_1 : Int), v5 = .int .i64 x5_1 ∧ Aside0 (ancepsref40_Same.l0 kq x5_1 l0_0 l1_0 = some r) ∧ Aside0 (kq ≤ k) ∧ Aside0 (w'.heap[gb555]? = some (.cells #[(.slice A0_0 l0_0.length c0_0)] 27 (0, 0))) ∧ Aside0 (w'.heap[gb556]? = some (.cells #[(.slice A1_0 l1_0.length c1_0)] 27 (0, 0))) ∧ Aside0 (Below w.heap.size w w'))
  case atStart => exact ⟨(0), zT, H', ⟨Nat.le_refl _⟩, ⟨by (with_reducible repeat (first | refine blk_drewN ?_ _ | refine blk_drew ?_ | refine blk_alloc ?_ _)); exact BK555.out⟩, ⟨by (with_reducible repeat (first | refine blk_drewN ?_ _ | refine blk_drew ?_ | refine blk_alloc ?_ _)); exact BK556.out⟩, ⟨by repeat (first | (with_reducible first | exact HB.out | apply below_alloc | apply pw_below_drewN | apply below_drew1 | refine below_set ?_ GE555.out | refine below_set ?_ GE556.out) | exact HB.out)⟩⟩
  case round =>
   clear H'
   try clear c9
   try clear c9b0
   try clear c9b1
   try clear c9b2
   try clear hcz7_0
   try clear hcz8_0
   try clear hfz7_0
   try clear hfz8_0
   obtain ⟨x5_1, rfl, HA, HK1, BK555, BK556, HB⟩ := hrel
   cases gk with
   | zero => exact absurd HA.out (by simp [ancepsref40_Same.l0])
   | succ k1 =>
    have H := HA.out
    clear HA
    simp only [ancepsref40_Same.l0] at H
    by_cases c10 : x5_1 < (l0_0.length : Int)
    ·rw [if_pos c10] at H
     have c10b0 : decide (x5_1 < (l0_0.length : Int)) = true := decide_eq_true c10
     clear c10
     by_cases c11 : 0 ≤ x5_1
     ·rw [if_pos c11] at H
      have c11b0 : decide (0 ≤ x5_1) = true := decide_eq_true c11
      clear c11
      by_cases c12 : x5_1 < (l1_0.length : Int)
      ·rw [if_pos c12] at H
       have c12b0 : decide (x5_1 < (l1_0.length : Int)) = true := decide_eq_true c12
       clear c12
       by_cases c13 : (!(((rd_T35 l0_0 x5_1).f0) == ((rd_T35 l1_0 x5_1).f0)) || (!(((rd_T35 l0_0 x5_1).f1) == ((rd_T35 l1_0 x5_1).f1)) || (!(((rd_T35 l0_0 x5_1).f2) == ((rd_T35 l1_0 x5_1).f2)) || (!(((rd_T35 l0_0 x5_1).f3) == ((rd_T35 l1_0 x5_1).f3)))))) = true
       ·rw [if_pos c13] at H
        have c13b0 : (!(((rd_T35 l0_0 x5_1).f0) == ((rd_T35 l1_0 x5_1).f0)) || (!(((rd_T35 l0_0 x5_1).f1) == ((rd_T35 l1_0 x5_1).f1)) || (!(((rd_T35 l0_0 x5_1).f2) == ((rd_T35 l1_0 x5_1).f2)) || (!(((rd_T35 l0_0 x5_1).f3) == ((rd_T35 l1_0 x5_1).f3)))))) = true := c13
        clear c13
        obtain rfl := Option.some.inj H
        have hnb14 := NB555_556.out
        have hnc14 := NB556_555.out
        have hcz15_0 : wr.cell? ⟨gb555, 0, none⟩ = some (.slice A0_0 l0_0.length c0_0) := (blk_cell BK555.out 0).trans rfl
        have hfz15_0 := blk_frozen BK555.out 0
        have p557 : 0 ≤ (x5_1 : Int) := of_decide_eq_true zh
        have q557 : x5_1 < (l0_0.length : Int) := of_decide_eq_true zh
        obtain ⟨ad557, e557, hx557_0, hx557_1, hx557_2, hx557_3⟩ := at_T35 HR0_0.out x5_1 p557 q557
        cases e557
        replace hx557_0 := (HB.out.cell (World.block_lt_of_cell? w _ hx557_0)).trans hx557_0
        replace hx557_1 := (HB.out.cell (World.block_lt_of_cell? w _ hx557_1)).trans hx557_1
        replace hx557_2 := (HB.out.cell (World.block_lt_of_cell? w _ hx557_2)).trans hx557_2
        replace hx557_3 := (HB.out.cell (World.block_lt_of_cell? w _ hx557_3)).trans hx557_3
        replace p557 := eq_true p557
        replace q557 := eq_true q557
        have hcz16_0 : wr.cell? ⟨gb556, 0, none⟩ = some (.slice A1_0 l1_0.length c1_0) := (blk_cell BK556.out 0).trans rfl
        have hfz16_0 := blk_frozen BK556.out 0
        have p558 : 0 ≤ (x5_1 : Int) := of_decide_eq_true zh
        have q558 : x5_1 < (l1_0.length : Int) := of_decide_eq_true zh
        obtain ⟨ad558, e558, hx558_0, hx558_1, hx558_2, hx558_3⟩ := at_T35 HR1_0.out x5_1 p558 q558
        cases e558
        replace hx558_0 := (HB.out.cell (World.block_lt_of_cell? w _ hx558_0)).trans hx558_0
        replace hx558_1 := (HB.out.cell (World.block_lt_of_cell? w _ hx558_1)).trans hx558_1
        replace hx558_2 := (HB.out.cell (World.block_lt_of_cell? w _ hx558_2)).trans hx558_2
        replace hx558_3 := (HB.out.cell (World.block_lt_of_cell? w _ hx558_3)).trans hx558_3
        replace p558 := eq_true p558
        replace q558 := eq_true q558
        go_wp2
        repeat (go_quiet (fail); try go_wp2)
        go_ret
        exact ⟨by first | rfl | (simp [errW_none, errW_some] <;> rfl) | (simp [*, errW_none, errW_some] <;> rfl), by repeat (first | (with_reducible first | exact HB.out | apply below_alloc | apply pw_below_drewN | apply below_drew1 | refine below_set ?_ GE555.out | refine below_set ?_ GE556.out) | exact HB.out)⟩
       ·rw [if_neg c13] at H
        have c13b0 : (!(((rd_T35 l0_0 x5_1).f0) == ((rd_T35 l1_0 x5_1).f0)) || (!(((rd_T35 l0_0 x5_1).f1) == ((rd_T35 l1_0 x5_1).f1)) || (!(((rd_T35 l0_0 x5_1).f2) == ((rd_T35 l1_0 x5_1).f2)) || (!(((rd_T35 l0_0 x5_1).f3) == ((rd_T35 l1_0 x5_1).f3)))))) = false := by simpa using c13
        clear c13
        have H' := Aside0.mk H
        clear H
        have hnb17 := NB555_556.out
        have hnc17 := NB556_555.out
        have hcz18_0 : wr.cell? ⟨gb555, 0, none⟩ = some (.slice A0_0 l0_0.length c0_0) := (blk_cell BK555.out 0).trans rfl
        have hfz18_0 := blk_frozen BK555.out 0
        have p557 : 0 ≤ (x5_1 : Int) := of_decide_eq_true zh
        have q557 : x5_1 < (l0_0.length : Int) := of_decide_eq_true zh
        obtain ⟨ad557, e557, hx557_0, hx557_1, hx557_2, hx557_3⟩ := at_T35 HR0_0.out x5_1 p557 q557
        cases e557
        replace hx557_0 := (HB.out.cell (World.block_lt_of_cell? w _ hx557_0)).trans hx557_0
        replace hx557_1 := (HB.out.cell (World.block_lt_of_cell? w _ hx557_1)).trans hx557_1
        replace hx557_2 := (HB.out.cell (World.block_lt_of_cell? w _ hx557_2)).trans hx557_2
        replace hx557_3 := (HB.out.cell (World.block_lt_of_cell? w _ hx557_3)).trans hx557_3
        replace p557 := eq_true p557
        replace q557 := eq_true q557
        have hcz19_0 : wr.cell? ⟨gb556, 0, none⟩ = some (.slice A1_0 l1_0.length c1_0) := (blk_cell BK556.out 0).trans rfl
        have hfz19_0 := blk_frozen BK556.out 0
        have p558 : 0 ≤ (x5_1 : Int) := of_decide_eq_true zh
        have q558 : x5_1 < (l1_0.length : Int) := of_decide_eq_true zh
        obtain ⟨ad558, e558, hx558_0, hx558_1, hx558_2, hx558_3⟩ := at_T35 HR1_0.out x5_1 p558 q558
        cases e558
        replace hx558_0 := (HB.out.cell (World.block_lt_of_cell? w _ hx558_0)).trans hx558_0
        replace hx558_1 := (HB.out.cell (World.block_lt_of_cell? w _ hx558_1)).trans hx558_1
        replace hx558_2 := (HB.out.cell (World.block_lt_of_cell? w _ hx558_2)).trans hx558_2
        replace hx558_3 := (HB.out.cell (World.block_lt_of_cell? w _ hx558_3)).trans hx558_3
        replace p558 := eq_true p558
        replace q558 := eq_true q558
        go_wp2
        repeat (go_quiet (fail); try go_wp2)
        go_roundg k1
        case measure => have := HK1.out; omega
        case rel => exact ⟨(wrap64 (x5_1 + 1)), zT, H', ⟨by have := HK1.out; omega⟩, ⟨by (with_reducible repeat (first | refine blk_drewN ?_ _ | refine blk_drew ?_ | refine blk_alloc ?_ _)); exact BK555.out⟩, ⟨by (with_reducible repeat (first | refine blk_drewN ?_ _ | refine blk_drew ?_ | refine blk_alloc ?_ _)); exact BK556.out⟩, ⟨by repeat (first | (with_reducible first | exact HB.out | apply below_alloc | apply pw_below_drewN | apply below_drew1 | refine below_set ?_ GE555.out | refine below_set ?_ GE556.out) | exact HB.out)⟩⟩
      ·rw [if_neg c12] at H
       exact absurd H (by simp)
     ·rw [if_neg c11] at H
      exact absurd H (by simp)
    ·rw [if_neg c10] at H
     have c10b0 : decide (x5_1 < (l0_0.length : Int)) = false := decide_eq_false c10
     clear c10
     obtain rfl := Option.some.inj H
     have hnb20 := NB555_556.out
     have hnc20 := NB556_555.out
     have hcz21_0 : wr.cell? ⟨gb555, 0, none⟩ = some (.slice A0_0 l0_0.length c0_0) := (blk_cell BK555.out 0).trans rfl
     have hfz21_0 := blk_frozen BK555.out 0
     go_wp2
     repeat (go_quiet (fail); try go_wp2)
     go_ret
     exact ⟨by first | rfl | (simp [errW_none, errW_some] <;> rfl) | (simp [*, errW_none, errW_some] <;> rfl), by repeat (first | (with_reducible first | exact HB.out | apply below_alloc | apply pw_below_drewN | apply below_drew1 | refine below_set ?_ GE555.out | refine below_set ?_ GE556.out) | exact HB.out)⟩
 ·rw [if_neg c9] at H
  have c9b0 : ((l0_0.length : Int) == (l1_0.length : Int)) = false := beq_eq_false_iff_ne.mpr c9
  have c9b1 : ((l0_0.length : Int) != (l1_0.length : Int)) = true := bne_iff_ne.mpr c9
  have c9b2 : (l0_0.length == l1_0.length) = false := by first | simpa using c9 | (simp at c9 ⊢; omega)
  (first | rw [c9b0] | (simp only [i64_w, i32_w]; rw [c9b0]) | skip)
  (try rw [c9b1])
  (try rw [c9b2])
  obtain rfl := Option.some.inj H
  go_wp2
  repeat (go_quiet (fail); try go_wp2)
  go_ret
  exact ⟨by first | rfl | (simp [errW_none, errW_some] <;> rfl) | (simp [*, errW_none, errW_some] <;> rfl), by repeat (first | (with_reducible first | exact HB.out | apply below_alloc | apply pw_below_drewN | apply below_drew1 | refine below_set ?_ GE555.out | refine below_set ?_ GE556.out) | exact HB.out)⟩
/-! ### ancepslaw40_SolveRefute: function 3 -/
def ancepslaw40_SolveRefute.j0 : Nat → List (S61) → Bool → Option (Bool)
 | 0, _, _ => none
 | k + 1, x0, x13 => if x13 = true then ((ancepslaw40_awake.f k).bind fun t561 => (some t561)) else ((solve_Refute.f k x0).bind fun bt562 => ((ancepsref40_Refute.f k x0).bind fun bt567 => (if bt562.2 = bt567.2 then ((ancepsref40_Same.f k bt562.1 bt567.1).bind fun t572 => (if t572 = true then (if bt562.2 = 0 then ((solve_Check.f k x0 bt562.1).bind fun t573 => (some t573)) else (some true)) else (some false))) else (some false))))
def ancepslaw40_SolveRefute.f (k : Nat) (l0 : List (S61)) : Option (Bool) := (ancepslaw40_awake.f k).bind fun t559 => (if t559 = true then ((ancepsref40_Few.f k l0).bind fun t560 => (ancepslaw40_SolveRefute.j0 k l0 (!t560))) else (ancepslaw40_SolveRefute.j0 k l0 true))
theorem ancepslaw40_SolveRefute.mono_l : ∀ k, (∀ y0 y1, LeO (ancepslaw40_SolveRefute.j0 k y0 y1) (ancepslaw40_SolveRefute.j0 (k + 1) y0 y1))
 | 0 => fun _ _ r h => by simp [ancepslaw40_SolveRefute.j0] at h
 | k + 1 => by
  have ih0 := ancepslaw40_SolveRefute.mono_l k
  ·intro y0 y1
   unfold ancepslaw40_SolveRefute.j0
   repeat' first
   | (with_reducible exact ih0 _ _)
   | (with_reducible exact ancepslaw40_awake.mono _)
   | (with_reducible exact ancepsref40_Few.mono _ _)
   | (with_reducible exact ancepsref40_Refute.mono _ _)
   | (with_reducible exact ancepsref40_Same.mono _ _ _)
   | (with_reducible exact solve_Check.mono _ _ _)
   | (with_reducible exact solve_Refute.mono _ _)
   | (with_reducible exact LeO.refl _)
   | (with_reducible exact LeO.none _)
   | (with_reducible refine LeO.ite ?_ ?_)
   | (with_reducible refine LeO.bind ?_ (fun _ => ?_))
   | exact ih0 _ _
   | exact ancepslaw40_awake.mono _
   | exact ancepsref40_Few.mono _ _
   | exact ancepsref40_Refute.mono _ _
   | exact ancepsref40_Same.mono _ _ _
   | exact solve_Check.mono _ _ _
   | exact solve_Refute.mono _ _
   | exact LeO.none _
   | refine LeO.ite ?_ ?_
   | refine LeO.bind ?_ (fun _ => ?_)
theorem ancepslaw40_SolveRefute.mono : ∀ a0 k, LeO (ancepslaw40_SolveRefute.f k a0) (ancepslaw40_SolveRefute.f (k + 1) a0) := by
 intro a0 k
 have ih0 := ancepslaw40_SolveRefute.mono_l k
 unfold ancepslaw40_SolveRefute.f
 repeat' first
   | (with_reducible exact ih0 _ _)
   | (with_reducible exact ancepslaw40_awake.mono _)
   | (with_reducible exact ancepsref40_Few.mono _ _)
   | (with_reducible exact ancepsref40_Refute.mono _ _)
   | (with_reducible exact ancepsref40_Same.mono _ _ _)
   | (with_reducible exact solve_Check.mono _ _ _)
   | (with_reducible exact solve_Refute.mono _ _)
   | (with_reducible exact LeO.refl _)
   | (with_reducible exact LeO.none _)
   | (with_reducible refine LeO.ite ?_ ?_)
   | (with_reducible refine LeO.bind ?_ (fun _ => ?_))
   | exact ih0 _ _
   | exact ancepslaw40_awake.mono _
   | exact ancepsref40_Few.mono _ _
   | exact ancepsref40_Refute.mono _ _
   | exact ancepsref40_Same.mono _ _ _
   | exact solve_Check.mono _ _ _
   | exact solve_Refute.mono _ _
   | exact LeO.none _
   | refine LeO.ite ?_ ?_
   | refine LeO.bind ?_ (fun _ => ?_)
set_option maxHeartbeats 8000000 in
set_option maxRecDepth 100000 in
theorem ancepslaw40_SolveRefute.calls (k : Nat) (A0 : Option Addr) (c0 : Nat) (l0 : List (S61)) (r : Bool) (w : World) (hr0 : Kd.C k61 w A0 l0.length l0) (hc0 : l0.length ≤ c0) (h : ancepslaw40_SolveRefute.f k l0 = some r) :
  Calls Try.prog 3 #[.slice A0 l0.length c0] w fun e w' => e = .returned (.bool r) ∧ Below w.heap.size w w' := by
 have hu27 := Try.underlying27
 have HR0 := Aside0.mk hr0
 have HC0 := Aside0.mk hc0
 clear hr0 hc0
 have HB := Aside0.mk (Below.refl w.heap.size w)
 have H : ((ancepslaw40_awake.f k).bind fun t559 => (if t559 = true then ((ancepsref40_Few.f k l0).bind fun t560 => (ancepslaw40_SolveRefute.j0 k l0 (!t560))) else (ancepslaw40_SolveRefute.j0 k l0 true))) = some r := h
 clear h
 have HC2 := Aside0.mk H
 clear H
 go_enter Try.func3, Try.ntmps3
 go_upto_region 1 with (fail)
 go_cut [13] (fun v13 wc => ∃ (kq : Nat) (x13_1 : Bool), v13 = .bool x13_1 ∧ Aside0 (ancepslaw40_SolveRefute.j0 kq l0 x13_1 = some r) ∧ Aside0 (kq ≤ k) ∧ Aside0 (Below w.heap.size w wc))
 case first =>
  have H := HC2.out
  clear HC2
  replace H := Option.bind_eq_some_iff.mp H
  obtain ⟨t559, A30, H⟩ := H
  replace H : (if t559 = true then ((ancepsref40_Few.f k l0).bind fun t560 => (ancepslaw40_SolveRefute.j0 k l0 (!t560))) else (ancepslaw40_SolveRefute.j0 k l0 true)) = some r := H
  have A3 := Aside0.mk A30
  clear A30
  by_cases c4 : t559 = true
  ·subst c4
   have H1 : ((ancepsref40_Few.f k l0).bind fun t560 => (ancepslaw40_SolveRefute.j0 k l0 (!t560))) = some r := by rw [if_pos rfl] at H; exact H
   clear H
   have H := H1
   clear H1
   replace H := Option.bind_eq_some_iff.mp H
   obtain ⟨t560, A50, H⟩ := H
   replace H : (ancepslaw40_SolveRefute.j0 k l0 (!t560)) = some r := H
   have A5 := Aside0.mk A50
   clear A50
   have H' := Aside0.mk H
   clear H
   go_wp2_with (first | ((with_reducible refine gate_callee (f := 12) rfl ?_); refine goesL_ (some 7) rfl rfl Try.func12 zK rfl #[] rfl zM ?_; (with_reducible refine (ancepslaw40_awake.calls k  true _ A3.out).mono ?_); rintro e w6 ⟨rfl, hb⟩; refine ⟨_, rfl, ?_⟩; have n0_ := Aside0.mk (below_step zB hb); clear HB; have HB := n0_; clear n0_; (try clear hb); (try clear hb2); (try clear hk); (try clear hi)) | (go_at_call 13; (with_reducible refine (ancepsref40_Few.calls k _ _ l0 t560 _ ?side1 ?side2 A5.out).mono ?_); (case side1 => repeat (first | exact (Kd.C_below HR0.out HB.out) | (with_reducible refine Kd.C_alloc ?_ _) | (with_reducible refine Kd.C_drewN ?_ _) | (with_reducible refine Kd.C_drew ?_))); (case side2 => exact HC0.out); rintro e w7 ⟨rfl, hb⟩; have n0_ := Aside0.mk (below_step zB hb); clear HB; have HB := n0_; clear n0_; (try clear hb); (try clear hb2); (try clear hk); (try clear hi)))
   go_meet
   case rel => exact ⟨_, (!t560), zT, H', ⟨by first | omega | exact Nat.le_refl _⟩, ⟨by repeat (first | (with_reducible first | exact HB.out | apply below_alloc | apply pw_below_drewN | apply below_drew1) | exact HB.out)⟩⟩
  ·replace c4 := Bool.eq_false_iff.mpr c4
   subst c4
   have H1 : (ancepslaw40_SolveRefute.j0 k l0 true) = some r := by rw [if_neg (show ¬ (false = true) by decide)] at H; exact H
   clear H
   have H := H1
   clear H1
   have H' := Aside0.mk H
   clear H
   go_wp2_with (first | ((with_reducible refine gate_callee (f := 12) rfl ?_); refine goesL_ (some 7) rfl rfl Try.func12 zK rfl #[] rfl zM ?_; (with_reducible refine (ancepslaw40_awake.calls k  false _ A3.out).mono ?_); rintro e w8 ⟨rfl, hb⟩; refine ⟨_, rfl, ?_⟩; have n0_ := Aside0.mk (below_step zB hb); clear HB; have HB := n0_; clear n0_; (try clear hb); (try clear hb2); (try clear hk); (try clear hi)))
   go_meet
   case rel => exact ⟨_, (true), zT, H', ⟨by first | omega | exact Nat.le_refl _⟩, ⟨by repeat (first | (with_reducible first | exact HB.out | apply below_alloc | apply pw_below_drewN | apply below_drew1) | exact HB.out)⟩⟩
 case rest =>
  clear HC2
  obtain ⟨kq, x13_1, rfl, HA, HJ1, HB⟩ := hcut
  cases kq with
  | zero => exact absurd HA.out (by simp [ancepslaw40_SolveRefute.j0])
  | succ kj1 =>
   have H := HA.out
   clear HA
   simp only [ancepslaw40_SolveRefute.j0] at H
   by_cases c9 : x13_1 = true
   ·subst c9
    have H1 : ((ancepslaw40_awake.f kj1).bind fun t561 => (some t561)) = some r := by rw [if_pos rfl] at H; exact H
    clear H
    have H := H1
    clear H1
    replace H := Option.bind_eq_some_iff.mp H
    obtain ⟨t561, A100, H⟩ := H
    replace H : (some t561) = some r := H
    have A10 := Aside0.mk A100
    clear A100
    obtain rfl := Option.some.inj H
    go_wp2_with (first | ((with_reducible refine gate_callee (f := 12) rfl ?_); refine goesL_ (some 14) rfl rfl Try.func12 zK rfl #[] rfl zM ?_; (with_reducible refine (ancepslaw40_awake.calls kj1  t561 _ A10.out).mono ?_); rintro e w11 ⟨rfl, hb⟩; refine ⟨_, rfl, ?_⟩; have n0_ := Aside0.mk (below_step zB hb); clear HB; have HB := n0_; clear n0_; (try clear hb); (try clear hb2); (try clear hk); (try clear hi)))
    go_ret
    exact ⟨by first | rfl | (simp [errW_none, errW_some] <;> rfl) | (simp [*, errW_none, errW_some] <;> rfl), by repeat (first | (with_reducible first | exact HB.out | apply below_alloc | apply pw_below_drewN | apply below_drew1) | exact HB.out)⟩
   ·replace c9 := Bool.eq_false_iff.mpr c9
    subst c9
    have H1 : ((solve_Refute.f kj1 l0).bind fun bt562 => ((ancepsref40_Refute.f kj1 l0).bind fun bt567 => (if bt562.2 = bt567.2 then ((ancepsref40_Same.f kj1 bt562.1 bt567.1).bind fun t572 => (if t572 = true then (if bt562.2 = 0 then ((solve_Check.f kj1 l0 bt562.1).bind fun t573 => (some t573)) else (some true)) else (some false))) else (some false)))) = some r := by rw [if_neg (show ¬ (false = true) by decide)] at H; exact H
    clear H
    have H := H1
    clear H1
    replace H := Option.bind_eq_some_iff.mp H
    obtain ⟨⟨t562, t565⟩, A120, H⟩ := H
    replace H : ((ancepsref40_Refute.f kj1 l0).bind fun bt567 => (if t565 = bt567.2 then ((ancepsref40_Same.f kj1 t562 bt567.1).bind fun t572 => (if t572 = true then (if t565 = 0 then ((solve_Check.f kj1 l0 t562).bind fun t573 => (some t573)) else (some true)) else (some false))) else (some false))) = some r := H
    have A12 := Aside0.mk A120
    clear A120
    replace H := Option.bind_eq_some_iff.mp H
    obtain ⟨⟨t567, t570⟩, A130, H⟩ := H
    replace H : (if t565 = t570 then ((ancepsref40_Same.f kj1 t562 t567).bind fun t572 => (if t572 = true then (if t565 = 0 then ((solve_Check.f kj1 l0 t562).bind fun t573 => (some t573)) else (some true)) else (some false))) else (some false)) = some r := H
    have A13 := Aside0.mk A130
    clear A130
    have HC14 := Aside0.mk H
    clear H
    go_upto_region 5 with (first | ((with_reducible refine gate_callee (f := 14) rfl ?_); refine goesL_ (some 17) rfl rfl Try.func14 zK rfl #[.slice A0 l0.length c0] rfl zM ?_; (with_reducible refine (solve_Refute.calls kj1 _ _ l0 t562 t565 _ ?side1 ?side2 A12.out).mono ?_); (case side1 => repeat (first | exact (Kd.C_below HR0.out HB.out) | (with_reducible refine Kd.C_alloc ?_ _) | (with_reducible refine Kd.C_drewN ?_ _) | (with_reducible refine Kd.C_drew ?_))); (case side2 => exact HC0.out); rintro e w15 ⟨v563, rfl, ho0, hb⟩; refine ⟨_, rfl, ?_⟩; have n0_ := Aside0.mk (Kd.R_lower ho0 (below_size zB)); have n1_ := Aside0.mk (below_step zB hb); clear HB; have HO564 := n0_; have HB := n1_; clear n0_ n1_; (try clear hb); (try clear hb2); (try clear hk); (try clear hi); (try clear ho0)) | ((with_reducible refine gate_dst (N := 3) rfl ?_); refine box_event ?hg (N := 3) ?hd (cs := #[.slice none 0 0]) (t := 27) ?hr ?_; (case hd => rfl); (case hg => rfl); (case hr => first | (go_simp; done) | (go_simp; rfl)); intro gb566 hg w16 hbox hb; have n0_ := Aside0.mk (Kd.R_below (zR HO564) hb); have n1_ := Aside0.mk (below_step zB hb); have n2_ := Aside0.mk (hbox); have n3_ := Aside0.mk ((by rw [hg]; exact (below_size zB) : w.heap.size ≤ gb566)); have n4_ := Aside0.mk ((by rw [hg]; exact (below_size zB) : w.heap.size ≤ gb566)); clear HO564; clear HB; have HO564 := n0_; have HB := n1_; have BK566 := n2_; have GW566 := n3_; have GE566 := n4_; clear n0_ n1_ n2_ n3_ n4_; clear hb hbox hg; obtain ⟨Ao17, co17, eo17⟩ := Kd.R_slice HO564.out; subst eo17; have hcz18_0 : w16.cell? ⟨gb566, 0, none⟩ = some (.slice none 0 0) := (blk_cell BK566.out 0).trans rfl; have hfz18_0 := blk_frozen BK566.out 0) | ((with_reducible refine gate_callee (f := 15) rfl ?_); refine goesL_ (some 22) rfl rfl Try.func15 zK rfl #[.slice A0 l0.length c0] rfl zM ?_; (with_reducible refine (ancepsref40_Refute.calls kj1 _ _ l0 t567 t570 _ ?side1 ?side2 A13.out).mono ?_); (case side1 => exact Kd.C_below HR0.out zB); (case side2 => exact HC0.out); rintro e w19 ⟨v568, rfl, ho0, hb⟩; refine ⟨_, rfl, ?_⟩; have n0_ := Aside0.mk (Kd.R_elder' (by (with_reducible repeat (first | apply Kd.R_alloc | apply Kd.R_drewN | apply Kd.R_drew)); exact (Kd.R_mono (Kd.R_far (p := ⟨gb566, 0, none⟩) (Kd.R_types HO564.out BK566.out (by decide)) (fun _ hk => hk.2) (.slice Ao17 t562.length co17)) (fun _ h_ => h_.1))) (Kd.R_base ho0) hb); have n1_ := Aside0.mk (Kd.R_lower (Kd.R_new' ho0 (Kd.R_lt (by (with_reducible repeat (first | apply Kd.R_alloc | apply Kd.R_drewN | apply Kd.R_drew)); exact (Kd.R_mono (Kd.R_far (p := ⟨gb566, 0, none⟩) (Kd.R_types HO564.out BK566.out (by decide)) (fun _ hk => hk.2) (.slice Ao17 t562.length co17)) (fun _ h_ => h_.1))))) (below_size zB)); have n2_ := Aside0.mk (blk_below (g := gb566) (o := .cells #[.slice Ao17 t562.length co17] 27 (0, 0)) (by (with_reducible repeat (first | refine blk_drewN ?_ _ | refine blk_drew ?_ | refine blk_alloc ?_ _)); refine blk_put (cs := #[.slice none 0 0]) ?_ 0 _ rfl; (with_reducible repeat (first | refine blk_drewN ?_ _ | refine blk_drew ?_ | refine blk_alloc ?_ _)); exact BK566.out) hb); have n3_ := Aside0.mk (below_step zB hb); clear HO564; clear BK566; clear HB; have HO564 := n0_; have HO569 := n1_; have BK566 := n2_; have HB := n3_; clear n0_ n1_ n2_ n3_; (try clear hb); (try clear hb2); (try clear hk); (try clear hi); (try clear ho0)) | ((with_reducible refine gate_dst (N := 5) rfl ?_); refine box_event ?hg (N := 5) ?hd (cs := #[.slice none 0 0]) (t := 27) ?hr ?_; (case hd => rfl); (case hg => rfl); (case hr => first | (go_simp; done) | (go_simp; rfl)); intro gb571 hg w20 hbox hb; have n0_ := Aside0.mk (Kd.R_below (zR HO564) hb); have n1_ := Aside0.mk (Kd.R_below (zR HO569) hb); have n2_ := Aside0.mk (blk_below (g := gb566) (o := .cells #[.slice Ao17 t562.length co17] 27 (0, 0)) (zk BK566) hb); have n3_ := Aside0.mk (below_step zB hb); have n4_ := Aside0.mk (hbox); have n5_ := Aside0.mk ((by rw [hg]; exact (below_size zB) : w.heap.size ≤ gb571)); have n6_ := Aside0.mk ((by rw [hg]; exact (below_size zB) : w.heap.size ≤ gb571)); have n7_ := Aside0.mk ((by rw [hg]; exact Nat.ne_of_lt (blk_lt (g := gb566) (o := .cells #[.slice Ao17 t562.length co17] 27 (0, 0)) (zk BK566)) : gb566 ≠ gb571)); have n8_ := Aside0.mk ((by rw [hg]; exact Nat.ne_of_gt (blk_lt (g := gb566) (o := .cells #[.slice Ao17 t562.length co17] 27 (0, 0)) (zk BK566)) : gb571 ≠ gb566)); clear HO564; clear HO569; clear BK566; clear HB; have HO564 := n0_; have HO569 := n1_; have BK566 := n2_; have HB := n3_; have BK571 := n4_; have GW571 := n5_; have GE571 := n6_; have NB566_571 := n7_; have NB571_566 := n8_; clear n0_ n1_ n2_ n3_ n4_ n5_ n6_ n7_ n8_; clear hb hbox hg; obtain ⟨Ao21, co21, eo21⟩ := Kd.R_slice HO569.out; subst eo21; have hnb22 := NB571_566.out; have hnc22 := NB566_571.out; have hcz23_0 : w20.cell? ⟨gb571, 0, none⟩ = some (.slice none 0 0) := (blk_cell BK571.out 0).trans rfl; have hfz23_0 := blk_frozen BK571.out 0))
    (try simp only [Act.put, List.setIfInBounds_toArray, List.set_cons_zero, List.set_cons_succ])
    have H := HC14.out
    clear HC14
    by_cases c24 : t565 = t570
    ·rw [if_pos c24] at H
     have c24b0 : (t565 == t570) = true := beq_iff_eq.mpr c24
     have c24b1 : (t565 != t570) = false := bne_eq_false_iff_eq.mpr c24
     clear c24
     (first | rw [c24b0] | (simp only [i64_w, i32_w]; rw [c24b0]) | skip)
     (try rw [c24b1])
     replace H := Option.bind_eq_some_iff.mp H
     obtain ⟨t572, A250, H⟩ := H
     replace H : (if t572 = true then (if t565 = 0 then ((solve_Check.f kj1 l0 t562).bind fun t573 => (some t573)) else (some true)) else (some false)) = some r := H
     have A25 := Aside0.mk A250
     clear A250
     by_cases c26 : t572 = true
     ·subst c26
      have H1 : (if t565 = 0 then ((solve_Check.f kj1 l0 t562).bind fun t573 => (some t573)) else (some true)) = some r := by rw [if_pos rfl] at H; exact H
      clear H
      have H := H1
      clear H1
      by_cases c27 : t565 = 0
      ·rw [if_pos c27] at H
       have c27b0 : (t565 == 0) = true := beq_iff_eq.mpr c27
       have c27b1 : (t565 != 0) = false := bne_eq_false_iff_eq.mpr c27
       clear c27
       replace H := Option.bind_eq_some_iff.mp H
       obtain ⟨t573, A280, H⟩ := H
       replace H : (some t573) = some r := H
       have A28 := Aside0.mk A280
       clear A280
       obtain rfl := Option.some.inj H
       have hnb29 := NB566_571.out
       have hnc29 := NB571_566.out
       have hcz30_0 : w20.cell? ⟨gb566, 0, none⟩ = some (.slice Ao17 t562.length co17) := (blk_cell BK566.out 0).trans rfl
       have hfz30_0 := blk_frozen BK566.out 0
       have hcz31_0 : w20.cell? ⟨gb571, 0, none⟩ = some (.slice none 0 0) := (blk_cell BK571.out 0).trans rfl
       have hfz31_0 := blk_frozen BK571.out 0
       go_wp2_with (first | (go_at_call 16; (with_reducible refine (ancepsref40_Same.calls kj1 _ _ t562 _ _ t567 true _ ?side1 ?side2 ?side3 ?side4 A25.out).mono ?_); (case side1 => refine (Kd.R_reads' (e := 35) (base := w.heap.size) (ok := fun k_ => (True ∧ some k_ ≠ (.slice Ao21 t567.length co21 : Value).ownBlock)) (n := t562.length) (c := co17) ?_).2.2; exact (by (with_reducible repeat (first | apply Kd.R_alloc | apply Kd.R_drewN | apply Kd.R_drew)); exact (Kd.R_mono (Kd.R_far (p := ⟨gb571, 0, none⟩) (Kd.R_types HO564.out BK571.out (by decide)) (fun _ hk => hk.2) (.slice Ao21 t567.length co21)) (fun _ h_ => h_.1)))); (case side2 => exact (Kd.R_reads' HO564.out).2.1); (case side3 => refine (Kd.R_reads' (e := 35) (base := w.heap.size) (ok := fun k_ => (True ∧ some k_ ≠ (.slice Ao17 t562.length co17 : Value).ownBlock)) (n := t567.length) (c := co21) ?_).2.2; exact (by (with_reducible repeat (first | apply Kd.R_alloc | apply Kd.R_drewN | apply Kd.R_drew)); exact (Kd.R_mono (Kd.R_far (p := ⟨gb571, 0, none⟩) (Kd.R_types HO569.out BK571.out (by decide)) (fun _ hk => hk.2) (.slice Ao21 t567.length co21)) (fun _ h_ => h_.1)))); (case side4 => exact (Kd.R_reads' HO569.out).2.1); rintro e w32 ⟨rfl, hb⟩; have n0_ := Aside0.mk (Kd.R_below (by (with_reducible repeat (first | apply Kd.R_alloc | apply Kd.R_drewN | apply Kd.R_drew)); exact (Kd.R_mono (Kd.R_far (p := ⟨gb571, 0, none⟩) (Kd.R_types HO564.out BK571.out (by decide)) (fun _ hk => hk.2) (.slice Ao21 t567.length co21)) (fun _ h_ => h_.1))) hb); have n1_ := Aside0.mk (Kd.R_below (by (with_reducible repeat (first | apply Kd.R_alloc | apply Kd.R_drewN | apply Kd.R_drew)); exact (Kd.R_mono (Kd.R_far (p := ⟨gb571, 0, none⟩) (Kd.R_types HO569.out BK571.out (by decide)) (fun _ hk => hk.2) (.slice Ao21 t567.length co21)) (fun _ h_ => h_.1))) hb); have n2_ := Aside0.mk (blk_below (g := gb566) (o := .cells #[.slice Ao17 t562.length co17] 27 (0, 0)) (by (with_reducible repeat (first | refine blk_drewN ?_ _ | refine blk_drew ?_ | refine blk_alloc ?_ _)); refine blk_far ?_ NB566_571.out _; (with_reducible repeat (first | refine blk_drewN ?_ _ | refine blk_drew ?_ | refine blk_alloc ?_ _)); exact BK566.out) hb); have n3_ := Aside0.mk (blk_below (g := gb571) (o := .cells #[.slice Ao21 t567.length co21] 27 (0, 0)) (by (with_reducible repeat (first | refine blk_drewN ?_ _ | refine blk_drew ?_ | refine blk_alloc ?_ _)); refine blk_put (cs := #[.slice none 0 0]) ?_ 0 _ rfl; (with_reducible repeat (first | refine blk_drewN ?_ _ | refine blk_drew ?_ | refine blk_alloc ?_ _)); exact BK571.out) hb); have n4_ := Aside0.mk (below_step zB hb); clear HO564; clear HO569; clear BK566; clear BK571; clear HB; have HO564 := n0_; have HO569 := n1_; have BK566 := n2_; have BK571 := n3_; have HB := n4_; clear n0_ n1_ n2_ n3_ n4_; (try clear hb); (try clear hb2); (try clear hk); (try clear hi); have hcz33_0 : w32.cell? ⟨gb566, 0, none⟩ = some (.slice Ao17 t562.length co17) := (blk_cell BK566.out 0).trans rfl; have hfz33_0 := blk_frozen BK566.out 0) | (go_at_call 17; (with_reducible refine (solve_Check.calls kj1 _ _ l0 _ _ t562 t573 _ ?side1 ?side2 ?side3 ?side4 A28.out).mono ?_); (case side1 => repeat (first | exact (Kd.C_below HR0.out HB.out) | (with_reducible refine Kd.C_alloc ?_ _) | (with_reducible refine Kd.C_drewN ?_ _) | (with_reducible refine Kd.C_drew ?_))); (case side2 => exact HC0.out); (case side3 => repeat (first | exact (Kd.R_reads' HO564.out).2.2 | (with_reducible refine Kd.C_alloc ?_ _) | (with_reducible refine Kd.C_drewN ?_ _) | (with_reducible refine Kd.C_drew ?_))); (case side4 => exact (Kd.R_reads' HO564.out).2.1); rintro e w34 ⟨rfl, hb⟩; have n0_ := Aside0.mk (Kd.R_below (zR HO564) hb); have n1_ := Aside0.mk (Kd.R_below (zR HO569) hb); have n2_ := Aside0.mk (blk_below (g := gb566) (o := .cells #[.slice Ao17 t562.length co17] 27 (0, 0)) (zk BK566) hb); have n3_ := Aside0.mk (blk_below (g := gb571) (o := .cells #[.slice Ao21 t567.length co21] 27 (0, 0)) (zk BK571) hb); have n4_ := Aside0.mk (below_step zB hb); clear HO564; clear HO569; clear BK566; clear BK571; clear HB; have HO564 := n0_; have HO569 := n1_; have BK566 := n2_; have BK571 := n3_; have HB := n4_; clear n0_ n1_ n2_ n3_ n4_; (try clear hb); (try clear hb2); (try clear hk); (try clear hi)))
       go_ret
       exact ⟨by first | rfl | (simp [errW_none, errW_some] <;> rfl) | (simp [*, errW_none, errW_some] <;> rfl), by repeat (first | (with_reducible first | exact HB.out | apply below_alloc | apply pw_below_drewN | apply below_drew1 | refine below_set ?_ GE566.out | refine below_set ?_ GE571.out) | exact HB.out)⟩
      ·rw [if_neg c27] at H
       have c27b0 : (t565 == 0) = false := beq_eq_false_iff_ne.mpr c27
       have c27b1 : (t565 != 0) = true := bne_iff_ne.mpr c27
       obtain rfl := Option.some.inj H
       have hnb35 := NB566_571.out
       have hnc35 := NB571_566.out
       have hcz36_0 : w20.cell? ⟨gb566, 0, none⟩ = some (.slice Ao17 t562.length co17) := (blk_cell BK566.out 0).trans rfl
       have hfz36_0 := blk_frozen BK566.out 0
       have hcz37_0 : w20.cell? ⟨gb571, 0, none⟩ = some (.slice none 0 0) := (blk_cell BK571.out 0).trans rfl
       have hfz37_0 := blk_frozen BK571.out 0
       go_wp2_with (first | (go_at_call 16; (with_reducible refine (ancepsref40_Same.calls kj1 _ _ t562 _ _ t567 true _ ?side1 ?side2 ?side3 ?side4 A25.out).mono ?_); (case side1 => refine (Kd.R_reads' (e := 35) (base := w.heap.size) (ok := fun k_ => (True ∧ some k_ ≠ (.slice Ao21 t567.length co21 : Value).ownBlock)) (n := t562.length) (c := co17) ?_).2.2; exact (by (with_reducible repeat (first | apply Kd.R_alloc | apply Kd.R_drewN | apply Kd.R_drew)); exact (Kd.R_mono (Kd.R_far (p := ⟨gb571, 0, none⟩) (Kd.R_types HO564.out BK571.out (by decide)) (fun _ hk => hk.2) (.slice Ao21 t567.length co21)) (fun _ h_ => h_.1)))); (case side2 => exact (Kd.R_reads' HO564.out).2.1); (case side3 => refine (Kd.R_reads' (e := 35) (base := w.heap.size) (ok := fun k_ => (True ∧ some k_ ≠ (.slice Ao17 t562.length co17 : Value).ownBlock)) (n := t567.length) (c := co21) ?_).2.2; exact (by (with_reducible repeat (first | apply Kd.R_alloc | apply Kd.R_drewN | apply Kd.R_drew)); exact (Kd.R_mono (Kd.R_far (p := ⟨gb571, 0, none⟩) (Kd.R_types HO569.out BK571.out (by decide)) (fun _ hk => hk.2) (.slice Ao21 t567.length co21)) (fun _ h_ => h_.1)))); (case side4 => exact (Kd.R_reads' HO569.out).2.1); rintro e w38 ⟨rfl, hb⟩; have n0_ := Aside0.mk (Kd.R_below (by (with_reducible repeat (first | apply Kd.R_alloc | apply Kd.R_drewN | apply Kd.R_drew)); exact (Kd.R_mono (Kd.R_far (p := ⟨gb571, 0, none⟩) (Kd.R_types HO564.out BK571.out (by decide)) (fun _ hk => hk.2) (.slice Ao21 t567.length co21)) (fun _ h_ => h_.1))) hb); have n1_ := Aside0.mk (Kd.R_below (by (with_reducible repeat (first | apply Kd.R_alloc | apply Kd.R_drewN | apply Kd.R_drew)); exact (Kd.R_mono (Kd.R_far (p := ⟨gb571, 0, none⟩) (Kd.R_types HO569.out BK571.out (by decide)) (fun _ hk => hk.2) (.slice Ao21 t567.length co21)) (fun _ h_ => h_.1))) hb); have n2_ := Aside0.mk (blk_below (g := gb566) (o := .cells #[.slice Ao17 t562.length co17] 27 (0, 0)) (by (with_reducible repeat (first | refine blk_drewN ?_ _ | refine blk_drew ?_ | refine blk_alloc ?_ _)); refine blk_far ?_ NB566_571.out _; (with_reducible repeat (first | refine blk_drewN ?_ _ | refine blk_drew ?_ | refine blk_alloc ?_ _)); exact BK566.out) hb); have n3_ := Aside0.mk (blk_below (g := gb571) (o := .cells #[.slice Ao21 t567.length co21] 27 (0, 0)) (by (with_reducible repeat (first | refine blk_drewN ?_ _ | refine blk_drew ?_ | refine blk_alloc ?_ _)); refine blk_put (cs := #[.slice none 0 0]) ?_ 0 _ rfl; (with_reducible repeat (first | refine blk_drewN ?_ _ | refine blk_drew ?_ | refine blk_alloc ?_ _)); exact BK571.out) hb); have n4_ := Aside0.mk (below_step zB hb); clear HO564; clear HO569; clear BK566; clear BK571; clear HB; have HO564 := n0_; have HO569 := n1_; have BK566 := n2_; have BK571 := n3_; have HB := n4_; clear n0_ n1_ n2_ n3_ n4_; (try clear hb); (try clear hb2); (try clear hk); (try clear hi)))
       go_ret
       exact ⟨by first | rfl | (simp [errW_none, errW_some] <;> rfl) | (simp [*, errW_none, errW_some] <;> rfl), by repeat (first | (with_reducible first | exact HB.out | apply below_alloc | apply pw_below_drewN | apply below_drew1 | refine below_set ?_ GE566.out | refine below_set ?_ GE571.out) | exact HB.out)⟩
     ·replace c26 := Bool.eq_false_iff.mpr c26
      subst c26
      have H1 : (some false) = some r := by rw [if_neg (show ¬ (false = true) by decide)] at H; exact H
      clear H
      have H := H1
      clear H1
      obtain rfl := Option.some.inj H
      have hnb39 := NB566_571.out
      have hnc39 := NB571_566.out
      have hcz40_0 : w20.cell? ⟨gb566, 0, none⟩ = some (.slice Ao17 t562.length co17) := (blk_cell BK566.out 0).trans rfl
      have hfz40_0 := blk_frozen BK566.out 0
      have hcz41_0 : w20.cell? ⟨gb571, 0, none⟩ = some (.slice none 0 0) := (blk_cell BK571.out 0).trans rfl
      have hfz41_0 := blk_frozen BK571.out 0
      go_wp2_with (first | (go_at_call 16; (with_reducible refine (ancepsref40_Same.calls kj1 _ _ t562 _ _ t567 false _ ?side1 ?side2 ?side3 ?side4 A25.out).mono ?_); (case side1 => refine (Kd.R_reads' (e := 35) (base := w.heap.size) (ok := fun k_ => (True ∧ some k_ ≠ (.slice Ao21 t567.length co21 : Value).ownBlock)) (n := t562.length) (c := co17) ?_).2.2; exact (by (with_reducible repeat (first | apply Kd.R_alloc | apply Kd.R_drewN | apply Kd.R_drew)); exact (Kd.R_mono (Kd.R_far (p := ⟨gb571, 0, none⟩) (Kd.R_types HO564.out BK571.out (by decide)) (fun _ hk => hk.2) (.slice Ao21 t567.length co21)) (fun _ h_ => h_.1)))); (case side2 => exact (Kd.R_reads' HO564.out).2.1); (case side3 => refine (Kd.R_reads' (e := 35) (base := w.heap.size) (ok := fun k_ => (True ∧ some k_ ≠ (.slice Ao17 t562.length co17 : Value).ownBlock)) (n := t567.length) (c := co21) ?_).2.2; exact (by (with_reducible repeat (first | apply Kd.R_alloc | apply Kd.R_drewN | apply Kd.R_drew)); exact (Kd.R_mono (Kd.R_far (p := ⟨gb571, 0, none⟩) (Kd.R_types HO569.out BK571.out (by decide)) (fun _ hk => hk.2) (.slice Ao21 t567.length co21)) (fun _ h_ => h_.1)))); (case side4 => exact (Kd.R_reads' HO569.out).2.1); rintro e w42 ⟨rfl, hb⟩; have n0_ := Aside0.mk (Kd.R_below (by (with_reducible repeat (first | apply Kd.R_alloc | apply Kd.R_drewN | apply Kd.R_drew)); exact (Kd.R_mono (Kd.R_far (p := ⟨gb571, 0, none⟩) (Kd.R_types HO564.out BK571.out (by decide)) (fun _ hk => hk.2) (.slice Ao21 t567.length co21)) (fun _ h_ => h_.1))) hb); have n1_ := Aside0.mk (Kd.R_below (by (with_reducible repeat (first | apply Kd.R_alloc | apply Kd.R_drewN | apply Kd.R_drew)); exact (Kd.R_mono (Kd.R_far (p := ⟨gb571, 0, none⟩) (Kd.R_types HO569.out BK571.out (by decide)) (fun _ hk => hk.2) (.slice Ao21 t567.length co21)) (fun _ h_ => h_.1))) hb); have n2_ := Aside0.mk (blk_below (g := gb566) (o := .cells #[.slice Ao17 t562.length co17] 27 (0, 0)) (by (with_reducible repeat (first | refine blk_drewN ?_ _ | refine blk_drew ?_ | refine blk_alloc ?_ _)); refine blk_far ?_ NB566_571.out _; (with_reducible repeat (first | refine blk_drewN ?_ _ | refine blk_drew ?_ | refine blk_alloc ?_ _)); exact BK566.out) hb); have n3_ := Aside0.mk (blk_below (g := gb571) (o := .cells #[.slice Ao21 t567.length co21] 27 (0, 0)) (by (with_reducible repeat (first | refine blk_drewN ?_ _ | refine blk_drew ?_ | refine blk_alloc ?_ _)); refine blk_put (cs := #[.slice none 0 0]) ?_ 0 _ rfl; (with_reducible repeat (first | refine blk_drewN ?_ _ | refine blk_drew ?_ | refine blk_alloc ?_ _)); exact BK571.out) hb); have n4_ := Aside0.mk (below_step zB hb); clear HO564; clear HO569; clear BK566; clear BK571; clear HB; have HO564 := n0_; have HO569 := n1_; have BK566 := n2_; have BK571 := n3_; have HB := n4_; clear n0_ n1_ n2_ n3_ n4_; (try clear hb); (try clear hb2); (try clear hk); (try clear hi)))
      go_ret
      exact ⟨by first | rfl | (simp [errW_none, errW_some] <;> rfl) | (simp [*, errW_none, errW_some] <;> rfl), by repeat (first | (with_reducible first | exact HB.out | apply below_alloc | apply pw_below_drewN | apply below_drew1 | refine below_set ?_ GE566.out | refine below_set ?_ GE571.out) | exact HB.out)⟩
    ·rw [if_neg c24] at H
     have c24b0 : (t565 == t570) = false := beq_eq_false_iff_ne.mpr c24
     have c24b1 : (t565 != t570) = true := bne_iff_ne.mpr c24
     (first | rw [c24b0] | (simp only [i64_w, i32_w]; rw [c24b0]) | skip)
     (try rw [c24b1])
     obtain rfl := Option.some.inj H
     go_wp2
     go_ret
     exact ⟨by first | rfl | (simp [errW_none, errW_some] <;> rfl) | (simp [*, errW_none, errW_some] <;> rfl), by repeat (first | (with_reducible first | exact HB.out | apply below_alloc | apply pw_below_drewN | apply below_drew1 | refine below_set ?_ GE566.out | refine below_set ?_ GE571.out) | exact HB.out)⟩
end Go.Proofs.Ytbagnalcabdlhaa.S
