-- Written by wip/tools/myprint.py, a program of this session's.
import Derived.Test.YtanbffoilianhaaF0
import Derived.Test.YtanbffoilianhaaF3
import Derived.Test.YtanbffoilianhaaF4
import Derived.Test.YtanbffoilianhaaF5
import Derived.Test.YtanbffoilianhaaF6
import Derived.Test.YtanbffoilianhaaF7
import Derived.Test.YtanbffoilianhaaF8
namespace Go.Proofs.Ytanbffoilianhaa.F
open Go.RowKit Go.Proofs.YtanbffoilianhaaW.PrintWords Go.Proofs.YtanbffoilianhaaW.PrintLast Go.Proofs.YtanbffoilianhaaW.PrintMore
attribute [local go_sem] max2_int min2_int max_two min_two max_three min_three max_four min_four   -- for this text's walks alone
set_option linter.unusedVariables false
set_option linter.unusedSimpArgs false
/-! ### ancepslaw09_DagKeeps: function 10 -/
mutual
def ancepslaw09_DagKeeps.j0 : Nat → Int → List Int → Bool → Option (Bool)
 | 0, _, _, _ => none
 | k + 1, x0, x1, x18 => if x18 = true then ((ancepslaw09_awake.f k).bind fun t489 => (some t489)) else ((ancepsref09_Made.f k x0 x1).bind fun bt490 => ((ancepsref09_Paths.f k bt490.1 bt490.2).bind fun bt495 => (if bt495.2 = 0 then ((dag_Reverse.f k bt490.1 bt490.2).bind fun bt499 => (if bt499.2.2 = 0 then ((ancepsref09_Valid.f k bt499.1 bt499.2.1).bind fun t505 => (if t505 = 0 then ((ancepslaw09_costs.f k bt499.1 bt499.2.1).bind fun t506 => ((ancepslaw09_costs.f k bt490.1 bt490.2).bind fun t509 => ((slices_Equal_int_int.f k t506 t509).bind fun t512 => (ancepslaw09_DagKeeps.j1 k (!t512) bt490.1 bt490.2)))) else (ancepslaw09_DagKeeps.j1 k true bt490.1 bt490.2))) else (ancepslaw09_DagKeeps.j1 k true bt490.1 bt490.2))) else (some true))))
def ancepslaw09_DagKeeps.j1 : Nat → Bool → Int → List (S69) → Option (Bool)
 | 0, _, _, _ => none
 | k + 1, x49, x495000, x495001 => if x49 = true then (some false) else ((dag_Trim.f k x495000 x495001).bind fun bt513 => (if bt513.2.2.2 = 0 then ((ancepsref09_Valid.f k bt513.1 bt513.2.1).bind fun t525 => (if t525 = 0 then ((ancepslaw09_costs.f k bt513.1 bt513.2.1).bind fun t526 => ((ancepslaw09_costs.f k x495000 x495001).bind fun t529 => ((slices_Equal_int_int.f k t526 t529).bind fun t532 => (some t532)))) else (some false))) else (if bt513.2.2.2 = 10 then ((ancepslaw09_costs.f k x495000 x495001).bind fun t522 => (some ((t522.length : Int) == 0))) else (some false))))
end
def ancepslaw09_DagKeeps.f (k : Nat) (a0 : Int) (l1 : List Int) : Option (Bool) := (ancepslaw09_awake.f k).bind fun t488 => (if t488 = true then (ancepslaw09_DagKeeps.j0 k a0 l1 (decide ((l1.length : Int) > 40))) else (ancepslaw09_DagKeeps.j0 k a0 l1 true))
theorem ancepslaw09_DagKeeps.mono_l : ∀ k, (∀ y0 y1 y2, LeO (ancepslaw09_DagKeeps.j0 k y0 y1 y2) (ancepslaw09_DagKeeps.j0 (k + 1) y0 y1 y2)) ∧ (∀ y0 y1 y2, LeO (ancepslaw09_DagKeeps.j1 k y0 y1 y2) (ancepslaw09_DagKeeps.j1 (k + 1) y0 y1 y2))
 | 0 => ⟨fun _ _ _ r h => by simp [ancepslaw09_DagKeeps.j0] at h, fun _ _ _ r h => by simp [ancepslaw09_DagKeeps.j1] at h⟩
 | k + 1 => by
  obtain ⟨ih0, ih1⟩ := ancepslaw09_DagKeeps.mono_l k
  refine ⟨?_, ?_⟩
  ·intro y0 y1 y2
   unfold ancepslaw09_DagKeeps.j0
   repeat' first
   | (with_reducible exact ih0 _ _ _)
   | (with_reducible exact ih1 _ _ _)
   | (with_reducible exact ancepslaw09_awake.mono _)
   | (with_reducible exact ancepslaw09_costs.mono _ _ _)
   | (with_reducible exact ancepsref09_Made.mono _ _ _)
   | (with_reducible exact ancepsref09_Paths.mono _ _ _)
   | (with_reducible exact ancepsref09_Valid.mono _ _ _)
   | (with_reducible exact dag_Reverse.mono _ _ _)
   | (with_reducible exact dag_Trim.mono _ _ _)
   | (with_reducible exact slices_Equal_int_int.mono _ _ _)
   | (with_reducible exact LeO.refl _)
   | (with_reducible exact LeO.none _)
   | (with_reducible refine LeO.ite ?_ ?_)
   | (with_reducible refine LeO.bind ?_ (fun _ => ?_))
   | exact ih0 _ _ _
   | exact ih1 _ _ _
   | exact ancepslaw09_awake.mono _
   | exact ancepslaw09_costs.mono _ _ _
   | exact ancepsref09_Made.mono _ _ _
   | exact ancepsref09_Paths.mono _ _ _
   | exact ancepsref09_Valid.mono _ _ _
   | exact dag_Reverse.mono _ _ _
   | exact dag_Trim.mono _ _ _
   | exact slices_Equal_int_int.mono _ _ _
   | exact LeO.none _
   | refine LeO.ite ?_ ?_
   | refine LeO.bind ?_ (fun _ => ?_)
  ·intro y0 y1 y2
   unfold ancepslaw09_DagKeeps.j1
   repeat' first
   | (with_reducible exact ih0 _ _ _)
   | (with_reducible exact ih1 _ _ _)
   | (with_reducible exact ancepslaw09_awake.mono _)
   | (with_reducible exact ancepslaw09_costs.mono _ _ _)
   | (with_reducible exact ancepsref09_Made.mono _ _ _)
   | (with_reducible exact ancepsref09_Paths.mono _ _ _)
   | (with_reducible exact ancepsref09_Valid.mono _ _ _)
   | (with_reducible exact dag_Reverse.mono _ _ _)
   | (with_reducible exact dag_Trim.mono _ _ _)
   | (with_reducible exact slices_Equal_int_int.mono _ _ _)
   | (with_reducible exact LeO.refl _)
   | (with_reducible exact LeO.none _)
   | (with_reducible refine LeO.ite ?_ ?_)
   | (with_reducible refine LeO.bind ?_ (fun _ => ?_))
   | exact ih0 _ _ _
   | exact ih1 _ _ _
   | exact ancepslaw09_awake.mono _
   | exact ancepslaw09_costs.mono _ _ _
   | exact ancepsref09_Made.mono _ _ _
   | exact ancepsref09_Paths.mono _ _ _
   | exact ancepsref09_Valid.mono _ _ _
   | exact dag_Reverse.mono _ _ _
   | exact dag_Trim.mono _ _ _
   | exact slices_Equal_int_int.mono _ _ _
   | exact LeO.none _
   | refine LeO.ite ?_ ?_
   | refine LeO.bind ?_ (fun _ => ?_)
theorem ancepslaw09_DagKeeps.mono : ∀ a0 a1 k, LeO (ancepslaw09_DagKeeps.f k a0 a1) (ancepslaw09_DagKeeps.f (k + 1) a0 a1) := by
 intro a0 a1 k
 obtain ⟨ih0, ih1⟩ := ancepslaw09_DagKeeps.mono_l k
 unfold ancepslaw09_DagKeeps.f
 repeat' first
   | (with_reducible exact ih0 _ _ _)
   | (with_reducible exact ih1 _ _ _)
   | (with_reducible exact ancepslaw09_awake.mono _)
   | (with_reducible exact ancepslaw09_costs.mono _ _ _)
   | (with_reducible exact ancepsref09_Made.mono _ _ _)
   | (with_reducible exact ancepsref09_Paths.mono _ _ _)
   | (with_reducible exact ancepsref09_Valid.mono _ _ _)
   | (with_reducible exact dag_Reverse.mono _ _ _)
   | (with_reducible exact dag_Trim.mono _ _ _)
   | (with_reducible exact slices_Equal_int_int.mono _ _ _)
   | (with_reducible exact LeO.refl _)
   | (with_reducible exact LeO.none _)
   | (with_reducible refine LeO.ite ?_ ?_)
   | (with_reducible refine LeO.bind ?_ (fun _ => ?_))
   | exact ih0 _ _ _
   | exact ih1 _ _ _
   | exact ancepslaw09_awake.mono _
   | exact ancepslaw09_costs.mono _ _ _
   | exact ancepsref09_Made.mono _ _ _
   | exact ancepsref09_Paths.mono _ _ _
   | exact ancepsref09_Valid.mono _ _ _
   | exact dag_Reverse.mono _ _ _
   | exact dag_Trim.mono _ _ _
   | exact slices_Equal_int_int.mono _ _ _
   | exact LeO.none _
   | refine LeO.ite ?_ ?_
   | refine LeO.bind ?_ (fun _ => ?_)
def ancepslaw09_DagKeeps.T8 : Bool × List (List Nat × List Nat) := (true, [([], []), ([0], [0]), ([1], [1]), ([2], [2]), ([3, 2, 2], [2, 3]), ([4, 2], [2, 4]), ([2, 5], [2, 5]), ([6, 4], [6]), ([7], [7]), ([8, 7, 7], [7, 8]), ([7], [7]), ([10, 9, 7], [7, 10]), ([9, 11, 11, 7], [7, 9, 11]), ([12, 7], [7, 12]), ([7, 13], [7, 13])])
def ancepslaw09_DagKeeps.B8 : List Nat := [0, 1, 3, 7, 15, 31, 63, 127, 255, 511, 255, 2047, 4095, 8191, 16383]
theorem ancepslaw09_DagKeeps.tab8 : rtab .any (opsOf Try.f10 8) = ancepslaw09_DagKeeps.T8 := by kernel_rfl
theorem ancepslaw09_DagKeeps.bits8 : waitsOk ancepslaw09_DagKeeps.T8.2 ancepslaw09_DagKeeps.B8 = true := by kernel_rfl
def ancepslaw09_DagKeeps.T13 : Bool × List (List Nat × List Nat) := (true, [([], []), ([0], [0]), ([1], [1]), ([2, 1], [2]), ([3], [3]), ([4, 3, 3], [3, 4]), ([3], [3]), ([6, 5, 3], [3, 6]), ([5, 7, 7, 3], [3, 5, 7]), ([3, 8], [3, 8]), ([9, 8, 0, 1, 2, 3, 4, 5, 6, 7, 8, 9], [9])])
def ancepslaw09_DagKeeps.B13 : List Nat := [0, 1, 3, 7, 15, 31, 15, 127, 255, 511, 1023]
theorem ancepslaw09_DagKeeps.tab13 : rtab .any (opsOf Try.f10 13) = ancepslaw09_DagKeeps.T13 := by kernel_rfl
theorem ancepslaw09_DagKeeps.bits13 : waitsOk ancepslaw09_DagKeeps.T13.2 ancepslaw09_DagKeeps.B13 = true := by kernel_rfl
set_option maxHeartbeats 8000000 in
set_option maxRecDepth 100000 in
theorem ancepslaw09_DagKeeps.calls (k : Nat) (a0 : Int) (A1 : Option Addr) (c1 : Nat) (l1 : List Int) (r : Bool) (w : World) (hr1 : Kd.C (Kd.int .u16) w A1 l1.length l1) (hc1 : l1.length ≤ c1) (h : ancepslaw09_DagKeeps.f k a0 l1 = some r) :
  Calls Try.prog 10 #[.int .u8 a0, .slice A1 l1.length c1] w fun e w' => e = .returned (.bool r) ∧ Below w.heap.size w w' := by
 have hu24 := Try.underlying24
 have HR1 := Aside0.mk hr1
 have HC1 := Aside0.mk hc1
 clear hr1 hc1
 have HB := Aside0.mk (Below.refl w.heap.size w)
 have H : ((ancepslaw09_awake.f k).bind fun t488 => (if t488 = true then (ancepslaw09_DagKeeps.j0 k a0 l1 (decide ((l1.length : Int) > 40))) else (ancepslaw09_DagKeeps.j0 k a0 l1 true))) = some r := h
 clear h
 have HC3 := Aside0.mk H
 clear H
 go_enter Try.func10, Try.ntmps10
 go_upto_region 1 with (fail)
 go_cut [18] (fun v18 wc => ∃ (kq : Nat) (x18_2 : Bool), v18 = .bool x18_2 ∧ Aside0 (ancepslaw09_DagKeeps.j0 kq a0 l1 x18_2 = some r) ∧ Aside0 (kq ≤ k) ∧ Aside0 (Below w.heap.size w wc))
 case first =>
  have H := HC3.out
  clear HC3
  replace H := Option.bind_eq_some_iff.mp H
  obtain ⟨t488, A40, H⟩ := H
  replace H : (if t488 = true then (ancepslaw09_DagKeeps.j0 k a0 l1 (decide ((l1.length : Int) > 40))) else (ancepslaw09_DagKeeps.j0 k a0 l1 true)) = some r := H
  have A4 := Aside0.mk A40
  clear A40
  by_cases c5 : t488 = true
  ·subst c5
   have H1 : (ancepslaw09_DagKeeps.j0 k a0 l1 (decide ((l1.length : Int) > 40))) = some r := by rw [if_pos rfl] at H; exact H
   clear H
   have H := H1
   clear H1
   have H' := Aside0.mk H
   clear H
   go_wp2_with (first | ((with_reducible refine gate_callee (f := 13) rfl ?_); refine goesL_ (some 12) rfl rfl Try.func13 zK rfl #[] rfl zM ?_; (with_reducible refine (ancepslaw09_awake.calls k  true _ A4.out).mono ?_); rintro e w6 ⟨rfl, hb⟩; refine ⟨_, rfl, ?_⟩; have n0_ := Aside0.mk (below_step zB hb); clear HB; have HB := n0_; clear n0_; (try clear hb); (try clear hb2); (try clear hk); (try clear hi)))
   go_meet
   case rel => exact ⟨_, (decide ((l1.length : Int) > 40)), zT, H', ⟨by first | omega | exact Nat.le_refl _⟩, ⟨by repeat (first | (with_reducible first | exact HB.out | apply below_alloc | apply pw_below_drewN | apply below_drew1) | exact HB.out)⟩⟩
  ·replace c5 := Bool.eq_false_iff.mpr c5
   subst c5
   have H1 : (ancepslaw09_DagKeeps.j0 k a0 l1 true) = some r := by rw [if_neg (show ¬ (false = true) by decide)] at H; exact H
   clear H
   have H := H1
   clear H1
   have H' := Aside0.mk H
   clear H
   go_wp2_with (first | ((with_reducible refine gate_callee (f := 13) rfl ?_); refine goesL_ (some 12) rfl rfl Try.func13 zK rfl #[] rfl zM ?_; (with_reducible refine (ancepslaw09_awake.calls k  false _ A4.out).mono ?_); rintro e w7 ⟨rfl, hb⟩; refine ⟨_, rfl, ?_⟩; have n0_ := Aside0.mk (below_step zB hb); clear HB; have HB := n0_; clear n0_; (try clear hb); (try clear hb2); (try clear hk); (try clear hi)))
   go_meet
   case rel => exact ⟨_, (true), zT, H', ⟨by first | omega | exact Nat.le_refl _⟩, ⟨by repeat (first | (with_reducible first | exact HB.out | apply below_alloc | apply pw_below_drewN | apply below_drew1) | exact HB.out)⟩⟩
 case rest =>
  clear HC3
  obtain ⟨kq, x18_2, rfl, HA, HJ2, HB⟩ := hcut
  cases kq with
  | zero => exact absurd HA.out (by simp [ancepslaw09_DagKeeps.j0])
  | succ kj2 =>
   have H := HA.out
   clear HA
   simp only [ancepslaw09_DagKeeps.j0] at H
   by_cases c8 : x18_2 = true
   ·subst c8
    have H1 : ((ancepslaw09_awake.f kj2).bind fun t489 => (some t489)) = some r := by rw [if_pos rfl] at H; exact H
    clear H
    have H := H1
    clear H1
    replace H := Option.bind_eq_some_iff.mp H
    obtain ⟨t489, A90, H⟩ := H
    replace H : (some t489) = some r := H
    have A9 := Aside0.mk A90
    clear A90
    obtain rfl := Option.some.inj H
    go_wp2_with (first | ((with_reducible refine gate_callee (f := 13) rfl ?_); refine goesL_ (some 19) rfl rfl Try.func13 zK rfl #[] rfl zM ?_; (with_reducible refine (ancepslaw09_awake.calls kj2  t489 _ A9.out).mono ?_); rintro e w10 ⟨rfl, hb⟩; refine ⟨_, rfl, ?_⟩; have n0_ := Aside0.mk (below_step zB hb); clear HB; have HB := n0_; clear n0_; (try clear hb); (try clear hb2); (try clear hk); (try clear hi)))
    go_ret
    exact ⟨by first | rfl | (simp [errW_none, errW_some] <;> rfl) | (simp [*, errW_none, errW_some] <;> rfl), by repeat (first | (with_reducible first | exact HB.out | apply below_alloc | apply pw_below_drewN | apply below_drew1) | exact HB.out)⟩
   ·replace c8 := Bool.eq_false_iff.mpr c8
    subst c8
    have H1 : ((ancepsref09_Made.f kj2 a0 l1).bind fun bt490 => ((ancepsref09_Paths.f kj2 bt490.1 bt490.2).bind fun bt495 => (if bt495.2 = 0 then ((dag_Reverse.f kj2 bt490.1 bt490.2).bind fun bt499 => (if bt499.2.2 = 0 then ((ancepsref09_Valid.f kj2 bt499.1 bt499.2.1).bind fun t505 => (if t505 = 0 then ((ancepslaw09_costs.f kj2 bt499.1 bt499.2.1).bind fun t506 => ((ancepslaw09_costs.f kj2 bt490.1 bt490.2).bind fun t509 => ((slices_Equal_int_int.f kj2 t506 t509).bind fun t512 => (ancepslaw09_DagKeeps.j1 kj2 (!t512) bt490.1 bt490.2)))) else (ancepslaw09_DagKeeps.j1 kj2 true bt490.1 bt490.2))) else (ancepslaw09_DagKeeps.j1 kj2 true bt490.1 bt490.2))) else (some true)))) = some r := by rw [if_neg (show ¬ (false = true) by decide)] at H; exact H
    clear H
    have H := H1
    clear H1
    replace H := Option.bind_eq_some_iff.mp H
    obtain ⟨⟨t490, t491⟩, A110, H⟩ := H
    replace H : ((ancepsref09_Paths.f kj2 t490 t491).bind fun bt495 => (if bt495.2 = 0 then ((dag_Reverse.f kj2 t490 t491).bind fun bt499 => (if bt499.2.2 = 0 then ((ancepsref09_Valid.f kj2 bt499.1 bt499.2.1).bind fun t505 => (if t505 = 0 then ((ancepslaw09_costs.f kj2 bt499.1 bt499.2.1).bind fun t506 => ((ancepslaw09_costs.f kj2 t490 t491).bind fun t509 => ((slices_Equal_int_int.f kj2 t506 t509).bind fun t512 => (ancepslaw09_DagKeeps.j1 kj2 (!t512) t490 t491)))) else (ancepslaw09_DagKeeps.j1 kj2 true t490 t491))) else (ancepslaw09_DagKeeps.j1 kj2 true t490 t491))) else (some true))) = some r := H
    have A11 := Aside0.mk A110
    clear A110
    replace H := Option.bind_eq_some_iff.mp H
    obtain ⟨⟨t495, t498⟩, A120, H⟩ := H
    replace H : (if t498 = 0 then ((dag_Reverse.f kj2 t490 t491).bind fun bt499 => (if bt499.2.2 = 0 then ((ancepsref09_Valid.f kj2 bt499.1 bt499.2.1).bind fun t505 => (if t505 = 0 then ((ancepslaw09_costs.f kj2 bt499.1 bt499.2.1).bind fun t506 => ((ancepslaw09_costs.f kj2 t490 t491).bind fun t509 => ((slices_Equal_int_int.f kj2 t506 t509).bind fun t512 => (ancepslaw09_DagKeeps.j1 kj2 (!t512) t490 t491)))) else (ancepslaw09_DagKeeps.j1 kj2 true t490 t491))) else (ancepslaw09_DagKeeps.j1 kj2 true t490 t491))) else (some true)) = some r := H
    have A12 := Aside0.mk A120
    clear A120
    have HC13 := Aside0.mk H
    clear H
    go_upto_if 29 with (first | ((with_reducible refine gate_callee (f := 37) rfl ?_); refine goesL_ (some 22) rfl rfl Try.func37 zK rfl #[.int .u8 a0, .slice A1 l1.length c1] rfl zM ?_; (with_reducible refine (ancepsref09_Made.calls kj2 a0 _ _ l1 t490 t491 _ ?side1 ?side2 A11.out).mono ?_); (case side1 => repeat (first | exact (Kd.C_below HR1.out HB.out) | (with_reducible refine Kd.C_alloc ?_ _) | (with_reducible refine Kd.C_drewN ?_ _) | (with_reducible refine Kd.C_drew ?_))); (case side2 => exact HC1.out); rintro e w14 ⟨v492, rfl, ho0, hb⟩; refine ⟨_, rfl, ?_⟩; have n0_ := Aside0.mk (Kd.R_lower ho0 (below_size zB)); have n1_ := Aside0.mk (below_step zB hb); clear HB; have HO493 := n0_; have HB := n1_; clear n0_ n1_; (try clear hb); (try clear hb2); (try clear hk); (try clear hi); (try clear ho0)) | ((with_reducible refine gate_dst (N := 5) rfl ?_); (try (refine gate_guard (by rfl) ?_; dsimp only)); refine box_event ?hg (N := 5) ?hd (cs := #[.int .i64 0, .slice none 0 0]) (t := 24) ?hr ?_; (case hd => rfl); (case hg => rfl); (case hr => first | (go_simp; done) | (go_simp; rfl)); intro gb494 hg w15 hbox hb; have n0_ := Aside0.mk (Kd.R_below (zR HO493) hb); have n1_ := Aside0.mk (below_step zB hb); have n2_ := Aside0.mk (hbox); have n3_ := Aside0.mk ((by rw [hg]; exact (below_size zB) : w.heap.size ≤ gb494)); have n4_ := Aside0.mk ((by rw [hg]; exact (below_size zB) : w.heap.size ≤ gb494)); clear HO493; clear HB; have HO493 := n0_; have HB := n1_; have BK494 := n2_; have GW494 := n3_; have GE494 := n4_; clear n0_ n1_ n2_ n3_ n4_; clear hb hbox hg; have hcz16_0 : w15.cell? ⟨gb494, 0, none⟩ = some (.int .i64 0) := (blk_cell BK494.out 0).trans rfl; have hcz16_1 : w15.cell? ⟨gb494, 1, none⟩ = some (.slice none 0 0) := (blk_cell BK494.out 1).trans rfl; have hfz16_0 := blk_frozen BK494.out 0; have hfz16_1 := blk_frozen BK494.out 1; obtain ⟨Ao17, co17, eo17⟩ := Kd.R_slice HO493.out; subst eo17) | ((with_reducible refine gate_callee (f := 22) rfl ?_); refine goesL_ (some 25) rfl rfl Try.func22 zK rfl #[.agg #[.int .i64 t490, .slice Ao17 t491.length co17]] rfl zM ?_; (with_reducible refine (ancepsref09_Paths.calls kj2 t490 _ _ t491 t495 t498 _ ?side1 ?side2 A12.out).mono ?_); (case side1 => refine (Kd.R_reads' (e := 69) (base := w.heap.size) (ok := fun k_ => True) (n := t491.length) (c := co17) ?_).2.2; exact (by (with_reducible repeat (first | apply Kd.R_alloc | apply Kd.R_drewN | apply Kd.R_drew)); exact (Kd.R_mono (Kd.R_far (p := ⟨gb494, 1, none⟩) (Kd.R_far (p := ⟨gb494, 0, none⟩) (Kd.R_types HO493.out BK494.out (by decide)) (fun _ hk => hk.2) (.int .i64 t490)) (fun _ hk => hk.2) (.slice Ao17 t491.length co17)) (fun _ h_ => h_.1)))); (case side2 => exact (Kd.R_reads' HO493.out).2.1); rintro e w18 ⟨v496, rfl, ho0, hb⟩; refine ⟨_, rfl, ?_⟩; have n0_ := Aside0.mk (Kd.R_below (by (with_reducible repeat (first | apply Kd.R_alloc | apply Kd.R_drewN | apply Kd.R_drew)); exact (Kd.R_mono (Kd.R_far (p := ⟨gb494, 1, none⟩) (Kd.R_far (p := ⟨gb494, 0, none⟩) (Kd.R_types HO493.out BK494.out (by decide)) (fun _ hk => hk.2) (.int .i64 t490)) (fun _ hk => hk.2) (.slice Ao17 t491.length co17)) (fun _ h_ => h_.1))) hb); have n1_ := Aside0.mk (Kd.N_lower (Kd.N_mono (ok' := fun k_ => some k_ ≠ (.slice Ao17 t491.length co17 : Value).ownBlock ∧ k_ ≠ gb494) ho0 (fun k_ hk_ => ⟨(Kd.fresh' (Kd.R_lt (by (with_reducible repeat (first | apply Kd.R_alloc | apply Kd.R_drewN | apply Kd.R_drew)); exact (Kd.R_mono (Kd.R_far (p := ⟨gb494, 1, none⟩) (Kd.R_far (p := ⟨gb494, 0, none⟩) (Kd.R_types HO493.out BK494.out (by decide)) (fun _ hk => hk.2) (.int .i64 t490)) (fun _ hk => hk.2) (.slice Ao17 t491.length co17)) (fun _ h_ => h_.1)))) k_ hk_), (Kd.freshB (g := gb494) (o := .cells #[.int .i64 t490, .slice Ao17 t491.length co17] 24 (0, 0)) (by (with_reducible repeat (first | refine blk_drewN ?_ _ | refine blk_drew ?_ | refine blk_alloc ?_ _)); refine blk_put (cs := #[.int .i64 t490, .slice none 0 0]) ?_ 1 _ rfl; (with_reducible repeat (first | refine blk_drewN ?_ _ | refine blk_drew ?_ | refine blk_alloc ?_ _)); refine blk_put (cs := #[.int .i64 0, .slice none 0 0]) ?_ 0 _ rfl; (with_reducible repeat (first | refine blk_drewN ?_ _ | refine blk_drew ?_ | refine blk_alloc ?_ _)); exact BK494.out) k_ hk_)⟩)) (below_size zB)); have n2_ := Aside0.mk (blk_below (g := gb494) (o := .cells #[.int .i64 t490, .slice Ao17 t491.length co17] 24 (0, 0)) (by (with_reducible repeat (first | refine blk_drewN ?_ _ | refine blk_drew ?_ | refine blk_alloc ?_ _)); refine blk_put (cs := #[.int .i64 t490, .slice none 0 0]) ?_ 1 _ rfl; (with_reducible repeat (first | refine blk_drewN ?_ _ | refine blk_drew ?_ | refine blk_alloc ?_ _)); refine blk_put (cs := #[.int .i64 0, .slice none 0 0]) ?_ 0 _ rfl; (with_reducible repeat (first | refine blk_drewN ?_ _ | refine blk_drew ?_ | refine blk_alloc ?_ _)); exact BK494.out) hb); have n3_ := Aside0.mk (below_step zB hb); clear HO493; clear BK494; clear HB; have HO493 := n0_; have HO497 := n1_; have BK494 := n2_; have HB := n3_; clear n0_ n1_ n2_ n3_; (try clear hb); (try clear hb2); (try clear hk); (try clear hi); (try clear ho0)))
    (try simp only [Act.put, List.setIfInBounds_toArray, List.set_cons_zero, List.set_cons_succ])
    have H := HC13.out
    clear HC13
    by_cases c19 : t498 = 0
    ·rw [if_pos c19] at H
     have c19b0 : (t498 == 0) = true := beq_iff_eq.mpr c19
     have c19b1 : (t498 != 0) = false := bne_eq_false_iff_eq.mpr c19
     clear c19
     (first | rw [c19b0] | (simp only [i64_w, i32_w]; rw [c19b0]) | skip)
     (try rw [c19b1])
     replace H := Option.bind_eq_some_iff.mp H
     obtain ⟨⟨t499, t500, t503⟩, A200, H⟩ := H
     replace H : (if t503 = 0 then ((ancepsref09_Valid.f kj2 t499 t500).bind fun t505 => (if t505 = 0 then ((ancepslaw09_costs.f kj2 t499 t500).bind fun t506 => ((ancepslaw09_costs.f kj2 t490 t491).bind fun t509 => ((slices_Equal_int_int.f kj2 t506 t509).bind fun t512 => (ancepslaw09_DagKeeps.j1 kj2 (!t512) t490 t491)))) else (ancepslaw09_DagKeeps.j1 kj2 true t490 t491))) else (ancepslaw09_DagKeeps.j1 kj2 true t490 t491)) = some r := H
     have A20 := Aside0.mk A200
     clear A200
     have HC21 := Aside0.mk H
     clear H
     have hcz22_0 : w18.cell? ⟨gb494, 0, none⟩ = some (.int .i64 t490) := (blk_cell BK494.out 0).trans rfl
     have hcz22_1 : w18.cell? ⟨gb494, 1, none⟩ = some (.slice Ao17 t491.length co17) := (blk_cell BK494.out 1).trans rfl
     have hfz22_0 := blk_frozen BK494.out 0
     have hfz22_1 := blk_frozen BK494.out 1
     go_upto_region 8 with (first | ((with_reducible refine gate_callee (f := 24) rfl ?_); refine goesL_ (some 32) rfl rfl Try.func24 zK rfl #[.agg #[.int .i64 t490, .slice Ao17 t491.length co17]] rfl zM ?_; (with_reducible refine (dag_Reverse.calls kj2 t490 _ _ t491 t499 t500 t503 _ ?side1 ?side2 A20.out).mono ?_); (case side1 => repeat (first | exact (Kd.R_reads' HO493.out).2.2 | (with_reducible refine Kd.C_alloc ?_ _) | (with_reducible refine Kd.C_drewN ?_ _) | (with_reducible refine Kd.C_drew ?_))); (case side2 => exact (Kd.R_reads' HO493.out).2.1); rintro e w23 ⟨v501, rfl, ho0, hb⟩; refine ⟨_, rfl, ?_⟩; have n0_ := Aside0.mk (Kd.R_elder' (zR HO493) (Kd.R_base ho0) hb); have n1_ := Aside0.mk (Kd.N_elder' (zN HO497) (Kd.R_base ho0) hb); have n2_ := Aside0.mk (Kd.R_lower (Kd.R_new' ho0 (Kd.R_lt (zR HO493))) (below_size zB)); have n3_ := Aside0.mk (blk_below (g := gb494) (o := .cells #[.int .i64 t490, .slice Ao17 t491.length co17] 24 (0, 0)) (zk BK494) hb); have n4_ := Aside0.mk (below_step zB hb); clear HO493; clear HO497; clear BK494; clear HB; have HO493 := n0_; have HO497 := n1_; have HO502 := n2_; have BK494 := n3_; have HB := n4_; clear n0_ n1_ n2_ n3_ n4_; (try clear hb); (try clear hb2); (try clear hk); (try clear hi); (try clear ho0)) | ((with_reducible refine gate_dst (N := 8) rfl ?_); (try (refine gate_guard (by rfl) ?_; dsimp only)); refine box_event ?hg (N := 8) ?hd (cs := #[.int .i64 0, .slice none 0 0]) (t := 24) ?hr ?_; (case hd => rfl); (case hg => rfl); (case hr => first | (go_simp; done) | (go_simp; rfl)); intro gb504 hg w24 hbox hb; have n0_ := Aside0.mk (Kd.R_below (zR HO493) hb); have n1_ := Aside0.mk (Kd.N_below (Kd.N_elderB (zN HO497) gb504 (Nat.le_of_eq hg.symm)) hb); have n2_ := Aside0.mk (Kd.R_below (zR HO502) hb); have n3_ := Aside0.mk (blk_below (g := gb494) (o := .cells #[.int .i64 t490, .slice Ao17 t491.length co17] 24 (0, 0)) (zk BK494) hb); have n4_ := Aside0.mk (below_step zB hb); have n5_ := Aside0.mk (hbox); have n6_ := Aside0.mk ((by rw [hg]; exact (below_size zB) : w.heap.size ≤ gb504)); have n7_ := Aside0.mk ((by rw [hg]; exact (below_size zB) : w.heap.size ≤ gb504)); have n8_ := Aside0.mk ((by rw [hg]; exact Nat.ne_of_lt (blk_lt (g := gb494) (o := .cells #[.int .i64 t490, .slice Ao17 t491.length co17] 24 (0, 0)) (zk BK494)) : gb494 ≠ gb504)); have n9_ := Aside0.mk ((by rw [hg]; exact Nat.ne_of_gt (blk_lt (g := gb494) (o := .cells #[.int .i64 t490, .slice Ao17 t491.length co17] 24 (0, 0)) (zk BK494)) : gb504 ≠ gb494)); clear HO493; clear HO497; clear HO502; clear BK494; clear HB; have HO493 := n0_; have HO497 := n1_; have HO502 := n2_; have BK494 := n3_; have HB := n4_; have BK504 := n5_; have GW504 := n6_; have GE504 := n7_; have NB494_504 := n8_; have NB504_494 := n9_; clear n0_ n1_ n2_ n3_ n4_ n5_ n6_ n7_ n8_ n9_; clear hb hbox hg; have hnb25 := NB504_494.out; have hnc25 := NB494_504.out; have hcz26_0 : w24.cell? ⟨gb504, 0, none⟩ = some (.int .i64 0) := (blk_cell BK504.out 0).trans rfl; have hcz26_1 : w24.cell? ⟨gb504, 1, none⟩ = some (.slice none 0 0) := (blk_cell BK504.out 1).trans rfl; have hfz26_0 := blk_frozen BK504.out 0; have hfz26_1 := blk_frozen BK504.out 1; obtain ⟨Ao27, co27, eo27⟩ := Kd.R_slice HO502.out; subst eo27))
     (try simp only [Act.put, List.setIfInBounds_toArray, List.set_cons_zero, List.set_cons_succ])
     go_cut [49] (fun v49 wc => ∃ (kq : Nat) (x49_20 : Bool), v49 = .bool x49_20 ∧ Aside0 (ancepslaw09_DagKeeps.j1 kq x49_20 t490 t491 = some r) ∧ Aside0 (kq ≤ kj2) ∧ Aside0 (Kd.R k69 69 wc w.heap.size (fun k_ => some k_ ≠ ((.slice Ao27 t500.length co27) : Value).ownBlock) (.slice Ao17 t491.length co17) t491) ∧ Aside0 (Kd.R k69 69 wc w.heap.size (fun k_ => some k_ ≠ ((.slice Ao17 t491.length co17) : Value).ownBlock) (.slice Ao27 t500.length co27) t500) ∧ Aside0 (wc.heap[gb494]? = some (.cells #[.int .i64 t490, (.slice Ao17 t491.length co17)] 24 (0, 0))) ∧ Aside0 (wc.heap[gb504]? = some (.cells #[.int .i64 t499, (.slice Ao27 t500.length co27)] 24 (0, 0))) ∧ Aside0 (Below w.heap.size w wc))
     case first =>
      have H := HC21.out
      clear HC21
      by_cases c28 : t503 = 0
      ·rw [if_pos c28] at H
       have c28b0 : (t503 == 0) = true := beq_iff_eq.mpr c28
       have c28b1 : (t503 != 0) = false := bne_eq_false_iff_eq.mpr c28
       clear c28
       (first | rw [c28b0] | (simp only [i64_w, i32_w]; rw [c28b0]) | skip)
       (try rw [c28b1])
       replace H := Option.bind_eq_some_iff.mp H
       obtain ⟨t505, A290, H⟩ := H
       replace H : (if t505 = 0 then ((ancepslaw09_costs.f kj2 t499 t500).bind fun t506 => ((ancepslaw09_costs.f kj2 t490 t491).bind fun t509 => ((slices_Equal_int_int.f kj2 t506 t509).bind fun t512 => (ancepslaw09_DagKeeps.j1 kj2 (!t512) t490 t491)))) else (ancepslaw09_DagKeeps.j1 kj2 true t490 t491)) = some r := H
       have A29 := Aside0.mk A290
       clear A290
       by_cases c30 : t505 = 0
       ·rw [if_pos c30] at H
        have c30b0 : (t505 == 0) = true := beq_iff_eq.mpr c30
        have c30b1 : (t505 != 0) = false := bne_eq_false_iff_eq.mpr c30
        clear c30
        replace H := Option.bind_eq_some_iff.mp H
        obtain ⟨t506, A310, H⟩ := H
        replace H : ((ancepslaw09_costs.f kj2 t490 t491).bind fun t509 => ((slices_Equal_int_int.f kj2 t506 t509).bind fun t512 => (ancepslaw09_DagKeeps.j1 kj2 (!t512) t490 t491))) = some r := H
        have A31 := Aside0.mk A310
        clear A310
        replace H := Option.bind_eq_some_iff.mp H
        obtain ⟨t509, A320, H⟩ := H
        replace H : ((slices_Equal_int_int.f kj2 t506 t509).bind fun t512 => (ancepslaw09_DagKeeps.j1 kj2 (!t512) t490 t491)) = some r := H
        have A32 := Aside0.mk A320
        clear A320
        replace H := Option.bind_eq_some_iff.mp H
        obtain ⟨t512, A330, H⟩ := H
        replace H : (ancepslaw09_DagKeeps.j1 kj2 (!t512) t490 t491) = some r := H
        have A33 := Aside0.mk A330
        clear A330
        have H' := Aside0.mk H
        clear H
        try go_wp2
        have n0_ : Aside0 (Kd.R k69 69 ((w24.setCell ⟨gb504, 0, none⟩ (.int .i64 t499)).setCell ⟨gb504, 1, none⟩ (.slice Ao27 t500.length co27)) w.heap.size (fun k_ => some k_ ≠ (.slice Ao27 t500.length co27 : Value).ownBlock) (.slice Ao17 t491.length co17) t491) := ⟨by (with_reducible repeat (first | apply Kd.R_alloc | apply Kd.R_drewN | apply Kd.R_drew)); exact Kd.R_mono (Kd.R_far (p := ⟨gb504, 1, none⟩) (Kd.R_far (p := ⟨gb504, 0, none⟩) (Kd.R_types HO493.out BK504.out (by decide)) (fun _ hk => hk.2) (.int .i64 t499)) (fun _ hk => hk.2) (.slice Ao27 t500.length co27)) (fun _ hk => hk.1.2)⟩
        have n1_ : Aside0 (Kd.N (Kd.slice 3 (Kd.int .i64)) 25 ((w24.setCell ⟨gb504, 0, none⟩ (.int .i64 t499)).setCell ⟨gb504, 1, none⟩ (.slice Ao27 t500.length co27)) w.heap.size (fun k_ => some k_ ≠ (.slice Ao17 t491.length co17 : Value).ownBlock ∧ some k_ ≠ (.slice Ao27 t500.length co27 : Value).ownBlock ∧ k_ ≠ gb494 ∧ k_ ≠ gb504) v496 t495) := ⟨by (with_reducible repeat (first | apply Kd.N_alloc | apply Kd.N_drewN | apply Kd.N_drew)); exact Kd.N_mono (Kd.N_far (p := ⟨gb504, 1, none⟩) (Kd.N_far (p := ⟨gb504, 0, none⟩) (Kd.N_mono HO497.out (fun k_ hk => (⟨hk, hk.2⟩ : _ ∧ k_ ≠ gb504))) (fun _ hk => hk.2) (.int .i64 t499)) (fun _ hk => hk.2) (.slice Ao27 t500.length co27)) (fun _ hk => ⟨hk.1.1.1.1, ⟨hk.1.1.2, ⟨hk.1.1.1.2, hk.1.2⟩⟩⟩)⟩
        have n2_ : Aside0 (Kd.R k69 69 ((w24.setCell ⟨gb504, 0, none⟩ (.int .i64 t499)).setCell ⟨gb504, 1, none⟩ (.slice Ao27 t500.length co27)) w.heap.size (fun k_ => some k_ ≠ (.slice Ao17 t491.length co17 : Value).ownBlock) (.slice Ao27 t500.length co27) t500) := ⟨by (with_reducible repeat (first | apply Kd.R_alloc | apply Kd.R_drewN | apply Kd.R_drew)); exact Kd.R_mono (Kd.R_far (p := ⟨gb504, 1, none⟩) (Kd.R_far (p := ⟨gb504, 0, none⟩) (Kd.R_types HO502.out BK504.out (by decide)) (fun _ hk => hk.2) (.int .i64 t499)) (fun _ hk => hk.2) (.slice Ao27 t500.length co27)) (fun _ hk => hk.1.2)⟩
        have n3_ : Aside0 (((w24.setCell ⟨gb504, 0, none⟩ (.int .i64 t499)).setCell ⟨gb504, 1, none⟩ (.slice Ao27 t500.length co27)).heap[gb494]? = some (.cells #[.int .i64 t490, .slice Ao17 t491.length co17] 24 (0, 0))) := ⟨by (with_reducible repeat (first | refine blk_drewN ?_ _ | refine blk_drew ?_ | refine blk_alloc ?_ _)); refine blk_far ?_ NB494_504.out _; (with_reducible repeat (first | refine blk_drewN ?_ _ | refine blk_drew ?_ | refine blk_alloc ?_ _)); refine blk_far ?_ NB494_504.out _; (with_reducible repeat (first | refine blk_drewN ?_ _ | refine blk_drew ?_ | refine blk_alloc ?_ _)); exact BK494.out⟩
        have n4_ : Aside0 (((w24.setCell ⟨gb504, 0, none⟩ (.int .i64 t499)).setCell ⟨gb504, 1, none⟩ (.slice Ao27 t500.length co27)).heap[gb504]? = some (.cells #[.int .i64 t499, .slice Ao27 t500.length co27] 24 (0, 0))) := ⟨by (with_reducible repeat (first | refine blk_drewN ?_ _ | refine blk_drew ?_ | refine blk_alloc ?_ _)); refine blk_put (cs := #[.int .i64 t499, .slice none 0 0]) ?_ 1 _ rfl; (with_reducible repeat (first | refine blk_drewN ?_ _ | refine blk_drew ?_ | refine blk_alloc ?_ _)); refine blk_put (cs := #[.int .i64 0, .slice none 0 0]) ?_ 0 _ rfl; (with_reducible repeat (first | refine blk_drewN ?_ _ | refine blk_drew ?_ | refine blk_alloc ?_ _)); exact BK504.out⟩
        have n5_ : Aside0 (Below w.heap.size w ((w24.setCell ⟨gb504, 0, none⟩ (.int .i64 t499)).setCell ⟨gb504, 1, none⟩ (.slice Ao27 t500.length co27))) := ⟨by repeat (first | (with_reducible first | exact HB.out | apply below_alloc | apply pw_below_drewN | apply below_drew1 | refine below_set ?_ GE494.out | refine below_set ?_ GE504.out) | exact HB.out)⟩
        (try clear HO493)
        (try clear HO497)
        (try clear HO502)
        (try clear BK494)
        (try clear BK504)
        (try clear HB)
        generalize ((w24.setCell ⟨gb504, 0, none⟩ (.int .i64 t499)).setCell ⟨gb504, 1, none⟩ (.slice Ao27 t500.length co27)) = w34 at n0_ n1_ n2_ n3_ n4_ n5_ ⊢
        have HO493 := n0_
        have HO497 := n1_
        have HO502 := n2_
        have BK494 := n3_
        have BK504 := n4_
        have HB := n5_
        clear n0_ n1_ n2_ n3_ n4_ n5_
        have n0_ := Aside0.mk (Kd.R_drew HO493.out)
        have n1_ := Aside0.mk (Kd.N_drew HO497.out)
        have n2_ := Aside0.mk (Kd.R_drew HO502.out)
        have n3_ := Aside0.mk (blk_drew BK494.out)
        have n4_ := Aside0.mk (blk_drew BK504.out)
        have n5_ := Aside0.mk (below_drew1 HB.out)
        clear HO493
        clear HO497
        clear HO502
        clear BK494
        clear BK504
        clear HB
        have HO493 := n0_
        have HO497 := n1_
        have HO502 := n2_
        have BK494 := n3_
        have BK504 := n4_
        have HB := n5_
        clear n0_ n1_ n2_ n3_ n4_ n5_
        refine start_ (n := 15) (S := fun w' => w'.cell? ⟨gb504, 0, none⟩ = some (.int .i64 t499) ∧ w'.cell? ⟨gb504, 1, none⟩ = some (.slice Ao27 t500.length co27) ∧ w'.cell? ⟨gb494, 0, none⟩ = some (.int .i64 t490) ∧ w'.cell? ⟨gb494, 1, none⟩ = some (.slice Ao17 t491.length co17)) (ds := []) #[false, false, false, false, false, false, false, false, false, false, false, false, false, false, false] zK rfl rfl ⟨(blk_cell BK504.out 0).trans rfl, (blk_cell BK504.out 1).trans rfl, (blk_cell BK494.out 0).trans rfl, (blk_cell BK494.out 1).trans rfl⟩ (fun hHeld => ?_); refine with_tabW ancepslaw09_DagKeeps.tab8 ancepslaw09_DagKeeps.bits8 (fun HT_ HW_ => ?_)
        generalize w34.drew = w35 at HO493 HO497 HO502 BK494 BK504 HB hHeld ⊢
        refine pure_ (i := 0) (N := some 35) (v := ?_) (a' := ?_) #[true, false, false, false, false, false, false, false, false, false, false, false, false, false, false] rfl rfl (any_of HT_.out zK) (fun _ _ _ h => h) (Or.inl ⟨by rfl, ?_⟩) ?_ ?_
        rotate_left
        ·intro w'
         go_simp
         with_reducible rfl
        rotate_left
        ·simp only [Act.put, List.setIfInBounds_toArray, List.set_cons_zero, List.set_cons_succ, i64_w, i32_w]
         rfl
        refine pure_ (i := 1) (N := some 36) (v := ?_) (a' := ?_) #[true, true, false, false, false, false, false, false, false, false, false, false, false, false, false] rfl rfl (any_of HT_.out zK) (fun _ _ _ h => h) (Or.inl ⟨by rfl, ?_⟩) ?_ ?_
        rotate_left
        ·intro w'
         go_simp
         with_reducible rfl
        rotate_left
        ·simp only [Act.put, List.setIfInBounds_toArray, List.set_cons_zero, List.set_cons_succ, i64_w, i32_w]
         rfl
        refine pure_ (i := 2) (N := some 37) (v := ?_) (a' := ?_) #[true, true, true, false, false, false, false, false, false, false, false, false, false, false, false] rfl rfl (any_of HT_.out zK) (fun _ _ _ h => h) (Or.inl ⟨by rfl, ?_⟩) ?_ ?_
        rotate_left
        ·intro w'
         go_simp
         with_reducible rfl
        rotate_left
        ·simp only [Act.put, List.setIfInBounds_toArray, List.set_cons_zero, List.set_cons_succ, i64_w, i32_w]
         rfl
        refine take_ (i := 3) (N := some 38) (v := ?_) (a' := ?_) #[true, true, true, true, false, false, false, false, false, false, false, false, false, false, false] rfl rfl (take_ofW HT_.out HW_.out zK) (fun _ _ _ h => h) (Or.inl ⟨by rfl, ?_⟩) hHeld ?_ ?_
        rotate_left
        ·rintro w' ⟨s0, s1, s2, s3⟩
         go_simp
         with_reducible rfl
        rotate_left
        ·simp only [Act.put, List.setIfInBounds_toArray, List.set_cons_zero, List.set_cons_succ, i64_w, i32_w]
         rfl
        refine one_ (i := 4) (N := some 39) #[true, true, true, true, true, false, false, false, false, false, false, false, false, false, false] rfl rfl (one_of HT_.out zK) (by decide) (fun K hK => ?_)
        refine goes_ Try.func28 zK rfl #[.agg #[.int .i64 t499, .slice Ao27 t500.length co27]] (by rfl) rfl rfl zM ?_
        with_reducible refine (ancepsref09_Valid.calls kj2 t499 _ _ t500 t505 _ ?side1 ?side2 A29.out).mono ?_
        (case side1 => repeat (first | exact (Kd.R_reads' HO502.out).2.2 | (with_reducible refine Kd.C_alloc ?_ _) | (with_reducible refine Kd.C_drewN ?_ _) | (with_reducible refine Kd.C_drew ?_)))
        (case side2 => exact (Kd.R_reads' HO502.out).2.1)
        rintro e w36 ⟨rfl, hb⟩
        refine ⟨_, rfl, ?_⟩
        have n0_ := Aside0.mk (Kd.R_below (zR HO493) hb)
        have n1_ := Aside0.mk (Kd.N_below (zN HO497) hb)
        have n2_ := Aside0.mk (Kd.R_below (zR HO502) hb)
        have n3_ := Aside0.mk (blk_below (g := gb494) (o := .cells #[.int .i64 t490, .slice Ao17 t491.length co17] 24 (0, 0)) (zk BK494) hb)
        have n4_ := Aside0.mk (blk_below (g := gb504) (o := .cells #[.int .i64 t499, .slice Ao27 t500.length co27] 24 (0, 0)) (zk BK504) hb)
        have n5_ := Aside0.mk (below_step zB hb)
        clear HO493
        clear HO497
        clear HO502
        clear BK494
        clear BK504
        clear HB
        have HO493 := n0_
        have HO497 := n1_
        have HO502 := n2_
        have BK494 := n3_
        have BK504 := n4_
        have HB := n5_
        clear n0_ n1_ n2_ n3_ n4_ n5_
        (try clear hb)
        (try clear hb2)
        (try clear hk)
        (try clear hi)
        refine hK.out _ _ ⟨(blk_cell BK504.out 0).trans rfl, (blk_cell BK504.out 1).trans rfl, (blk_cell BK494.out 0).trans rfl, (blk_cell BK494.out 1).trans rfl⟩ (fun hHeld => ?_)
        clear hK K
        refine norm_ (a' := ?_) ?_ ?_
        rotate_left
        ·show Act.put _ (some 39) _ = _
         simp only [Act.put, List.setIfInBounds_toArray, List.set_cons_zero, List.set_cons_succ, i64_w, i32_w]
         rfl
        refine pure_ (i := 5) (N := some 40) (v := ?_) (a' := ?_) #[true, true, true, true, true, true, false, false, false, false, false, false, false, false, false] rfl rfl (any_of HT_.out zK) (fun _ _ _ h => h) (Or.inl ⟨by rfl, ?_⟩) ?_ ?_
        rotate_left
        ·intro w'
         go_simp
         with_reducible rfl
        rotate_left
        ·simp only [Act.put, List.setIfInBounds_toArray, List.set_cons_zero, List.set_cons_succ, i64_w, i32_w]
         rfl
        refine pure_ (i := 6) (N := some 41) (v := ?_) (a' := ?_) #[true, true, true, true, true, true, true, false, false, false, false, false, false, false, false] rfl rfl (any_of HT_.out zK) (fun _ _ _ h => h) (Or.inl ⟨by rfl, ?_⟩) ?_ ?_
        rotate_left
        ·intro w'
         go_simp
         with_reducible rfl
        rotate_left
        ·simp only [Act.put, List.setIfInBounds_toArray, List.set_cons_zero, List.set_cons_succ, i64_w, i32_w]
         rfl
        refine pure_ (i := 7) (N := some 42) (v := ?_) (a' := ?_) #[true, true, true, true, true, true, true, true, false, false, false, false, false, false, false] rfl rfl (any_of HT_.out zK) (fun _ _ _ h => h) (Or.inl ⟨by rfl, ?_⟩) ?_ ?_
        rotate_left
        ·intro w'
         go_simp
         with_reducible rfl
        rotate_left
        ·simp only [Act.put, List.setIfInBounds_toArray, List.set_cons_zero, List.set_cons_succ, i64_w, i32_w]
         rfl
        refine take_ (i := 8) (N := some 43) (v := ?_) (a' := ?_) #[true, true, true, true, true, true, true, true, true, false, false, false, false, false, false] rfl rfl (take_ofW HT_.out HW_.out zK) (fun _ _ _ h => h) (Or.inl ⟨by rfl, ?_⟩) hHeld ?_ ?_
        rotate_left
        ·rintro w' ⟨s0, s1, s2, s3⟩
         go_simp
         with_reducible rfl
        rotate_left
        ·simp only [Act.put, List.setIfInBounds_toArray, List.set_cons_zero, List.set_cons_succ, i64_w, i32_w]
         rfl
        refine take_ (i := 10) (N := some 45) (v := ?_) (a' := ?_) #[true, true, true, true, true, true, true, true, true, false, true, false, false, false, false] rfl rfl (take_ofW HT_.out HW_.out zK) (fun _ _ _ h => h) (Or.inl ⟨by rfl, ?_⟩) hHeld ?_ ?_
        rotate_left
        ·rintro w' ⟨s0, s1, s2, s3⟩
         go_simp
         with_reducible rfl
        rotate_left
        ·simp only [Act.put, List.setIfInBounds_toArray, List.set_cons_zero, List.set_cons_succ, i64_w, i32_w]
         rfl
        refine one_ (i := 9) (N := some 44) #[true, true, true, true, true, true, true, true, true, true, true, false, false, false, false] rfl rfl (one_of HT_.out zK) (by decide) (fun K hK => ?_)
        refine goes_ Try.func38 zK rfl #[.agg #[.int .i64 t499, .slice Ao27 t500.length co27]] (by rfl) rfl rfl zM ?_
        with_reducible refine (ancepslaw09_costs.calls kj2 t499 _ _ t500 t506 _ ?side1 ?side2 A31.out).mono ?_
        (case side1 => repeat (first | exact (Kd.R_reads' HO502.out).2.2 | (with_reducible refine Kd.C_alloc ?_ _) | (with_reducible refine Kd.C_drewN ?_ _) | (with_reducible refine Kd.C_drew ?_)))
        (case side2 => exact (Kd.R_reads' HO502.out).2.1)
        rintro e w37 ⟨v507, rfl, ho0, hb⟩
        refine ⟨_, rfl, ?_⟩
        have n0_ := Aside0.mk (Kd.R_below (zR HO493) hb)
        have n1_ := Aside0.mk (Kd.N_elder' (zN HO497) (Kd.R_base ho0) hb)
        have n2_ := Aside0.mk (Kd.R_below (zR HO502) hb)
        have n3_ := Aside0.mk (Kd.R_lower ho0 (below_size zB))
        have n4_ := Aside0.mk (blk_below (g := gb494) (o := .cells #[.int .i64 t490, .slice Ao17 t491.length co17] 24 (0, 0)) (zk BK494) hb)
        have n5_ := Aside0.mk (blk_below (g := gb504) (o := .cells #[.int .i64 t499, .slice Ao27 t500.length co27] 24 (0, 0)) (zk BK504) hb)
        have n6_ := Aside0.mk (below_step zB hb)
        clear HO493
        clear HO497
        clear HO502
        clear BK494
        clear BK504
        clear HB
        have HO493 := n0_
        have HO497 := n1_
        have HO502 := n2_
        have HO508 := n3_
        have BK494 := n4_
        have BK504 := n5_
        have HB := n6_
        clear n0_ n1_ n2_ n3_ n4_ n5_ n6_
        (try clear hb)
        (try clear hb2)
        (try clear hk)
        (try clear hi)
        (try clear ho0)
        refine hK.out _ _ ⟨(blk_cell BK504.out 0).trans rfl, (blk_cell BK504.out 1).trans rfl, (blk_cell BK494.out 0).trans rfl, (blk_cell BK494.out 1).trans rfl⟩ (fun hHeld => ?_)
        clear hK K
        refine norm_ (a' := ?_) ?_ ?_
        rotate_left
        ·show Act.put _ (some 44) _ = _
         simp only [Act.put, List.setIfInBounds_toArray, List.set_cons_zero, List.set_cons_succ, i64_w, i32_w]
         rfl
        refine one_ (i := 11) (N := some 46) #[true, true, true, true, true, true, true, true, true, true, true, true, false, false, false] rfl rfl (one_of HT_.out zK) (by decide) (fun K hK => ?_)
        refine goes_ Try.func38 zK rfl #[.agg #[.int .i64 t490, .slice Ao17 t491.length co17]] (by rfl) rfl rfl zM ?_
        with_reducible refine (ancepslaw09_costs.calls kj2 t490 _ _ t491 t509 _ ?side1 ?side2 A32.out).mono ?_
        (case side1 => repeat (first | exact (Kd.R_reads' HO493.out).2.2 | (with_reducible refine Kd.C_alloc ?_ _) | (with_reducible refine Kd.C_drewN ?_ _) | (with_reducible refine Kd.C_drew ?_)))
        (case side2 => exact (Kd.R_reads' HO493.out).2.1)
        rintro e w38 ⟨v510, rfl, ho0, hb⟩
        refine ⟨_, rfl, ?_⟩
        have n0_ := Aside0.mk (Kd.R_below (zR HO493) hb)
        have n1_ := Aside0.mk (Kd.N_elder' (zN HO497) (Kd.R_base ho0) hb)
        have n2_ := Aside0.mk (Kd.R_below (zR HO502) hb)
        have n3_ := Aside0.mk (Kd.R_elder' (zR HO508) (Kd.R_base ho0) hb)
        have n4_ := Aside0.mk (Kd.R_lower (Kd.R_new' ho0 (Kd.R_lt (zR HO508))) (below_size zB))
        have n5_ := Aside0.mk (blk_below (g := gb494) (o := .cells #[.int .i64 t490, .slice Ao17 t491.length co17] 24 (0, 0)) (zk BK494) hb)
        have n6_ := Aside0.mk (blk_below (g := gb504) (o := .cells #[.int .i64 t499, .slice Ao27 t500.length co27] 24 (0, 0)) (zk BK504) hb)
        have n7_ := Aside0.mk (below_step zB hb)
        clear HO493
        clear HO497
        clear HO502
        clear HO508
        clear BK494
        clear BK504
        clear HB
        have HO493 := n0_
        have HO497 := n1_
        have HO502 := n2_
        have HO508 := n3_
        have HO511 := n4_
        have BK494 := n5_
        have BK504 := n6_
        have HB := n7_
        clear n0_ n1_ n2_ n3_ n4_ n5_ n6_ n7_
        (try clear hb)
        (try clear hb2)
        (try clear hk)
        (try clear hi)
        (try clear ho0)
        obtain ⟨Ao39, co39, eo39⟩ := Kd.R_slice HO508.out
        (first | subst eo39 | (injection eo39 with f1_ f2_ f3_; have f4_ := f1_.symm; have f5_ := f3_.symm; clear f1_ f2_ f3_; subst f4_; subst f5_))
        obtain ⟨Ao40, co40, eo40⟩ := Kd.R_slice HO511.out
        (first | subst eo40 | (injection eo40 with f1_ f2_ f3_; have f4_ := f1_.symm; have f5_ := f3_.symm; clear f1_ f2_ f3_; subst f4_; subst f5_))
        refine hK.out _ _ ⟨(blk_cell BK504.out 0).trans rfl, (blk_cell BK504.out 1).trans rfl, (blk_cell BK494.out 0).trans rfl, (blk_cell BK494.out 1).trans rfl⟩ (fun hHeld => ?_)
        clear hK K
        refine norm_ (a' := ?_) ?_ ?_
        rotate_left
        ·show Act.put _ (some 46) _ = _
         simp only [Act.put, List.setIfInBounds_toArray, List.set_cons_zero, List.set_cons_succ, i64_w, i32_w]
         rfl
        refine one_ (i := 12) (N := some 47) #[true, true, true, true, true, true, true, true, true, true, true, true, true, false, false] rfl rfl (one_of HT_.out zK) (by decide) (fun K hK => ?_)
        refine goes_ Try.func32 zK rfl #[.slice Ao39 t506.length co39, .slice Ao40 t509.length co40] (by rfl) rfl rfl zM ?_
        with_reducible refine (slices_Equal_int_int.calls kj2 _ _ t506 _ _ t509 t512 _ ?side1 ?side2 ?side3 ?side4 A33.out).mono ?_
        (case side1 => repeat (first | exact (Kd.R_reads' HO508.out).2.2 | (with_reducible refine Kd.C_alloc ?_ _) | (with_reducible refine Kd.C_drewN ?_ _) | (with_reducible refine Kd.C_drew ?_)))
        (case side2 => exact (Kd.R_reads' HO508.out).2.1)
        (case side3 => repeat (first | exact (Kd.R_reads' HO511.out).2.2 | (with_reducible refine Kd.C_alloc ?_ _) | (with_reducible refine Kd.C_drewN ?_ _) | (with_reducible refine Kd.C_drew ?_)))
        (case side4 => exact (Kd.R_reads' HO511.out).2.1)
        rintro e w' ⟨rfl, ⟨nd, rfl⟩⟩
        refine ⟨_, rfl, ?_⟩
        refine hK.out _ _ ⟨(blk_cell BK504.out 0).trans rfl, (blk_cell BK504.out 1).trans rfl, (blk_cell BK494.out 0).trans rfl, (blk_cell BK494.out 1).trans rfl⟩ (fun hHeld => ?_)
        clear hK K
        refine norm_ (a' := ?_) ?_ ?_
        rotate_left
        ·show Act.put _ (some 47) _ = _
         simp only [Act.put, List.setIfInBounds_toArray, List.set_cons_zero, List.set_cons_succ, i64_w, i32_w]
         rfl
        refine pure_ (i := 13) (N := some 48) (v := ?_) (a' := ?_) #[true, true, true, true, true, true, true, true, true, true, true, true, true, true, false] rfl rfl (any_of HT_.out zK) (fun _ _ _ h => h) (Or.inl ⟨by rfl, ?_⟩) ?_ ?_
        rotate_left
        ·intro w'
         go_simp
         with_reducible rfl
        rotate_left
        ·simp only [Act.put, List.setIfInBounds_toArray, List.set_cons_zero, List.set_cons_succ, i64_w, i32_w]
         rfl
        refine pure_ (i := 14) (N := some 49) (v := ?_) (a' := ?_) #[true, true, true, true, true, true, true, true, true, true, true, true, true, true, true] rfl rfl (any_of HT_.out zK) (fun _ _ _ h => h) (Or.inl ⟨by rfl, ?_⟩) ?_ ?_
        rotate_left
        ·intro w'
         go_simp
         with_reducible rfl
        rotate_left
        ·simp only [Act.put, List.setIfInBounds_toArray, List.set_cons_zero, List.set_cons_succ, i64_w, i32_w]
         rfl
        refine done_ (done_of HT_.out zK) ?_
        try go_wp2
        go_meet
        case rel => exact ⟨_, (!t512), zT, H', ⟨by have := HJ2.out; first | omega | exact Nat.le_refl _⟩, ⟨by (with_reducible repeat (first | apply Kd.R_alloc | apply Kd.R_drewN | apply Kd.R_drew)); exact HO493.out⟩, ⟨by (with_reducible repeat (first | apply Kd.R_alloc | apply Kd.R_drewN | apply Kd.R_drew)); exact HO502.out⟩, ⟨by (with_reducible repeat (first | refine blk_drewN ?_ _ | refine blk_drew ?_ | refine blk_alloc ?_ _)); exact BK494.out⟩, ⟨by (with_reducible repeat (first | refine blk_drewN ?_ _ | refine blk_drew ?_ | refine blk_alloc ?_ _)); exact BK504.out⟩, ⟨by repeat (first | (with_reducible first | exact HB.out | apply below_alloc | apply pw_below_drewN | apply below_drew1 | refine below_set ?_ GE494.out | refine below_set ?_ GE504.out) | exact HB.out)⟩⟩
       ·rw [if_neg c30] at H
        have c30b0 : (t505 == 0) = false := beq_eq_false_iff_ne.mpr c30
        have c30b1 : (t505 != 0) = true := bne_iff_ne.mpr c30
        have H' := Aside0.mk H
        clear H
        try go_wp2
        have n0_ : Aside0 (Kd.R k69 69 ((w24.setCell ⟨gb504, 0, none⟩ (.int .i64 t499)).setCell ⟨gb504, 1, none⟩ (.slice Ao27 t500.length co27)) w.heap.size (fun k_ => some k_ ≠ (.slice Ao27 t500.length co27 : Value).ownBlock) (.slice Ao17 t491.length co17) t491) := ⟨by (with_reducible repeat (first | apply Kd.R_alloc | apply Kd.R_drewN | apply Kd.R_drew)); exact Kd.R_mono (Kd.R_far (p := ⟨gb504, 1, none⟩) (Kd.R_far (p := ⟨gb504, 0, none⟩) (Kd.R_types HO493.out BK504.out (by decide)) (fun _ hk => hk.2) (.int .i64 t499)) (fun _ hk => hk.2) (.slice Ao27 t500.length co27)) (fun _ hk => hk.1.2)⟩
        have n1_ : Aside0 (Kd.N (Kd.slice 3 (Kd.int .i64)) 25 ((w24.setCell ⟨gb504, 0, none⟩ (.int .i64 t499)).setCell ⟨gb504, 1, none⟩ (.slice Ao27 t500.length co27)) w.heap.size (fun k_ => some k_ ≠ (.slice Ao17 t491.length co17 : Value).ownBlock ∧ some k_ ≠ (.slice Ao27 t500.length co27 : Value).ownBlock ∧ k_ ≠ gb494 ∧ k_ ≠ gb504) v496 t495) := ⟨by (with_reducible repeat (first | apply Kd.N_alloc | apply Kd.N_drewN | apply Kd.N_drew)); exact Kd.N_mono (Kd.N_far (p := ⟨gb504, 1, none⟩) (Kd.N_far (p := ⟨gb504, 0, none⟩) (Kd.N_mono HO497.out (fun k_ hk => (⟨hk, hk.2⟩ : _ ∧ k_ ≠ gb504))) (fun _ hk => hk.2) (.int .i64 t499)) (fun _ hk => hk.2) (.slice Ao27 t500.length co27)) (fun _ hk => ⟨hk.1.1.1.1, ⟨hk.1.1.2, ⟨hk.1.1.1.2, hk.1.2⟩⟩⟩)⟩
        have n2_ : Aside0 (Kd.R k69 69 ((w24.setCell ⟨gb504, 0, none⟩ (.int .i64 t499)).setCell ⟨gb504, 1, none⟩ (.slice Ao27 t500.length co27)) w.heap.size (fun k_ => some k_ ≠ (.slice Ao17 t491.length co17 : Value).ownBlock) (.slice Ao27 t500.length co27) t500) := ⟨by (with_reducible repeat (first | apply Kd.R_alloc | apply Kd.R_drewN | apply Kd.R_drew)); exact Kd.R_mono (Kd.R_far (p := ⟨gb504, 1, none⟩) (Kd.R_far (p := ⟨gb504, 0, none⟩) (Kd.R_types HO502.out BK504.out (by decide)) (fun _ hk => hk.2) (.int .i64 t499)) (fun _ hk => hk.2) (.slice Ao27 t500.length co27)) (fun _ hk => hk.1.2)⟩
        have n3_ : Aside0 (((w24.setCell ⟨gb504, 0, none⟩ (.int .i64 t499)).setCell ⟨gb504, 1, none⟩ (.slice Ao27 t500.length co27)).heap[gb494]? = some (.cells #[.int .i64 t490, .slice Ao17 t491.length co17] 24 (0, 0))) := ⟨by (with_reducible repeat (first | refine blk_drewN ?_ _ | refine blk_drew ?_ | refine blk_alloc ?_ _)); refine blk_far ?_ NB494_504.out _; (with_reducible repeat (first | refine blk_drewN ?_ _ | refine blk_drew ?_ | refine blk_alloc ?_ _)); refine blk_far ?_ NB494_504.out _; (with_reducible repeat (first | refine blk_drewN ?_ _ | refine blk_drew ?_ | refine blk_alloc ?_ _)); exact BK494.out⟩
        have n4_ : Aside0 (((w24.setCell ⟨gb504, 0, none⟩ (.int .i64 t499)).setCell ⟨gb504, 1, none⟩ (.slice Ao27 t500.length co27)).heap[gb504]? = some (.cells #[.int .i64 t499, .slice Ao27 t500.length co27] 24 (0, 0))) := ⟨by (with_reducible repeat (first | refine blk_drewN ?_ _ | refine blk_drew ?_ | refine blk_alloc ?_ _)); refine blk_put (cs := #[.int .i64 t499, .slice none 0 0]) ?_ 1 _ rfl; (with_reducible repeat (first | refine blk_drewN ?_ _ | refine blk_drew ?_ | refine blk_alloc ?_ _)); refine blk_put (cs := #[.int .i64 0, .slice none 0 0]) ?_ 0 _ rfl; (with_reducible repeat (first | refine blk_drewN ?_ _ | refine blk_drew ?_ | refine blk_alloc ?_ _)); exact BK504.out⟩
        have n5_ : Aside0 (Below w.heap.size w ((w24.setCell ⟨gb504, 0, none⟩ (.int .i64 t499)).setCell ⟨gb504, 1, none⟩ (.slice Ao27 t500.length co27))) := ⟨by repeat (first | (with_reducible first | exact HB.out | apply below_alloc | apply pw_below_drewN | apply below_drew1 | refine below_set ?_ GE494.out | refine below_set ?_ GE504.out) | exact HB.out)⟩
        (try clear HO493)
        (try clear HO497)
        (try clear HO502)
        (try clear BK494)
        (try clear BK504)
        (try clear HB)
        generalize ((w24.setCell ⟨gb504, 0, none⟩ (.int .i64 t499)).setCell ⟨gb504, 1, none⟩ (.slice Ao27 t500.length co27)) = w41 at n0_ n1_ n2_ n3_ n4_ n5_ ⊢
        have HO493 := n0_
        have HO497 := n1_
        have HO502 := n2_
        have BK494 := n3_
        have BK504 := n4_
        have HB := n5_
        clear n0_ n1_ n2_ n3_ n4_ n5_
        have n0_ := Aside0.mk (Kd.R_drew HO493.out)
        have n1_ := Aside0.mk (Kd.N_drew HO497.out)
        have n2_ := Aside0.mk (Kd.R_drew HO502.out)
        have n3_ := Aside0.mk (blk_drew BK494.out)
        have n4_ := Aside0.mk (blk_drew BK504.out)
        have n5_ := Aside0.mk (below_drew1 HB.out)
        clear HO493
        clear HO497
        clear HO502
        clear BK494
        clear BK504
        clear HB
        have HO493 := n0_
        have HO497 := n1_
        have HO502 := n2_
        have BK494 := n3_
        have BK504 := n4_
        have HB := n5_
        clear n0_ n1_ n2_ n3_ n4_ n5_
        refine start_ (n := 15) (S := fun w' => w'.cell? ⟨gb504, 0, none⟩ = some (.int .i64 t499) ∧ w'.cell? ⟨gb504, 1, none⟩ = some (.slice Ao27 t500.length co27)) (ds := []) #[false, false, false, false, false, false, false, false, false, false, false, false, false, false, false] zK rfl rfl ⟨(blk_cell BK504.out 0).trans rfl, (blk_cell BK504.out 1).trans rfl⟩ (fun hHeld => ?_); refine with_tabW ancepslaw09_DagKeeps.tab8 ancepslaw09_DagKeeps.bits8 (fun HT_ HW_ => ?_)
        generalize w41.drew = w42 at HO493 HO497 HO502 BK494 BK504 HB hHeld ⊢
        refine pure_ (i := 0) (N := some 35) (v := ?_) (a' := ?_) #[true, false, false, false, false, false, false, false, false, false, false, false, false, false, false] rfl rfl (any_of HT_.out zK) (fun _ _ _ h => h) (Or.inl ⟨by rfl, ?_⟩) ?_ ?_
        rotate_left
        ·intro w'
         go_simp
         with_reducible rfl
        rotate_left
        ·simp only [Act.put, List.setIfInBounds_toArray, List.set_cons_zero, List.set_cons_succ, i64_w, i32_w]
         rfl
        refine pure_ (i := 1) (N := some 36) (v := ?_) (a' := ?_) #[true, true, false, false, false, false, false, false, false, false, false, false, false, false, false] rfl rfl (any_of HT_.out zK) (fun _ _ _ h => h) (Or.inl ⟨by rfl, ?_⟩) ?_ ?_
        rotate_left
        ·intro w'
         go_simp
         with_reducible rfl
        rotate_left
        ·simp only [Act.put, List.setIfInBounds_toArray, List.set_cons_zero, List.set_cons_succ, i64_w, i32_w]
         rfl
        refine pure_ (i := 2) (N := some 37) (v := ?_) (a' := ?_) #[true, true, true, false, false, false, false, false, false, false, false, false, false, false, false] rfl rfl (any_of HT_.out zK) (fun _ _ _ h => h) (Or.inl ⟨by rfl, ?_⟩) ?_ ?_
        rotate_left
        ·intro w'
         go_simp
         with_reducible rfl
        rotate_left
        ·simp only [Act.put, List.setIfInBounds_toArray, List.set_cons_zero, List.set_cons_succ, i64_w, i32_w]
         rfl
        refine take_ (i := 3) (N := some 38) (v := ?_) (a' := ?_) #[true, true, true, true, false, false, false, false, false, false, false, false, false, false, false] rfl rfl (take_ofW HT_.out HW_.out zK) (fun _ _ _ h => h) (Or.inl ⟨by rfl, ?_⟩) hHeld ?_ ?_
        rotate_left
        ·rintro w' ⟨s0, s1⟩
         go_simp
         with_reducible rfl
        rotate_left
        ·simp only [Act.put, List.setIfInBounds_toArray, List.set_cons_zero, List.set_cons_succ, i64_w, i32_w]
         rfl
        refine one_ (i := 4) (N := some 39) #[true, true, true, true, true, false, false, false, false, false, false, false, false, false, false] rfl rfl (one_of HT_.out zK) (by decide) (fun K hK => ?_)
        refine goes_ Try.func28 zK rfl #[.agg #[.int .i64 t499, .slice Ao27 t500.length co27]] (by rfl) rfl rfl zM ?_
        with_reducible refine (ancepsref09_Valid.calls kj2 t499 _ _ t500 t505 _ ?side1 ?side2 A29.out).mono ?_
        (case side1 => repeat (first | exact (Kd.R_reads' HO502.out).2.2 | (with_reducible refine Kd.C_alloc ?_ _) | (with_reducible refine Kd.C_drewN ?_ _) | (with_reducible refine Kd.C_drew ?_)))
        (case side2 => exact (Kd.R_reads' HO502.out).2.1)
        rintro e w43 ⟨rfl, hb⟩
        refine ⟨_, rfl, ?_⟩
        have n0_ := Aside0.mk (Kd.R_below (zR HO493) hb)
        have n1_ := Aside0.mk (Kd.N_below (zN HO497) hb)
        have n2_ := Aside0.mk (Kd.R_below (zR HO502) hb)
        have n3_ := Aside0.mk (blk_below (g := gb494) (o := .cells #[.int .i64 t490, .slice Ao17 t491.length co17] 24 (0, 0)) (zk BK494) hb)
        have n4_ := Aside0.mk (blk_below (g := gb504) (o := .cells #[.int .i64 t499, .slice Ao27 t500.length co27] 24 (0, 0)) (zk BK504) hb)
        have n5_ := Aside0.mk (below_step zB hb)
        clear HO493
        clear HO497
        clear HO502
        clear BK494
        clear BK504
        clear HB
        have HO493 := n0_
        have HO497 := n1_
        have HO502 := n2_
        have BK494 := n3_
        have BK504 := n4_
        have HB := n5_
        clear n0_ n1_ n2_ n3_ n4_ n5_
        (try clear hb)
        (try clear hb2)
        (try clear hk)
        (try clear hi)
        refine hK.out _ _ ⟨(blk_cell BK504.out 0).trans rfl, (blk_cell BK504.out 1).trans rfl⟩ (fun hHeld => ?_)
        clear hK K
        refine norm_ (a' := ?_) ?_ ?_
        rotate_left
        ·show Act.put _ (some 39) _ = _
         simp only [Act.put, List.setIfInBounds_toArray, List.set_cons_zero, List.set_cons_succ, i64_w, i32_w]
         rfl
        refine pure_ (i := 5) (N := some 40) (v := ?_) (a' := ?_) #[true, true, true, true, true, true, false, false, false, false, false, false, false, false, false] rfl rfl (any_of HT_.out zK) (fun _ _ _ h => h) (Or.inl ⟨by rfl, ?_⟩) ?_ ?_
        rotate_left
        ·intro w'
         go_simp
         with_reducible rfl
        rotate_left
        ·simp only [Act.put, List.setIfInBounds_toArray, List.set_cons_zero, List.set_cons_succ, i64_w, i32_w]
         rfl
        refine pure_ (i := 6) (N := some 41) (v := ?_) (a' := ?_) #[true, true, true, true, true, true, true, false, false, false, false, false, false, false, false] rfl rfl (any_of HT_.out zK) (fun _ _ _ h => h) (Or.inl ⟨by rfl, ?_⟩) ?_ ?_
        rotate_left
        ·intro w'
         go_simp
         with_reducible rfl
        rotate_left
        ·simp only [Act.put, List.setIfInBounds_toArray, List.set_cons_zero, List.set_cons_succ, i64_w, i32_w]
         rfl
        refine pure_ (i := 7) (N := some 42) (v := ?_) (a' := ?_) #[true, true, true, true, true, true, true, true, false, false, false, false, false, false, false] rfl rfl (any_of HT_.out zK) (fun _ _ _ h => h) (Or.inl ⟨by rfl, ?_⟩) ?_ ?_
        rotate_left
        ·intro w'
         go_simp
         with_reducible rfl
        rotate_left
        ·simp only [Act.put, List.setIfInBounds_toArray, List.set_cons_zero, List.set_cons_succ, i64_w, i32_w]
         rfl
        refine pure_ (i := 8) (N := some 43) (v := undef) (a' := ?_) #[true, true, true, true, true, true, true, true, true, false, false, false, false, false, false] rfl rfl (any_of HT_.out zK) (fun _ _ _ h => h) (Or.inr ⟨by rfl, rfl⟩) ?_ ?_
        rotate_left
        ·simp only [Act.put, List.setIfInBounds_toArray, List.set_cons_zero, List.set_cons_succ, i64_w, i32_w]
         rfl
        refine pure_ (i := 9) (N := some 44) (v := undef) (a' := ?_) #[true, true, true, true, true, true, true, true, true, true, false, false, false, false, false] rfl rfl (any_of HT_.out zK) (fun _ _ _ h => h) (Or.inr ⟨by rfl, rfl⟩) ?_ ?_
        rotate_left
        ·simp only [Act.put, List.setIfInBounds_toArray, List.set_cons_zero, List.set_cons_succ, i64_w, i32_w]
         rfl
        refine pure_ (i := 10) (N := some 45) (v := undef) (a' := ?_) #[true, true, true, true, true, true, true, true, true, true, true, false, false, false, false] rfl rfl (any_of HT_.out zK) (fun _ _ _ h => h) (Or.inr ⟨by rfl, rfl⟩) ?_ ?_
        rotate_left
        ·simp only [Act.put, List.setIfInBounds_toArray, List.set_cons_zero, List.set_cons_succ, i64_w, i32_w]
         rfl
        refine pure_ (i := 11) (N := some 46) (v := undef) (a' := ?_) #[true, true, true, true, true, true, true, true, true, true, true, true, false, false, false] rfl rfl (any_of HT_.out zK) (fun _ _ _ h => h) (Or.inr ⟨by rfl, rfl⟩) ?_ ?_
        rotate_left
        ·simp only [Act.put, List.setIfInBounds_toArray, List.set_cons_zero, List.set_cons_succ, i64_w, i32_w]
         rfl
        refine pure_ (i := 12) (N := some 47) (v := undef) (a' := ?_) #[true, true, true, true, true, true, true, true, true, true, true, true, true, false, false] rfl rfl (any_of HT_.out zK) (fun _ _ _ h => h) (Or.inr ⟨by rfl, rfl⟩) ?_ ?_
        rotate_left
        ·simp only [Act.put, List.setIfInBounds_toArray, List.set_cons_zero, List.set_cons_succ, i64_w, i32_w]
         rfl
        refine pure_ (i := 13) (N := some 48) (v := undef) (a' := ?_) #[true, true, true, true, true, true, true, true, true, true, true, true, true, true, false] rfl rfl (any_of HT_.out zK) (fun _ _ _ h => h) (Or.inr ⟨by rfl, rfl⟩) ?_ ?_
        rotate_left
        ·simp only [Act.put, List.setIfInBounds_toArray, List.set_cons_zero, List.set_cons_succ, i64_w, i32_w]
         rfl
        refine pure_ (i := 14) (N := some 49) (v := ?_) (a' := ?_) #[true, true, true, true, true, true, true, true, true, true, true, true, true, true, true] rfl rfl (any_of HT_.out zK) (fun _ _ _ h => h) (Or.inl ⟨by rfl, ?_⟩) ?_ ?_
        rotate_left
        ·intro w'
         go_simp
         with_reducible rfl
        rotate_left
        ·simp only [Act.put, List.setIfInBounds_toArray, List.set_cons_zero, List.set_cons_succ, i64_w, i32_w]
         rfl
        refine done_ (done_of HT_.out zK) ?_
        try go_wp2
        go_meet
        case rel => exact ⟨_, (true), zT, H', ⟨by have := HJ2.out; first | omega | exact Nat.le_refl _⟩, ⟨by (with_reducible repeat (first | apply Kd.R_alloc | apply Kd.R_drewN | apply Kd.R_drew)); exact HO493.out⟩, ⟨by (with_reducible repeat (first | apply Kd.R_alloc | apply Kd.R_drewN | apply Kd.R_drew)); exact HO502.out⟩, ⟨by (with_reducible repeat (first | refine blk_drewN ?_ _ | refine blk_drew ?_ | refine blk_alloc ?_ _)); exact BK494.out⟩, ⟨by (with_reducible repeat (first | refine blk_drewN ?_ _ | refine blk_drew ?_ | refine blk_alloc ?_ _)); exact BK504.out⟩, ⟨by repeat (first | (with_reducible first | exact HB.out | apply below_alloc | apply pw_below_drewN | apply below_drew1 | refine below_set ?_ GE494.out | refine below_set ?_ GE504.out) | exact HB.out)⟩⟩
      ·rw [if_neg c28] at H
       have c28b0 : (t503 == 0) = false := beq_eq_false_iff_ne.mpr c28
       have c28b1 : (t503 != 0) = true := bne_iff_ne.mpr c28
       (first | rw [c28b0] | (simp only [i64_w, i32_w]; rw [c28b0]) | skip)
       (try rw [c28b1])
       have H' := Aside0.mk H
       clear H
       try go_wp2
       have n0_ : Aside0 (Kd.R k69 69 ((w24.setCell ⟨gb504, 0, none⟩ (.int .i64 t499)).setCell ⟨gb504, 1, none⟩ (.slice Ao27 t500.length co27)) w.heap.size (fun k_ => some k_ ≠ (.slice Ao27 t500.length co27 : Value).ownBlock) (.slice Ao17 t491.length co17) t491) := ⟨by (with_reducible repeat (first | apply Kd.R_alloc | apply Kd.R_drewN | apply Kd.R_drew)); exact Kd.R_mono (Kd.R_far (p := ⟨gb504, 1, none⟩) (Kd.R_far (p := ⟨gb504, 0, none⟩) (Kd.R_types HO493.out BK504.out (by decide)) (fun _ hk => hk.2) (.int .i64 t499)) (fun _ hk => hk.2) (.slice Ao27 t500.length co27)) (fun _ hk => hk.1.2)⟩
       have n1_ : Aside0 (Kd.N (Kd.slice 3 (Kd.int .i64)) 25 ((w24.setCell ⟨gb504, 0, none⟩ (.int .i64 t499)).setCell ⟨gb504, 1, none⟩ (.slice Ao27 t500.length co27)) w.heap.size (fun k_ => some k_ ≠ (.slice Ao17 t491.length co17 : Value).ownBlock ∧ some k_ ≠ (.slice Ao27 t500.length co27 : Value).ownBlock ∧ k_ ≠ gb494 ∧ k_ ≠ gb504) v496 t495) := ⟨by (with_reducible repeat (first | apply Kd.N_alloc | apply Kd.N_drewN | apply Kd.N_drew)); exact Kd.N_mono (Kd.N_far (p := ⟨gb504, 1, none⟩) (Kd.N_far (p := ⟨gb504, 0, none⟩) (Kd.N_mono HO497.out (fun k_ hk => (⟨hk, hk.2⟩ : _ ∧ k_ ≠ gb504))) (fun _ hk => hk.2) (.int .i64 t499)) (fun _ hk => hk.2) (.slice Ao27 t500.length co27)) (fun _ hk => ⟨hk.1.1.1.1, ⟨hk.1.1.2, ⟨hk.1.1.1.2, hk.1.2⟩⟩⟩)⟩
       have n2_ : Aside0 (Kd.R k69 69 ((w24.setCell ⟨gb504, 0, none⟩ (.int .i64 t499)).setCell ⟨gb504, 1, none⟩ (.slice Ao27 t500.length co27)) w.heap.size (fun k_ => some k_ ≠ (.slice Ao17 t491.length co17 : Value).ownBlock) (.slice Ao27 t500.length co27) t500) := ⟨by (with_reducible repeat (first | apply Kd.R_alloc | apply Kd.R_drewN | apply Kd.R_drew)); exact Kd.R_mono (Kd.R_far (p := ⟨gb504, 1, none⟩) (Kd.R_far (p := ⟨gb504, 0, none⟩) (Kd.R_types HO502.out BK504.out (by decide)) (fun _ hk => hk.2) (.int .i64 t499)) (fun _ hk => hk.2) (.slice Ao27 t500.length co27)) (fun _ hk => hk.1.2)⟩
       have n3_ : Aside0 (((w24.setCell ⟨gb504, 0, none⟩ (.int .i64 t499)).setCell ⟨gb504, 1, none⟩ (.slice Ao27 t500.length co27)).heap[gb494]? = some (.cells #[.int .i64 t490, .slice Ao17 t491.length co17] 24 (0, 0))) := ⟨by (with_reducible repeat (first | refine blk_drewN ?_ _ | refine blk_drew ?_ | refine blk_alloc ?_ _)); refine blk_far ?_ NB494_504.out _; (with_reducible repeat (first | refine blk_drewN ?_ _ | refine blk_drew ?_ | refine blk_alloc ?_ _)); refine blk_far ?_ NB494_504.out _; (with_reducible repeat (first | refine blk_drewN ?_ _ | refine blk_drew ?_ | refine blk_alloc ?_ _)); exact BK494.out⟩
       have n4_ : Aside0 (((w24.setCell ⟨gb504, 0, none⟩ (.int .i64 t499)).setCell ⟨gb504, 1, none⟩ (.slice Ao27 t500.length co27)).heap[gb504]? = some (.cells #[.int .i64 t499, .slice Ao27 t500.length co27] 24 (0, 0))) := ⟨by (with_reducible repeat (first | refine blk_drewN ?_ _ | refine blk_drew ?_ | refine blk_alloc ?_ _)); refine blk_put (cs := #[.int .i64 t499, .slice none 0 0]) ?_ 1 _ rfl; (with_reducible repeat (first | refine blk_drewN ?_ _ | refine blk_drew ?_ | refine blk_alloc ?_ _)); refine blk_put (cs := #[.int .i64 0, .slice none 0 0]) ?_ 0 _ rfl; (with_reducible repeat (first | refine blk_drewN ?_ _ | refine blk_drew ?_ | refine blk_alloc ?_ _)); exact BK504.out⟩
       have n5_ : Aside0 (Below w.heap.size w ((w24.setCell ⟨gb504, 0, none⟩ (.int .i64 t499)).setCell ⟨gb504, 1, none⟩ (.slice Ao27 t500.length co27))) := ⟨by repeat (first | (with_reducible first | exact HB.out | apply below_alloc | apply pw_below_drewN | apply below_drew1 | refine below_set ?_ GE494.out | refine below_set ?_ GE504.out) | exact HB.out)⟩
       (try clear HO493)
       (try clear HO497)
       (try clear HO502)
       (try clear BK494)
       (try clear BK504)
       (try clear HB)
       generalize ((w24.setCell ⟨gb504, 0, none⟩ (.int .i64 t499)).setCell ⟨gb504, 1, none⟩ (.slice Ao27 t500.length co27)) = w44 at n0_ n1_ n2_ n3_ n4_ n5_ ⊢
       have HO493 := n0_
       have HO497 := n1_
       have HO502 := n2_
       have BK494 := n3_
       have BK504 := n4_
       have HB := n5_
       clear n0_ n1_ n2_ n3_ n4_ n5_
       have n0_ := Aside0.mk (Kd.R_drew HO493.out)
       have n1_ := Aside0.mk (Kd.N_drew HO497.out)
       have n2_ := Aside0.mk (Kd.R_drew HO502.out)
       have n3_ := Aside0.mk (blk_drew BK494.out)
       have n4_ := Aside0.mk (blk_drew BK504.out)
       have n5_ := Aside0.mk (below_drew1 HB.out)
       clear HO493
       clear HO497
       clear HO502
       clear BK494
       clear BK504
       clear HB
       have HO493 := n0_
       have HO497 := n1_
       have HO502 := n2_
       have BK494 := n3_
       have BK504 := n4_
       have HB := n5_
       clear n0_ n1_ n2_ n3_ n4_ n5_
       refine start_ (n := 15) (S := fun w' => True) (ds := []) #[false, false, false, false, false, false, false, false, false, false, false, false, false, false, false] zK rfl rfl trivial (fun hHeld => ?_); refine with_tabW ancepslaw09_DagKeeps.tab8 ancepslaw09_DagKeeps.bits8 (fun HT_ HW_ => ?_)
       generalize w44.drew = w45 at HO493 HO497 HO502 BK494 BK504 HB hHeld ⊢
       refine pure_ (i := 0) (N := some 35) (v := ?_) (a' := ?_) #[true, false, false, false, false, false, false, false, false, false, false, false, false, false, false] rfl rfl (any_of HT_.out zK) (fun _ _ _ h => h) (Or.inl ⟨by rfl, ?_⟩) ?_ ?_
       rotate_left
       ·intro w'
        go_simp
        with_reducible rfl
       rotate_left
       ·simp only [Act.put, List.setIfInBounds_toArray, List.set_cons_zero, List.set_cons_succ, i64_w, i32_w]
        rfl
       refine pure_ (i := 1) (N := some 36) (v := ?_) (a' := ?_) #[true, true, false, false, false, false, false, false, false, false, false, false, false, false, false] rfl rfl (any_of HT_.out zK) (fun _ _ _ h => h) (Or.inl ⟨by rfl, ?_⟩) ?_ ?_
       rotate_left
       ·intro w'
        go_simp
        with_reducible rfl
       rotate_left
       ·simp only [Act.put, List.setIfInBounds_toArray, List.set_cons_zero, List.set_cons_succ, i64_w, i32_w]
        rfl
       refine pure_ (i := 2) (N := some 37) (v := ?_) (a' := ?_) #[true, true, true, false, false, false, false, false, false, false, false, false, false, false, false] rfl rfl (any_of HT_.out zK) (fun _ _ _ h => h) (Or.inl ⟨by rfl, ?_⟩) ?_ ?_
       rotate_left
       ·intro w'
        go_simp
        with_reducible rfl
       rotate_left
       ·simp only [Act.put, List.setIfInBounds_toArray, List.set_cons_zero, List.set_cons_succ, i64_w, i32_w]
        rfl
       refine pure_ (i := 3) (N := some 38) (v := undef) (a' := ?_) #[true, true, true, true, false, false, false, false, false, false, false, false, false, false, false] rfl rfl (any_of HT_.out zK) (fun _ _ _ h => h) (Or.inr ⟨by rfl, rfl⟩) ?_ ?_
       rotate_left
       ·simp only [Act.put, List.setIfInBounds_toArray, List.set_cons_zero, List.set_cons_succ, i64_w, i32_w]
        rfl
       refine pure_ (i := 4) (N := some 39) (v := undef) (a' := ?_) #[true, true, true, true, true, false, false, false, false, false, false, false, false, false, false] rfl rfl (any_of HT_.out zK) (fun _ _ _ h => h) (Or.inr ⟨by rfl, rfl⟩) ?_ ?_
       rotate_left
       ·simp only [Act.put, List.setIfInBounds_toArray, List.set_cons_zero, List.set_cons_succ, i64_w, i32_w]
        rfl
       refine pure_ (i := 5) (N := some 40) (v := undef) (a' := ?_) #[true, true, true, true, true, true, false, false, false, false, false, false, false, false, false] rfl rfl (any_of HT_.out zK) (fun _ _ _ h => h) (Or.inr ⟨by rfl, rfl⟩) ?_ ?_
       rotate_left
       ·simp only [Act.put, List.setIfInBounds_toArray, List.set_cons_zero, List.set_cons_succ, i64_w, i32_w]
        rfl
       refine pure_ (i := 6) (N := some 41) (v := ?_) (a' := ?_) #[true, true, true, true, true, true, true, false, false, false, false, false, false, false, false] rfl rfl (any_of HT_.out zK) (fun _ _ _ h => h) (Or.inl ⟨by rfl, ?_⟩) ?_ ?_
       rotate_left
       ·intro w'
        go_simp
        with_reducible rfl
       rotate_left
       ·simp only [Act.put, List.setIfInBounds_toArray, List.set_cons_zero, List.set_cons_succ, i64_w, i32_w]
        rfl
       refine pure_ (i := 7) (N := some 42) (v := ?_) (a' := ?_) #[true, true, true, true, true, true, true, true, false, false, false, false, false, false, false] rfl rfl (any_of HT_.out zK) (fun _ _ _ h => h) (Or.inl ⟨by rfl, ?_⟩) ?_ ?_
       rotate_left
       ·intro w'
        go_simp
        with_reducible rfl
       rotate_left
       ·simp only [Act.put, List.setIfInBounds_toArray, List.set_cons_zero, List.set_cons_succ, i64_w, i32_w]
        rfl
       refine pure_ (i := 8) (N := some 43) (v := undef) (a' := ?_) #[true, true, true, true, true, true, true, true, true, false, false, false, false, false, false] rfl rfl (any_of HT_.out zK) (fun _ _ _ h => h) (Or.inr ⟨by rfl, rfl⟩) ?_ ?_
       rotate_left
       ·simp only [Act.put, List.setIfInBounds_toArray, List.set_cons_zero, List.set_cons_succ, i64_w, i32_w]
        rfl
       refine pure_ (i := 9) (N := some 44) (v := undef) (a' := ?_) #[true, true, true, true, true, true, true, true, true, true, false, false, false, false, false] rfl rfl (any_of HT_.out zK) (fun _ _ _ h => h) (Or.inr ⟨by rfl, rfl⟩) ?_ ?_
       rotate_left
       ·simp only [Act.put, List.setIfInBounds_toArray, List.set_cons_zero, List.set_cons_succ, i64_w, i32_w]
        rfl
       refine pure_ (i := 10) (N := some 45) (v := undef) (a' := ?_) #[true, true, true, true, true, true, true, true, true, true, true, false, false, false, false] rfl rfl (any_of HT_.out zK) (fun _ _ _ h => h) (Or.inr ⟨by rfl, rfl⟩) ?_ ?_
       rotate_left
       ·simp only [Act.put, List.setIfInBounds_toArray, List.set_cons_zero, List.set_cons_succ, i64_w, i32_w]
        rfl
       refine pure_ (i := 11) (N := some 46) (v := undef) (a' := ?_) #[true, true, true, true, true, true, true, true, true, true, true, true, false, false, false] rfl rfl (any_of HT_.out zK) (fun _ _ _ h => h) (Or.inr ⟨by rfl, rfl⟩) ?_ ?_
       rotate_left
       ·simp only [Act.put, List.setIfInBounds_toArray, List.set_cons_zero, List.set_cons_succ, i64_w, i32_w]
        rfl
       refine pure_ (i := 12) (N := some 47) (v := undef) (a' := ?_) #[true, true, true, true, true, true, true, true, true, true, true, true, true, false, false] rfl rfl (any_of HT_.out zK) (fun _ _ _ h => h) (Or.inr ⟨by rfl, rfl⟩) ?_ ?_
       rotate_left
       ·simp only [Act.put, List.setIfInBounds_toArray, List.set_cons_zero, List.set_cons_succ, i64_w, i32_w]
        rfl
       refine pure_ (i := 13) (N := some 48) (v := undef) (a' := ?_) #[true, true, true, true, true, true, true, true, true, true, true, true, true, true, false] rfl rfl (any_of HT_.out zK) (fun _ _ _ h => h) (Or.inr ⟨by rfl, rfl⟩) ?_ ?_
       rotate_left
       ·simp only [Act.put, List.setIfInBounds_toArray, List.set_cons_zero, List.set_cons_succ, i64_w, i32_w]
        rfl
       refine pure_ (i := 14) (N := some 49) (v := ?_) (a' := ?_) #[true, true, true, true, true, true, true, true, true, true, true, true, true, true, true] rfl rfl (any_of HT_.out zK) (fun _ _ _ h => h) (Or.inl ⟨by rfl, ?_⟩) ?_ ?_
       rotate_left
       ·intro w'
        go_simp
        with_reducible rfl
       rotate_left
       ·simp only [Act.put, List.setIfInBounds_toArray, List.set_cons_zero, List.set_cons_succ, i64_w, i32_w]
        rfl
       refine done_ (done_of HT_.out zK) ?_
       try go_wp2
       go_meet
       case rel => exact ⟨_, (true), zT, H', ⟨by have := HJ2.out; first | omega | exact Nat.le_refl _⟩, ⟨by (with_reducible repeat (first | apply Kd.R_alloc | apply Kd.R_drewN | apply Kd.R_drew)); exact HO493.out⟩, ⟨by (with_reducible repeat (first | apply Kd.R_alloc | apply Kd.R_drewN | apply Kd.R_drew)); exact HO502.out⟩, ⟨by (with_reducible repeat (first | refine blk_drewN ?_ _ | refine blk_drew ?_ | refine blk_alloc ?_ _)); exact BK494.out⟩, ⟨by (with_reducible repeat (first | refine blk_drewN ?_ _ | refine blk_drew ?_ | refine blk_alloc ?_ _)); exact BK504.out⟩, ⟨by repeat (first | (with_reducible first | exact HB.out | apply below_alloc | apply pw_below_drewN | apply below_drew1 | refine below_set ?_ GE494.out | refine below_set ?_ GE504.out) | exact HB.out)⟩⟩
     case rest =>
      clear HC21
      try clear c1
      try clear c8
      try clear c19
      try clear c19b0
      try clear c19b1
      try clear hcz16_0
      try clear hcz16_1
      try clear hcz22_0
      try clear hcz22_1
      try clear hcz26_0
      try clear hcz26_1
      try clear hfz16_0
      try clear hfz16_1
      try clear hfz22_0
      try clear hfz22_1
      try clear hfz26_0
      try clear hfz26_1
      obtain ⟨kq, x49_20, rfl, HA, HJ20, HO_495001, HO_505001, BK494, BK504, HB⟩ := hcut
      cases kq with
      | zero => exact absurd HA.out (by simp [ancepslaw09_DagKeeps.j1])
      | succ kj20 =>
       have H := HA.out
       clear HA
       simp only [ancepslaw09_DagKeeps.j1] at H
       by_cases c46 : x49_20 = true
       ·subst c46
        have H1 : (some false) = some r := by rw [if_pos rfl] at H; exact H
        clear H
        have H := H1
        clear H1
        obtain rfl := Option.some.inj H
        go_wp2
        go_ret
        exact ⟨by first | rfl | (simp [errW_none, errW_some] <;> rfl) | (simp [*, errW_none, errW_some] <;> rfl), by repeat (first | (with_reducible first | exact HB.out | apply below_alloc | apply pw_below_drewN | apply below_drew1 | refine below_set ?_ GE494.out | refine below_set ?_ GE504.out) | exact HB.out)⟩
       ·replace c46 := Bool.eq_false_iff.mpr c46
        subst c46
        have H1 : ((dag_Trim.f kj20 t490 t491).bind fun bt513 => (if bt513.2.2.2 = 0 then ((ancepsref09_Valid.f kj20 bt513.1 bt513.2.1).bind fun t525 => (if t525 = 0 then ((ancepslaw09_costs.f kj20 bt513.1 bt513.2.1).bind fun t526 => ((ancepslaw09_costs.f kj20 t490 t491).bind fun t529 => ((slices_Equal_int_int.f kj20 t526 t529).bind fun t532 => (some t532)))) else (some false))) else (if bt513.2.2.2 = 10 then ((ancepslaw09_costs.f kj20 t490 t491).bind fun t522 => (some ((t522.length : Int) == 0))) else (some false)))) = some r := by rw [if_neg (show ¬ (false = true) by decide)] at H; exact H
        clear H
        have H := H1
        clear H1
        replace H := Option.bind_eq_some_iff.mp H
        obtain ⟨⟨t513, t514, t517, t520⟩, A470, H⟩ := H
        replace H : (if t520 = 0 then ((ancepsref09_Valid.f kj20 t513 t514).bind fun t525 => (if t525 = 0 then ((ancepslaw09_costs.f kj20 t513 t514).bind fun t526 => ((ancepslaw09_costs.f kj20 t490 t491).bind fun t529 => ((slices_Equal_int_int.f kj20 t526 t529).bind fun t532 => (some t532)))) else (some false))) else (if t520 = 10 then ((ancepslaw09_costs.f kj20 t490 t491).bind fun t522 => (some ((t522.length : Int) == 0))) else (some false))) = some r := H
        have A47 := Aside0.mk A470
        clear A470
        have HC48 := Aside0.mk H
        clear H
        have hnb49 := NB494_504.out
        have hnc49 := NB504_494.out
        have hcz50_0 : wc.cell? ⟨gb494, 0, none⟩ = some (.int .i64 t490) := (blk_cell BK494.out 0).trans rfl
        have hcz50_1 : wc.cell? ⟨gb494, 1, none⟩ = some (.slice Ao17 t491.length co17) := (blk_cell BK494.out 1).trans rfl
        have hfz50_0 := blk_frozen BK494.out 0
        have hfz50_1 := blk_frozen BK494.out 1
        go_upto_if 57 with (first | ((with_reducible refine gate_callee (f := 35) rfl ?_); refine goesL_ (some 52) rfl rfl Try.func35 zK rfl #[.agg #[.int .i64 t490, .slice Ao17 t491.length co17]] rfl zM ?_; (with_reducible refine (dag_Trim.calls kj20 t490 _ _ t491 t513 t514 t517 t520 _ ?side1 ?side2 A47.out).mono ?_); (case side1 => repeat (first | exact (Kd.R_reads' HO_495001.out).2.2 | (with_reducible refine Kd.C_alloc ?_ _) | (with_reducible refine Kd.C_drewN ?_ _) | (with_reducible refine Kd.C_drew ?_))); (case side2 => exact (Kd.R_reads' HO_495001.out).2.1); rintro e w51 ⟨v515, v518, rfl, ho0, ho1, hb⟩; refine ⟨_, rfl, ?_⟩; have n0_ := Aside0.mk (Kd.R_elder' (zR HO_495001) (Kd.R_base ho0) hb); have n1_ := Aside0.mk (Kd.R_elder' (zR HO_505001) (Kd.R_base ho0) hb); have n2_ := Aside0.mk (Kd.R_lower (Kd.R_new' (Kd.R_new' ho0 (Kd.R_lt (zR HO_495001))) (Kd.R_lt (zR HO_505001))) (below_size zB)); have n3_ := Aside0.mk (Kd.R_lower ho1 (below_size zB)); have n4_ := Aside0.mk (blk_below (g := gb494) (o := .cells #[.int .i64 t490, .slice Ao17 t491.length co17] 24 (0, 0)) (zk BK494) hb); have n5_ := Aside0.mk (blk_below (g := gb504) (o := .cells #[.int .i64 t499, .slice Ao27 t500.length co27] 24 (0, 0)) (zk BK504) hb); have n6_ := Aside0.mk (below_step zB hb); clear HO_495001; clear HO_505001; clear BK494; clear BK504; clear HB; have HO_495001 := n0_; have HO_505001 := n1_; have HO516 := n2_; have HO519 := n3_; have BK494 := n4_; have BK504 := n5_; have HB := n6_; clear n0_ n1_ n2_ n3_ n4_ n5_ n6_; (try clear hb); (try clear hb2); (try clear hk); (try clear hi); (try clear ho0); (try clear ho1)) | ((with_reducible refine gate_dst (N := 10) rfl ?_); (try (refine gate_guard (by rfl) ?_; dsimp only)); refine box_event ?hg (N := 10) ?hd (cs := #[.int .i64 0, .slice none 0 0]) (t := 24) ?hr ?_; (case hd => rfl); (case hg => rfl); (case hr => first | (go_simp; done) | (go_simp; rfl)); intro gb521 hg w52 hbox hb; have n0_ := Aside0.mk (Kd.R_below (zR HO_495001) hb); have n1_ := Aside0.mk (Kd.R_below (zR HO_505001) hb); have n2_ := Aside0.mk (Kd.R_below (zR HO516) hb); have n3_ := Aside0.mk (Kd.R_below (zR HO519) hb); have n4_ := Aside0.mk (blk_below (g := gb494) (o := .cells #[.int .i64 t490, .slice Ao17 t491.length co17] 24 (0, 0)) (zk BK494) hb); have n5_ := Aside0.mk (blk_below (g := gb504) (o := .cells #[.int .i64 t499, .slice Ao27 t500.length co27] 24 (0, 0)) (zk BK504) hb); have n6_ := Aside0.mk (below_step zB hb); have n7_ := Aside0.mk (hbox); have n8_ := Aside0.mk ((by rw [hg]; exact (below_size zB) : w.heap.size ≤ gb521)); have n9_ := Aside0.mk ((by rw [hg]; exact (below_size zB) : w.heap.size ≤ gb521)); have n10_ := Aside0.mk ((by rw [hg]; exact Nat.ne_of_lt (blk_lt (g := gb494) (o := .cells #[.int .i64 t490, .slice Ao17 t491.length co17] 24 (0, 0)) (zk BK494)) : gb494 ≠ gb521)); have n11_ := Aside0.mk ((by rw [hg]; exact Nat.ne_of_gt (blk_lt (g := gb494) (o := .cells #[.int .i64 t490, .slice Ao17 t491.length co17] 24 (0, 0)) (zk BK494)) : gb521 ≠ gb494)); have n12_ := Aside0.mk ((by rw [hg]; exact Nat.ne_of_lt (blk_lt (g := gb504) (o := .cells #[.int .i64 t499, .slice Ao27 t500.length co27] 24 (0, 0)) (zk BK504)) : gb504 ≠ gb521)); have n13_ := Aside0.mk ((by rw [hg]; exact Nat.ne_of_gt (blk_lt (g := gb504) (o := .cells #[.int .i64 t499, .slice Ao27 t500.length co27] 24 (0, 0)) (zk BK504)) : gb521 ≠ gb504)); clear HO_495001; clear HO_505001; clear HO516; clear HO519; clear BK494; clear BK504; clear HB; have HO_495001 := n0_; have HO_505001 := n1_; have HO516 := n2_; have HO519 := n3_; have BK494 := n4_; have BK504 := n5_; have HB := n6_; have BK521 := n7_; have GW521 := n8_; have GE521 := n9_; have NB494_521 := n10_; have NB521_494 := n11_; have NB504_521 := n12_; have NB521_504 := n13_; clear n0_ n1_ n2_ n3_ n4_ n5_ n6_ n7_ n8_ n9_ n10_ n11_ n12_ n13_; clear hb hbox hg; have hnb53 := NB521_494.out; have hnc53 := NB494_521.out; have hnb54 := NB521_504.out; have hnc54 := NB504_521.out; have hcz55_0 : w52.cell? ⟨gb521, 0, none⟩ = some (.int .i64 0) := (blk_cell BK521.out 0).trans rfl; have hcz55_1 : w52.cell? ⟨gb521, 1, none⟩ = some (.slice none 0 0) := (blk_cell BK521.out 1).trans rfl; have hfz55_0 := blk_frozen BK521.out 0; have hfz55_1 := blk_frozen BK521.out 1; obtain ⟨Ao56, co56, eo56⟩ := Kd.R_slice HO516.out; subst eo56))
        (try simp only [Act.put, List.setIfInBounds_toArray, List.set_cons_zero, List.set_cons_succ])
        have H := HC48.out
        clear HC48
        by_cases c57 : t520 = 0
        ·rw [if_pos c57] at H
         have c57b0 : (t520 == 0) = true := beq_iff_eq.mpr c57
         have c57b1 : (t520 != 0) = false := bne_eq_false_iff_eq.mpr c57
         clear c57
         (first | rw [c57b0] | (simp only [i64_w, i32_w]; rw [c57b0]) | skip)
         (try rw [c57b1])
         replace H := Option.bind_eq_some_iff.mp H
         obtain ⟨t525, A580, H⟩ := H
         replace H : (if t525 = 0 then ((ancepslaw09_costs.f kj20 t513 t514).bind fun t526 => ((ancepslaw09_costs.f kj20 t490 t491).bind fun t529 => ((slices_Equal_int_int.f kj20 t526 t529).bind fun t532 => (some t532)))) else (some false)) = some r := H
         have A58 := Aside0.mk A580
         clear A580
         by_cases c59 : t525 = 0
         ·rw [if_pos c59] at H
          have c59b0 : (t525 == 0) = true := beq_iff_eq.mpr c59
          have c59b1 : (t525 != 0) = false := bne_eq_false_iff_eq.mpr c59
          clear c59
          replace H := Option.bind_eq_some_iff.mp H
          obtain ⟨t526, A600, H⟩ := H
          replace H : ((ancepslaw09_costs.f kj20 t490 t491).bind fun t529 => ((slices_Equal_int_int.f kj20 t526 t529).bind fun t532 => (some t532))) = some r := H
          have A60 := Aside0.mk A600
          clear A600
          replace H := Option.bind_eq_some_iff.mp H
          obtain ⟨t529, A610, H⟩ := H
          replace H : ((slices_Equal_int_int.f kj20 t526 t529).bind fun t532 => (some t532)) = some r := H
          have A61 := Aside0.mk A610
          clear A610
          replace H := Option.bind_eq_some_iff.mp H
          obtain ⟨t532, A620, H⟩ := H
          replace H : (some t532) = some r := H
          have A62 := Aside0.mk A620
          clear A620
          obtain rfl := Option.some.inj H
          try go_wp2
          have n0_ : Aside0 (Kd.R k69 69 ((w52.setCell ⟨gb521, 0, none⟩ (.int .i64 t513)).setCell ⟨gb521, 1, none⟩ (.slice Ao56 t514.length co56)) w.heap.size (fun k_ => some k_ ≠ (.slice Ao27 t500.length co27 : Value).ownBlock ∧ some k_ ≠ (.slice Ao56 t514.length co56 : Value).ownBlock) (.slice Ao17 t491.length co17) t491) := ⟨by (with_reducible repeat (first | apply Kd.R_alloc | apply Kd.R_drewN | apply Kd.R_drew)); exact Kd.R_mono (Kd.R_far (p := ⟨gb521, 1, none⟩) (Kd.R_far (p := ⟨gb521, 0, none⟩) (Kd.R_types HO_495001.out BK521.out (by decide)) (fun _ hk => hk.2) (.int .i64 t513)) (fun _ hk => hk.2) (.slice Ao56 t514.length co56)) (fun _ hk => ⟨hk.1.1, hk.1.2⟩)⟩
          have n1_ : Aside0 (Kd.R k69 69 ((w52.setCell ⟨gb521, 0, none⟩ (.int .i64 t513)).setCell ⟨gb521, 1, none⟩ (.slice Ao56 t514.length co56)) w.heap.size (fun k_ => some k_ ≠ (.slice Ao17 t491.length co17 : Value).ownBlock ∧ some k_ ≠ (.slice Ao56 t514.length co56 : Value).ownBlock) (.slice Ao27 t500.length co27) t500) := ⟨by (with_reducible repeat (first | apply Kd.R_alloc | apply Kd.R_drewN | apply Kd.R_drew)); exact Kd.R_mono (Kd.R_far (p := ⟨gb521, 1, none⟩) (Kd.R_far (p := ⟨gb521, 0, none⟩) (Kd.R_types HO_505001.out BK521.out (by decide)) (fun _ hk => hk.2) (.int .i64 t513)) (fun _ hk => hk.2) (.slice Ao56 t514.length co56)) (fun _ hk => ⟨hk.1.1, hk.1.2⟩)⟩
          have n2_ : Aside0 (Kd.R k69 69 ((w52.setCell ⟨gb521, 0, none⟩ (.int .i64 t513)).setCell ⟨gb521, 1, none⟩ (.slice Ao56 t514.length co56)) w.heap.size (fun k_ => some k_ ≠ (.slice Ao17 t491.length co17 : Value).ownBlock ∧ some k_ ≠ (.slice Ao27 t500.length co27 : Value).ownBlock) (.slice Ao56 t514.length co56) t514) := ⟨by (with_reducible repeat (first | apply Kd.R_alloc | apply Kd.R_drewN | apply Kd.R_drew)); exact Kd.R_mono (Kd.R_far (p := ⟨gb521, 1, none⟩) (Kd.R_far (p := ⟨gb521, 0, none⟩) (Kd.R_types HO516.out BK521.out (by decide)) (fun _ hk => hk.2) (.int .i64 t513)) (fun _ hk => hk.2) (.slice Ao56 t514.length co56)) (fun _ hk => ⟨hk.1.1.2, hk.1.2⟩)⟩
          have n3_ : Aside0 (Kd.R (Kd.int .i64) 3 ((w52.setCell ⟨gb521, 0, none⟩ (.int .i64 t513)).setCell ⟨gb521, 1, none⟩ (.slice Ao56 t514.length co56)) w.heap.size (fun _ => True) v518 t517) := ⟨by (with_reducible repeat (first | apply Kd.R_alloc | apply Kd.R_drewN | apply Kd.R_drew)); exact Kd.R_mono (Kd.R_far (p := ⟨gb521, 1, none⟩) (Kd.R_far (p := ⟨gb521, 0, none⟩) (Kd.R_types HO519.out BK521.out (by decide)) (fun _ hk => hk.2) (.int .i64 t513)) (fun _ hk => hk.2) (.slice Ao56 t514.length co56)) (fun _ hk => trivial)⟩
          have n4_ : Aside0 (((w52.setCell ⟨gb521, 0, none⟩ (.int .i64 t513)).setCell ⟨gb521, 1, none⟩ (.slice Ao56 t514.length co56)).heap[gb494]? = some (.cells #[.int .i64 t490, .slice Ao17 t491.length co17] 24 (0, 0))) := ⟨by (with_reducible repeat (first | refine blk_drewN ?_ _ | refine blk_drew ?_ | refine blk_alloc ?_ _)); refine blk_far ?_ NB494_521.out _; (with_reducible repeat (first | refine blk_drewN ?_ _ | refine blk_drew ?_ | refine blk_alloc ?_ _)); refine blk_far ?_ NB494_521.out _; (with_reducible repeat (first | refine blk_drewN ?_ _ | refine blk_drew ?_ | refine blk_alloc ?_ _)); exact BK494.out⟩
          have n5_ : Aside0 (((w52.setCell ⟨gb521, 0, none⟩ (.int .i64 t513)).setCell ⟨gb521, 1, none⟩ (.slice Ao56 t514.length co56)).heap[gb504]? = some (.cells #[.int .i64 t499, .slice Ao27 t500.length co27] 24 (0, 0))) := ⟨by (with_reducible repeat (first | refine blk_drewN ?_ _ | refine blk_drew ?_ | refine blk_alloc ?_ _)); refine blk_far ?_ NB504_521.out _; (with_reducible repeat (first | refine blk_drewN ?_ _ | refine blk_drew ?_ | refine blk_alloc ?_ _)); refine blk_far ?_ NB504_521.out _; (with_reducible repeat (first | refine blk_drewN ?_ _ | refine blk_drew ?_ | refine blk_alloc ?_ _)); exact BK504.out⟩
          have n6_ : Aside0 (((w52.setCell ⟨gb521, 0, none⟩ (.int .i64 t513)).setCell ⟨gb521, 1, none⟩ (.slice Ao56 t514.length co56)).heap[gb521]? = some (.cells #[.int .i64 t513, .slice Ao56 t514.length co56] 24 (0, 0))) := ⟨by (with_reducible repeat (first | refine blk_drewN ?_ _ | refine blk_drew ?_ | refine blk_alloc ?_ _)); refine blk_put (cs := #[.int .i64 t513, .slice none 0 0]) ?_ 1 _ rfl; (with_reducible repeat (first | refine blk_drewN ?_ _ | refine blk_drew ?_ | refine blk_alloc ?_ _)); refine blk_put (cs := #[.int .i64 0, .slice none 0 0]) ?_ 0 _ rfl; (with_reducible repeat (first | refine blk_drewN ?_ _ | refine blk_drew ?_ | refine blk_alloc ?_ _)); exact BK521.out⟩
          have n7_ : Aside0 (Below w.heap.size w ((w52.setCell ⟨gb521, 0, none⟩ (.int .i64 t513)).setCell ⟨gb521, 1, none⟩ (.slice Ao56 t514.length co56))) := ⟨by repeat (first | (with_reducible first | exact HB.out | apply below_alloc | apply pw_below_drewN | apply below_drew1 | refine below_set ?_ GE494.out | refine below_set ?_ GE504.out | refine below_set ?_ GE521.out) | exact HB.out)⟩
          (try clear HO_495001)
          (try clear HO_505001)
          (try clear HO516)
          (try clear HO519)
          (try clear BK494)
          (try clear BK504)
          (try clear BK521)
          (try clear HB)
          generalize ((w52.setCell ⟨gb521, 0, none⟩ (.int .i64 t513)).setCell ⟨gb521, 1, none⟩ (.slice Ao56 t514.length co56)) = w63 at n0_ n1_ n2_ n3_ n4_ n5_ n6_ n7_ ⊢
          have HO_495001 := n0_
          have HO_505001 := n1_
          have HO516 := n2_
          have HO519 := n3_
          have BK494 := n4_
          have BK504 := n5_
          have BK521 := n6_
          have HB := n7_
          clear n0_ n1_ n2_ n3_ n4_ n5_ n6_ n7_
          have n0_ := Aside0.mk (Kd.R_drew HO_495001.out)
          have n1_ := Aside0.mk (Kd.R_drew HO_505001.out)
          have n2_ := Aside0.mk (Kd.R_drew HO516.out)
          have n3_ := Aside0.mk (Kd.R_drew HO519.out)
          have n4_ := Aside0.mk (blk_drew BK494.out)
          have n5_ := Aside0.mk (blk_drew BK504.out)
          have n6_ := Aside0.mk (blk_drew BK521.out)
          have n7_ := Aside0.mk (below_drew1 HB.out)
          clear HO_495001
          clear HO_505001
          clear HO516
          clear HO519
          clear BK494
          clear BK504
          clear BK521
          clear HB
          have HO_495001 := n0_
          have HO_505001 := n1_
          have HO516 := n2_
          have HO519 := n3_
          have BK494 := n4_
          have BK504 := n5_
          have BK521 := n6_
          have HB := n7_
          clear n0_ n1_ n2_ n3_ n4_ n5_ n6_ n7_
          refine start_ (n := 11) (S := fun w' => w'.cell? ⟨gb521, 0, none⟩ = some (.int .i64 t513) ∧ w'.cell? ⟨gb521, 1, none⟩ = some (.slice Ao56 t514.length co56) ∧ w'.cell? ⟨gb494, 0, none⟩ = some (.int .i64 t490) ∧ w'.cell? ⟨gb494, 1, none⟩ = some (.slice Ao17 t491.length co17)) (ds := []) #[false, false, false, false, false, false, false, false, false, false, false] zK rfl rfl ⟨(blk_cell BK521.out 0).trans rfl, (blk_cell BK521.out 1).trans rfl, (blk_cell BK494.out 0).trans rfl, (blk_cell BK494.out 1).trans rfl⟩ (fun hHeld => ?_); refine with_tabW ancepslaw09_DagKeeps.tab13 ancepslaw09_DagKeeps.bits13 (fun HT_ HW_ => ?_)
          generalize w63.drew = w64 at HO_495001 HO_505001 HO516 HO519 BK494 BK504 BK521 HB hHeld ⊢
          refine take_ (i := 0) (N := some 66) (v := ?_) (a' := ?_) #[true, false, false, false, false, false, false, false, false, false, false] rfl rfl (take_ofW HT_.out HW_.out zK) (fun _ _ _ h => h) (Or.inl ⟨by rfl, ?_⟩) hHeld ?_ ?_
          rotate_left
          ·rintro w' ⟨s0, s1, s2, s3⟩
           go_simp
           with_reducible rfl
          rotate_left
          ·simp only [Act.put, List.setIfInBounds_toArray, List.set_cons_zero, List.set_cons_succ, i64_w, i32_w]
           rfl
          refine one_ (i := 1) (N := some 67) #[true, true, false, false, false, false, false, false, false, false, false] rfl rfl (one_of HT_.out zK) (by decide) (fun K hK => ?_)
          refine goes_ Try.func28 zK rfl #[.agg #[.int .i64 t513, .slice Ao56 t514.length co56]] (by rfl) rfl rfl zM ?_
          with_reducible refine (ancepsref09_Valid.calls kj20 t513 _ _ t514 t525 _ ?side1 ?side2 A58.out).mono ?_
          (case side1 => repeat (first | exact (Kd.R_reads' HO516.out).2.2 | (with_reducible refine Kd.C_alloc ?_ _) | (with_reducible refine Kd.C_drewN ?_ _) | (with_reducible refine Kd.C_drew ?_)))
          (case side2 => exact (Kd.R_reads' HO516.out).2.1)
          rintro e w65 ⟨rfl, hb⟩
          refine ⟨_, rfl, ?_⟩
          have n0_ := Aside0.mk (Kd.R_below (zR HO_495001) hb)
          have n1_ := Aside0.mk (Kd.R_below (zR HO_505001) hb)
          have n2_ := Aside0.mk (Kd.R_below (zR HO516) hb)
          have n3_ := Aside0.mk (Kd.R_below (zR HO519) hb)
          have n4_ := Aside0.mk (blk_below (g := gb494) (o := .cells #[.int .i64 t490, .slice Ao17 t491.length co17] 24 (0, 0)) (zk BK494) hb)
          have n5_ := Aside0.mk (blk_below (g := gb504) (o := .cells #[.int .i64 t499, .slice Ao27 t500.length co27] 24 (0, 0)) (zk BK504) hb)
          have n6_ := Aside0.mk (blk_below (g := gb521) (o := .cells #[.int .i64 t513, .slice Ao56 t514.length co56] 24 (0, 0)) (zk BK521) hb)
          have n7_ := Aside0.mk (below_step zB hb)
          clear HO_495001
          clear HO_505001
          clear HO516
          clear HO519
          clear BK494
          clear BK504
          clear BK521
          clear HB
          have HO_495001 := n0_
          have HO_505001 := n1_
          have HO516 := n2_
          have HO519 := n3_
          have BK494 := n4_
          have BK504 := n5_
          have BK521 := n6_
          have HB := n7_
          clear n0_ n1_ n2_ n3_ n4_ n5_ n6_ n7_
          (try clear hb)
          (try clear hb2)
          (try clear hk)
          (try clear hi)
          refine hK.out _ _ ⟨(blk_cell BK521.out 0).trans rfl, (blk_cell BK521.out 1).trans rfl, (blk_cell BK494.out 0).trans rfl, (blk_cell BK494.out 1).trans rfl⟩ (fun hHeld => ?_)
          clear hK K
          refine norm_ (a' := ?_) ?_ ?_
          rotate_left
          ·show Act.put _ (some 67) _ = _
           simp only [Act.put, List.setIfInBounds_toArray, List.set_cons_zero, List.set_cons_succ, i64_w, i32_w]
           rfl
          refine pure_ (i := 2) (N := some 68) (v := ?_) (a' := ?_) #[true, true, true, false, false, false, false, false, false, false, false] rfl rfl (any_of HT_.out zK) (fun _ _ _ h => h) (Or.inl ⟨by rfl, ?_⟩) ?_ ?_
          rotate_left
          ·intro w'
           go_simp
           with_reducible rfl
          rotate_left
          ·simp only [Act.put, List.setIfInBounds_toArray, List.set_cons_zero, List.set_cons_succ, i64_w, i32_w]
           rfl
          refine pure_ (i := 3) (N := some 69) (v := ?_) (a' := ?_) #[true, true, true, true, false, false, false, false, false, false, false] rfl rfl (any_of HT_.out zK) (fun _ _ _ h => h) (Or.inl ⟨by rfl, ?_⟩) ?_ ?_
          rotate_left
          ·intro w'
           go_simp
           with_reducible rfl
          rotate_left
          ·simp only [Act.put, List.setIfInBounds_toArray, List.set_cons_zero, List.set_cons_succ, i64_w, i32_w]
           rfl
          refine take_ (i := 4) (N := some 70) (v := ?_) (a' := ?_) #[true, true, true, true, true, false, false, false, false, false, false] rfl rfl (take_ofW HT_.out HW_.out zK) (fun _ _ _ h => h) (Or.inl ⟨by rfl, ?_⟩) hHeld ?_ ?_
          rotate_left
          ·rintro w' ⟨s0, s1, s2, s3⟩
           go_simp
           with_reducible rfl
          rotate_left
          ·simp only [Act.put, List.setIfInBounds_toArray, List.set_cons_zero, List.set_cons_succ, i64_w, i32_w]
           rfl
          refine take_ (i := 6) (N := some 72) (v := ?_) (a' := ?_) #[true, true, true, true, true, false, true, false, false, false, false] rfl rfl (take_ofW HT_.out HW_.out zK) (fun _ _ _ h => h) (Or.inl ⟨by rfl, ?_⟩) hHeld ?_ ?_
          rotate_left
          ·rintro w' ⟨s0, s1, s2, s3⟩
           go_simp
           with_reducible rfl
          rotate_left
          ·simp only [Act.put, List.setIfInBounds_toArray, List.set_cons_zero, List.set_cons_succ, i64_w, i32_w]
           rfl
          refine one_ (i := 5) (N := some 71) #[true, true, true, true, true, true, true, false, false, false, false] rfl rfl (one_of HT_.out zK) (by decide) (fun K hK => ?_)
          refine goes_ Try.func38 zK rfl #[.agg #[.int .i64 t513, .slice Ao56 t514.length co56]] (by rfl) rfl rfl zM ?_
          with_reducible refine (ancepslaw09_costs.calls kj20 t513 _ _ t514 t526 _ ?side1 ?side2 A60.out).mono ?_
          (case side1 => repeat (first | exact (Kd.R_reads' HO516.out).2.2 | (with_reducible refine Kd.C_alloc ?_ _) | (with_reducible refine Kd.C_drewN ?_ _) | (with_reducible refine Kd.C_drew ?_)))
          (case side2 => exact (Kd.R_reads' HO516.out).2.1)
          rintro e w66 ⟨v527, rfl, ho0, hb⟩
          refine ⟨_, rfl, ?_⟩
          have n0_ := Aside0.mk (Kd.R_below (zR HO_495001) hb)
          have n1_ := Aside0.mk (Kd.R_below (zR HO_505001) hb)
          have n2_ := Aside0.mk (Kd.R_below (zR HO516) hb)
          have n3_ := Aside0.mk (Kd.R_elder' (zR HO519) (Kd.R_base ho0) hb)
          have n4_ := Aside0.mk (Kd.R_lower (Kd.R_new' ho0 (Kd.R_lt (zR HO519))) (below_size zB))
          have n5_ := Aside0.mk (blk_below (g := gb494) (o := .cells #[.int .i64 t490, .slice Ao17 t491.length co17] 24 (0, 0)) (zk BK494) hb)
          have n6_ := Aside0.mk (blk_below (g := gb504) (o := .cells #[.int .i64 t499, .slice Ao27 t500.length co27] 24 (0, 0)) (zk BK504) hb)
          have n7_ := Aside0.mk (blk_below (g := gb521) (o := .cells #[.int .i64 t513, .slice Ao56 t514.length co56] 24 (0, 0)) (zk BK521) hb)
          have n8_ := Aside0.mk (below_step zB hb)
          clear HO_495001
          clear HO_505001
          clear HO516
          clear HO519
          clear BK494
          clear BK504
          clear BK521
          clear HB
          have HO_495001 := n0_
          have HO_505001 := n1_
          have HO516 := n2_
          have HO519 := n3_
          have HO528 := n4_
          have BK494 := n5_
          have BK504 := n6_
          have BK521 := n7_
          have HB := n8_
          clear n0_ n1_ n2_ n3_ n4_ n5_ n6_ n7_ n8_
          (try clear hb)
          (try clear hb2)
          (try clear hk)
          (try clear hi)
          (try clear ho0)
          refine hK.out _ _ ⟨(blk_cell BK521.out 0).trans rfl, (blk_cell BK521.out 1).trans rfl, (blk_cell BK494.out 0).trans rfl, (blk_cell BK494.out 1).trans rfl⟩ (fun hHeld => ?_)
          clear hK K
          refine norm_ (a' := ?_) ?_ ?_
          rotate_left
          ·show Act.put _ (some 71) _ = _
           simp only [Act.put, List.setIfInBounds_toArray, List.set_cons_zero, List.set_cons_succ, i64_w, i32_w]
           rfl
          refine one_ (i := 7) (N := some 73) #[true, true, true, true, true, true, true, true, false, false, false] rfl rfl (one_of HT_.out zK) (by decide) (fun K hK => ?_)
          refine goes_ Try.func38 zK rfl #[.agg #[.int .i64 t490, .slice Ao17 t491.length co17]] (by rfl) rfl rfl zM ?_
          with_reducible refine (ancepslaw09_costs.calls kj20 t490 _ _ t491 t529 _ ?side1 ?side2 A61.out).mono ?_
          (case side1 => repeat (first | exact (Kd.R_reads' HO_495001.out).2.2 | (with_reducible refine Kd.C_alloc ?_ _) | (with_reducible refine Kd.C_drewN ?_ _) | (with_reducible refine Kd.C_drew ?_)))
          (case side2 => exact (Kd.R_reads' HO_495001.out).2.1)
          rintro e w67 ⟨v530, rfl, ho0, hb⟩
          refine ⟨_, rfl, ?_⟩
          have n0_ := Aside0.mk (Kd.R_below (zR HO_495001) hb)
          have n1_ := Aside0.mk (Kd.R_below (zR HO_505001) hb)
          have n2_ := Aside0.mk (Kd.R_below (zR HO516) hb)
          have n3_ := Aside0.mk (Kd.R_elder' (zR HO519) (Kd.R_base ho0) hb)
          have n4_ := Aside0.mk (Kd.R_elder' (zR HO528) (Kd.R_base ho0) hb)
          have n5_ := Aside0.mk (Kd.R_lower (Kd.R_new' (Kd.R_new' ho0 (Kd.R_lt (zR HO519))) (Kd.R_lt (zR HO528))) (below_size zB))
          have n6_ := Aside0.mk (blk_below (g := gb494) (o := .cells #[.int .i64 t490, .slice Ao17 t491.length co17] 24 (0, 0)) (zk BK494) hb)
          have n7_ := Aside0.mk (blk_below (g := gb504) (o := .cells #[.int .i64 t499, .slice Ao27 t500.length co27] 24 (0, 0)) (zk BK504) hb)
          have n8_ := Aside0.mk (blk_below (g := gb521) (o := .cells #[.int .i64 t513, .slice Ao56 t514.length co56] 24 (0, 0)) (zk BK521) hb)
          have n9_ := Aside0.mk (below_step zB hb)
          clear HO_495001
          clear HO_505001
          clear HO516
          clear HO519
          clear HO528
          clear BK494
          clear BK504
          clear BK521
          clear HB
          have HO_495001 := n0_
          have HO_505001 := n1_
          have HO516 := n2_
          have HO519 := n3_
          have HO528 := n4_
          have HO531 := n5_
          have BK494 := n6_
          have BK504 := n7_
          have BK521 := n8_
          have HB := n9_
          clear n0_ n1_ n2_ n3_ n4_ n5_ n6_ n7_ n8_ n9_
          (try clear hb)
          (try clear hb2)
          (try clear hk)
          (try clear hi)
          (try clear ho0)
          obtain ⟨Ao68, co68, eo68⟩ := Kd.R_slice HO528.out
          (first | subst eo68 | (injection eo68 with f1_ f2_ f3_; have f4_ := f1_.symm; have f5_ := f3_.symm; clear f1_ f2_ f3_; subst f4_; subst f5_))
          obtain ⟨Ao69, co69, eo69⟩ := Kd.R_slice HO531.out
          (first | subst eo69 | (injection eo69 with f1_ f2_ f3_; have f4_ := f1_.symm; have f5_ := f3_.symm; clear f1_ f2_ f3_; subst f4_; subst f5_))
          refine hK.out _ _ ⟨(blk_cell BK521.out 0).trans rfl, (blk_cell BK521.out 1).trans rfl, (blk_cell BK494.out 0).trans rfl, (blk_cell BK494.out 1).trans rfl⟩ (fun hHeld => ?_)
          clear hK K
          refine norm_ (a' := ?_) ?_ ?_
          rotate_left
          ·show Act.put _ (some 73) _ = _
           simp only [Act.put, List.setIfInBounds_toArray, List.set_cons_zero, List.set_cons_succ, i64_w, i32_w]
           rfl
          refine one_ (i := 8) (N := some 74) #[true, true, true, true, true, true, true, true, true, false, false] rfl rfl (one_of HT_.out zK) (by decide) (fun K hK => ?_)
          refine goes_ Try.func32 zK rfl #[.slice Ao68 t526.length co68, .slice Ao69 t529.length co69] (by rfl) rfl rfl zM ?_
          with_reducible refine (slices_Equal_int_int.calls kj20 _ _ t526 _ _ t529 t532 _ ?side1 ?side2 ?side3 ?side4 A62.out).mono ?_
          (case side1 => repeat (first | exact (Kd.R_reads' HO528.out).2.2 | (with_reducible refine Kd.C_alloc ?_ _) | (with_reducible refine Kd.C_drewN ?_ _) | (with_reducible refine Kd.C_drew ?_)))
          (case side2 => exact (Kd.R_reads' HO528.out).2.1)
          (case side3 => repeat (first | exact (Kd.R_reads' HO531.out).2.2 | (with_reducible refine Kd.C_alloc ?_ _) | (with_reducible refine Kd.C_drewN ?_ _) | (with_reducible refine Kd.C_drew ?_)))
          (case side4 => exact (Kd.R_reads' HO531.out).2.1)
          rintro e w' ⟨rfl, ⟨nd, rfl⟩⟩
          refine ⟨_, rfl, ?_⟩
          refine hK.out _ _ ⟨(blk_cell BK521.out 0).trans rfl, (blk_cell BK521.out 1).trans rfl, (blk_cell BK494.out 0).trans rfl, (blk_cell BK494.out 1).trans rfl⟩ (fun hHeld => ?_)
          clear hK K
          refine norm_ (a' := ?_) ?_ ?_
          rotate_left
          ·show Act.put _ (some 74) _ = _
           simp only [Act.put, List.setIfInBounds_toArray, List.set_cons_zero, List.set_cons_succ, i64_w, i32_w]
           rfl
          refine pure_ (i := 9) (N := some 75) (v := ?_) (a' := ?_) #[true, true, true, true, true, true, true, true, true, true, false] rfl rfl (any_of HT_.out zK) (fun _ _ _ h => h) (Or.inl ⟨by rfl, ?_⟩) ?_ ?_
          rotate_left
          ·intro w'
           go_simp
           with_reducible rfl
          rotate_left
          ·simp only [Act.put, List.setIfInBounds_toArray, List.set_cons_zero, List.set_cons_succ, i64_w, i32_w]
           rfl
          refine pure_ (i := 10) (N := some 4) (v := ?_) (a' := ?_) #[true, true, true, true, true, true, true, true, true, true, true] rfl rfl (any_of HT_.out zK) (fun _ _ _ h => h) (Or.inl ⟨by rfl, ?_⟩) ?_ ?_
          rotate_left
          ·intro w'
           go_simp
           with_reducible rfl
          rotate_left
          ·simp only [Act.put, List.setIfInBounds_toArray, List.set_cons_zero, List.set_cons_succ, i64_w, i32_w]
           rfl
          refine done_ (done_of HT_.out zK) ?_
          try go_wp2
          go_ret
          exact ⟨by first | rfl | (simp [errW_none, errW_some] <;> rfl) | (simp [*, errW_none, errW_some] <;> rfl), by repeat (first | (with_reducible first | exact HB.out | apply below_alloc | apply pw_below_drewN | apply below_drew1 | refine below_set ?_ GE494.out | refine below_set ?_ GE504.out | refine below_set ?_ GE521.out) | exact HB.out)⟩
         ·rw [if_neg c59] at H
          have c59b0 : (t525 == 0) = false := beq_eq_false_iff_ne.mpr c59
          have c59b1 : (t525 != 0) = true := bne_iff_ne.mpr c59
          obtain rfl := Option.some.inj H
          try go_wp2
          have n0_ : Aside0 (Kd.R k69 69 ((w52.setCell ⟨gb521, 0, none⟩ (.int .i64 t513)).setCell ⟨gb521, 1, none⟩ (.slice Ao56 t514.length co56)) w.heap.size (fun k_ => some k_ ≠ (.slice Ao27 t500.length co27 : Value).ownBlock ∧ some k_ ≠ (.slice Ao56 t514.length co56 : Value).ownBlock) (.slice Ao17 t491.length co17) t491) := ⟨by (with_reducible repeat (first | apply Kd.R_alloc | apply Kd.R_drewN | apply Kd.R_drew)); exact Kd.R_mono (Kd.R_far (p := ⟨gb521, 1, none⟩) (Kd.R_far (p := ⟨gb521, 0, none⟩) (Kd.R_types HO_495001.out BK521.out (by decide)) (fun _ hk => hk.2) (.int .i64 t513)) (fun _ hk => hk.2) (.slice Ao56 t514.length co56)) (fun _ hk => ⟨hk.1.1, hk.1.2⟩)⟩
          have n1_ : Aside0 (Kd.R k69 69 ((w52.setCell ⟨gb521, 0, none⟩ (.int .i64 t513)).setCell ⟨gb521, 1, none⟩ (.slice Ao56 t514.length co56)) w.heap.size (fun k_ => some k_ ≠ (.slice Ao17 t491.length co17 : Value).ownBlock ∧ some k_ ≠ (.slice Ao56 t514.length co56 : Value).ownBlock) (.slice Ao27 t500.length co27) t500) := ⟨by (with_reducible repeat (first | apply Kd.R_alloc | apply Kd.R_drewN | apply Kd.R_drew)); exact Kd.R_mono (Kd.R_far (p := ⟨gb521, 1, none⟩) (Kd.R_far (p := ⟨gb521, 0, none⟩) (Kd.R_types HO_505001.out BK521.out (by decide)) (fun _ hk => hk.2) (.int .i64 t513)) (fun _ hk => hk.2) (.slice Ao56 t514.length co56)) (fun _ hk => ⟨hk.1.1, hk.1.2⟩)⟩
          have n2_ : Aside0 (Kd.R k69 69 ((w52.setCell ⟨gb521, 0, none⟩ (.int .i64 t513)).setCell ⟨gb521, 1, none⟩ (.slice Ao56 t514.length co56)) w.heap.size (fun k_ => some k_ ≠ (.slice Ao17 t491.length co17 : Value).ownBlock ∧ some k_ ≠ (.slice Ao27 t500.length co27 : Value).ownBlock) (.slice Ao56 t514.length co56) t514) := ⟨by (with_reducible repeat (first | apply Kd.R_alloc | apply Kd.R_drewN | apply Kd.R_drew)); exact Kd.R_mono (Kd.R_far (p := ⟨gb521, 1, none⟩) (Kd.R_far (p := ⟨gb521, 0, none⟩) (Kd.R_types HO516.out BK521.out (by decide)) (fun _ hk => hk.2) (.int .i64 t513)) (fun _ hk => hk.2) (.slice Ao56 t514.length co56)) (fun _ hk => ⟨hk.1.1.2, hk.1.2⟩)⟩
          have n3_ : Aside0 (Kd.R (Kd.int .i64) 3 ((w52.setCell ⟨gb521, 0, none⟩ (.int .i64 t513)).setCell ⟨gb521, 1, none⟩ (.slice Ao56 t514.length co56)) w.heap.size (fun _ => True) v518 t517) := ⟨by (with_reducible repeat (first | apply Kd.R_alloc | apply Kd.R_drewN | apply Kd.R_drew)); exact Kd.R_mono (Kd.R_far (p := ⟨gb521, 1, none⟩) (Kd.R_far (p := ⟨gb521, 0, none⟩) (Kd.R_types HO519.out BK521.out (by decide)) (fun _ hk => hk.2) (.int .i64 t513)) (fun _ hk => hk.2) (.slice Ao56 t514.length co56)) (fun _ hk => trivial)⟩
          have n4_ : Aside0 (((w52.setCell ⟨gb521, 0, none⟩ (.int .i64 t513)).setCell ⟨gb521, 1, none⟩ (.slice Ao56 t514.length co56)).heap[gb494]? = some (.cells #[.int .i64 t490, .slice Ao17 t491.length co17] 24 (0, 0))) := ⟨by (with_reducible repeat (first | refine blk_drewN ?_ _ | refine blk_drew ?_ | refine blk_alloc ?_ _)); refine blk_far ?_ NB494_521.out _; (with_reducible repeat (first | refine blk_drewN ?_ _ | refine blk_drew ?_ | refine blk_alloc ?_ _)); refine blk_far ?_ NB494_521.out _; (with_reducible repeat (first | refine blk_drewN ?_ _ | refine blk_drew ?_ | refine blk_alloc ?_ _)); exact BK494.out⟩
          have n5_ : Aside0 (((w52.setCell ⟨gb521, 0, none⟩ (.int .i64 t513)).setCell ⟨gb521, 1, none⟩ (.slice Ao56 t514.length co56)).heap[gb504]? = some (.cells #[.int .i64 t499, .slice Ao27 t500.length co27] 24 (0, 0))) := ⟨by (with_reducible repeat (first | refine blk_drewN ?_ _ | refine blk_drew ?_ | refine blk_alloc ?_ _)); refine blk_far ?_ NB504_521.out _; (with_reducible repeat (first | refine blk_drewN ?_ _ | refine blk_drew ?_ | refine blk_alloc ?_ _)); refine blk_far ?_ NB504_521.out _; (with_reducible repeat (first | refine blk_drewN ?_ _ | refine blk_drew ?_ | refine blk_alloc ?_ _)); exact BK504.out⟩
          have n6_ : Aside0 (((w52.setCell ⟨gb521, 0, none⟩ (.int .i64 t513)).setCell ⟨gb521, 1, none⟩ (.slice Ao56 t514.length co56)).heap[gb521]? = some (.cells #[.int .i64 t513, .slice Ao56 t514.length co56] 24 (0, 0))) := ⟨by (with_reducible repeat (first | refine blk_drewN ?_ _ | refine blk_drew ?_ | refine blk_alloc ?_ _)); refine blk_put (cs := #[.int .i64 t513, .slice none 0 0]) ?_ 1 _ rfl; (with_reducible repeat (first | refine blk_drewN ?_ _ | refine blk_drew ?_ | refine blk_alloc ?_ _)); refine blk_put (cs := #[.int .i64 0, .slice none 0 0]) ?_ 0 _ rfl; (with_reducible repeat (first | refine blk_drewN ?_ _ | refine blk_drew ?_ | refine blk_alloc ?_ _)); exact BK521.out⟩
          have n7_ : Aside0 (Below w.heap.size w ((w52.setCell ⟨gb521, 0, none⟩ (.int .i64 t513)).setCell ⟨gb521, 1, none⟩ (.slice Ao56 t514.length co56))) := ⟨by repeat (first | (with_reducible first | exact HB.out | apply below_alloc | apply pw_below_drewN | apply below_drew1 | refine below_set ?_ GE494.out | refine below_set ?_ GE504.out | refine below_set ?_ GE521.out) | exact HB.out)⟩
          (try clear HO_495001)
          (try clear HO_505001)
          (try clear HO516)
          (try clear HO519)
          (try clear BK494)
          (try clear BK504)
          (try clear BK521)
          (try clear HB)
          generalize ((w52.setCell ⟨gb521, 0, none⟩ (.int .i64 t513)).setCell ⟨gb521, 1, none⟩ (.slice Ao56 t514.length co56)) = w70 at n0_ n1_ n2_ n3_ n4_ n5_ n6_ n7_ ⊢
          have HO_495001 := n0_
          have HO_505001 := n1_
          have HO516 := n2_
          have HO519 := n3_
          have BK494 := n4_
          have BK504 := n5_
          have BK521 := n6_
          have HB := n7_
          clear n0_ n1_ n2_ n3_ n4_ n5_ n6_ n7_
          have n0_ := Aside0.mk (Kd.R_drew HO_495001.out)
          have n1_ := Aside0.mk (Kd.R_drew HO_505001.out)
          have n2_ := Aside0.mk (Kd.R_drew HO516.out)
          have n3_ := Aside0.mk (Kd.R_drew HO519.out)
          have n4_ := Aside0.mk (blk_drew BK494.out)
          have n5_ := Aside0.mk (blk_drew BK504.out)
          have n6_ := Aside0.mk (blk_drew BK521.out)
          have n7_ := Aside0.mk (below_drew1 HB.out)
          clear HO_495001
          clear HO_505001
          clear HO516
          clear HO519
          clear BK494
          clear BK504
          clear BK521
          clear HB
          have HO_495001 := n0_
          have HO_505001 := n1_
          have HO516 := n2_
          have HO519 := n3_
          have BK494 := n4_
          have BK504 := n5_
          have BK521 := n6_
          have HB := n7_
          clear n0_ n1_ n2_ n3_ n4_ n5_ n6_ n7_
          refine start_ (n := 11) (S := fun w' => w'.cell? ⟨gb521, 0, none⟩ = some (.int .i64 t513) ∧ w'.cell? ⟨gb521, 1, none⟩ = some (.slice Ao56 t514.length co56)) (ds := []) #[false, false, false, false, false, false, false, false, false, false, false] zK rfl rfl ⟨(blk_cell BK521.out 0).trans rfl, (blk_cell BK521.out 1).trans rfl⟩ (fun hHeld => ?_); refine with_tabW ancepslaw09_DagKeeps.tab13 ancepslaw09_DagKeeps.bits13 (fun HT_ HW_ => ?_)
          generalize w70.drew = w71 at HO_495001 HO_505001 HO516 HO519 BK494 BK504 BK521 HB hHeld ⊢
          refine take_ (i := 0) (N := some 66) (v := ?_) (a' := ?_) #[true, false, false, false, false, false, false, false, false, false, false] rfl rfl (take_ofW HT_.out HW_.out zK) (fun _ _ _ h => h) (Or.inl ⟨by rfl, ?_⟩) hHeld ?_ ?_
          rotate_left
          ·rintro w' ⟨s0, s1⟩
           go_simp
           with_reducible rfl
          rotate_left
          ·simp only [Act.put, List.setIfInBounds_toArray, List.set_cons_zero, List.set_cons_succ, i64_w, i32_w]
           rfl
          refine one_ (i := 1) (N := some 67) #[true, true, false, false, false, false, false, false, false, false, false] rfl rfl (one_of HT_.out zK) (by decide) (fun K hK => ?_)
          refine goes_ Try.func28 zK rfl #[.agg #[.int .i64 t513, .slice Ao56 t514.length co56]] (by rfl) rfl rfl zM ?_
          with_reducible refine (ancepsref09_Valid.calls kj20 t513 _ _ t514 t525 _ ?side1 ?side2 A58.out).mono ?_
          (case side1 => repeat (first | exact (Kd.R_reads' HO516.out).2.2 | (with_reducible refine Kd.C_alloc ?_ _) | (with_reducible refine Kd.C_drewN ?_ _) | (with_reducible refine Kd.C_drew ?_)))
          (case side2 => exact (Kd.R_reads' HO516.out).2.1)
          rintro e w72 ⟨rfl, hb⟩
          refine ⟨_, rfl, ?_⟩
          have n0_ := Aside0.mk (Kd.R_below (zR HO_495001) hb)
          have n1_ := Aside0.mk (Kd.R_below (zR HO_505001) hb)
          have n2_ := Aside0.mk (Kd.R_below (zR HO516) hb)
          have n3_ := Aside0.mk (Kd.R_below (zR HO519) hb)
          have n4_ := Aside0.mk (blk_below (g := gb494) (o := .cells #[.int .i64 t490, .slice Ao17 t491.length co17] 24 (0, 0)) (zk BK494) hb)
          have n5_ := Aside0.mk (blk_below (g := gb504) (o := .cells #[.int .i64 t499, .slice Ao27 t500.length co27] 24 (0, 0)) (zk BK504) hb)
          have n6_ := Aside0.mk (blk_below (g := gb521) (o := .cells #[.int .i64 t513, .slice Ao56 t514.length co56] 24 (0, 0)) (zk BK521) hb)
          have n7_ := Aside0.mk (below_step zB hb)
          clear HO_495001
          clear HO_505001
          clear HO516
          clear HO519
          clear BK494
          clear BK504
          clear BK521
          clear HB
          have HO_495001 := n0_
          have HO_505001 := n1_
          have HO516 := n2_
          have HO519 := n3_
          have BK494 := n4_
          have BK504 := n5_
          have BK521 := n6_
          have HB := n7_
          clear n0_ n1_ n2_ n3_ n4_ n5_ n6_ n7_
          (try clear hb)
          (try clear hb2)
          (try clear hk)
          (try clear hi)
          refine hK.out _ _ ⟨(blk_cell BK521.out 0).trans rfl, (blk_cell BK521.out 1).trans rfl⟩ (fun hHeld => ?_)
          clear hK K
          refine norm_ (a' := ?_) ?_ ?_
          rotate_left
          ·show Act.put _ (some 67) _ = _
           simp only [Act.put, List.setIfInBounds_toArray, List.set_cons_zero, List.set_cons_succ, i64_w, i32_w]
           rfl
          refine pure_ (i := 2) (N := some 68) (v := ?_) (a' := ?_) #[true, true, true, false, false, false, false, false, false, false, false] rfl rfl (any_of HT_.out zK) (fun _ _ _ h => h) (Or.inl ⟨by rfl, ?_⟩) ?_ ?_
          rotate_left
          ·intro w'
           go_simp
           with_reducible rfl
          rotate_left
          ·simp only [Act.put, List.setIfInBounds_toArray, List.set_cons_zero, List.set_cons_succ, i64_w, i32_w]
           rfl
          refine pure_ (i := 3) (N := some 69) (v := ?_) (a' := ?_) #[true, true, true, true, false, false, false, false, false, false, false] rfl rfl (any_of HT_.out zK) (fun _ _ _ h => h) (Or.inl ⟨by rfl, ?_⟩) ?_ ?_
          rotate_left
          ·intro w'
           go_simp
           with_reducible rfl
          rotate_left
          ·simp only [Act.put, List.setIfInBounds_toArray, List.set_cons_zero, List.set_cons_succ, i64_w, i32_w]
           rfl
          refine pure_ (i := 4) (N := some 70) (v := undef) (a' := ?_) #[true, true, true, true, true, false, false, false, false, false, false] rfl rfl (any_of HT_.out zK) (fun _ _ _ h => h) (Or.inr ⟨by rfl, rfl⟩) ?_ ?_
          rotate_left
          ·simp only [Act.put, List.setIfInBounds_toArray, List.set_cons_zero, List.set_cons_succ, i64_w, i32_w]
           rfl
          refine pure_ (i := 5) (N := some 71) (v := undef) (a' := ?_) #[true, true, true, true, true, true, false, false, false, false, false] rfl rfl (any_of HT_.out zK) (fun _ _ _ h => h) (Or.inr ⟨by rfl, rfl⟩) ?_ ?_
          rotate_left
          ·simp only [Act.put, List.setIfInBounds_toArray, List.set_cons_zero, List.set_cons_succ, i64_w, i32_w]
           rfl
          refine pure_ (i := 6) (N := some 72) (v := undef) (a' := ?_) #[true, true, true, true, true, true, true, false, false, false, false] rfl rfl (any_of HT_.out zK) (fun _ _ _ h => h) (Or.inr ⟨by rfl, rfl⟩) ?_ ?_
          rotate_left
          ·simp only [Act.put, List.setIfInBounds_toArray, List.set_cons_zero, List.set_cons_succ, i64_w, i32_w]
           rfl
          refine pure_ (i := 7) (N := some 73) (v := undef) (a' := ?_) #[true, true, true, true, true, true, true, true, false, false, false] rfl rfl (any_of HT_.out zK) (fun _ _ _ h => h) (Or.inr ⟨by rfl, rfl⟩) ?_ ?_
          rotate_left
          ·simp only [Act.put, List.setIfInBounds_toArray, List.set_cons_zero, List.set_cons_succ, i64_w, i32_w]
           rfl
          refine pure_ (i := 8) (N := some 74) (v := undef) (a' := ?_) #[true, true, true, true, true, true, true, true, true, false, false] rfl rfl (any_of HT_.out zK) (fun _ _ _ h => h) (Or.inr ⟨by rfl, rfl⟩) ?_ ?_
          rotate_left
          ·simp only [Act.put, List.setIfInBounds_toArray, List.set_cons_zero, List.set_cons_succ, i64_w, i32_w]
           rfl
          refine pure_ (i := 9) (N := some 75) (v := ?_) (a' := ?_) #[true, true, true, true, true, true, true, true, true, true, false] rfl rfl (any_of HT_.out zK) (fun _ _ _ h => h) (Or.inl ⟨by rfl, ?_⟩) ?_ ?_
          rotate_left
          ·intro w'
           go_simp
           with_reducible rfl
          rotate_left
          ·simp only [Act.put, List.setIfInBounds_toArray, List.set_cons_zero, List.set_cons_succ, i64_w, i32_w]
           rfl
          refine pure_ (i := 10) (N := some 4) (v := ?_) (a' := ?_) #[true, true, true, true, true, true, true, true, true, true, true] rfl rfl (any_of HT_.out zK) (fun _ _ _ h => h) (Or.inl ⟨by rfl, ?_⟩) ?_ ?_
          rotate_left
          ·intro w'
           go_simp
           with_reducible rfl
          rotate_left
          ·simp only [Act.put, List.setIfInBounds_toArray, List.set_cons_zero, List.set_cons_succ, i64_w, i32_w]
           rfl
          refine done_ (done_of HT_.out zK) ?_
          try go_wp2
          go_ret
          exact ⟨by first | rfl | (simp [errW_none, errW_some] <;> rfl) | (simp [*, errW_none, errW_some] <;> rfl), by repeat (first | (with_reducible first | exact HB.out | apply below_alloc | apply pw_below_drewN | apply below_drew1 | refine below_set ?_ GE494.out | refine below_set ?_ GE504.out | refine below_set ?_ GE521.out) | exact HB.out)⟩
        ·rw [if_neg c57] at H
         have c57b0 : (t520 == 0) = false := beq_eq_false_iff_ne.mpr c57
         have c57b1 : (t520 != 0) = true := bne_iff_ne.mpr c57
         (first | rw [c57b0] | (simp only [i64_w, i32_w]; rw [c57b0]) | skip)
         (try rw [c57b1])
         by_cases c73 : t520 = 10
         ·rw [if_pos c73] at H
          have c73b0 : (t520 == 10) = true := beq_iff_eq.mpr c73
          have c73b1 : (t520 != 10) = false := bne_eq_false_iff_eq.mpr c73
          clear c73
          replace H := Option.bind_eq_some_iff.mp H
          obtain ⟨t522, A740, H⟩ := H
          replace H : (some ((t522.length : Int) == 0)) = some r := H
          have A74 := Aside0.mk A740
          clear A740
          obtain rfl := Option.some.inj H
          have hnb75 := NB494_504.out
          have hnc75 := NB504_494.out
          have hnb76 := NB494_521.out
          have hnc76 := NB521_494.out
          have hcz77_0 : w52.cell? ⟨gb494, 0, none⟩ = some (.int .i64 t490) := (blk_cell BK494.out 0).trans rfl
          have hcz77_1 : w52.cell? ⟨gb494, 1, none⟩ = some (.slice Ao17 t491.length co17) := (blk_cell BK494.out 1).trans rfl
          have hfz77_0 := blk_frozen BK494.out 0
          have hfz77_1 := blk_frozen BK494.out 1
          go_wp2_with (first | (go_at_call 38; (with_reducible refine (ancepslaw09_costs.calls kj20 t490 _ _ t491 t522 _ ?side1 ?side2 A74.out).mono ?_); (case side1 => refine (Kd.R_reads' (e := 69) (base := w.heap.size) (ok := fun k_ => (some k_ ≠ (.slice Ao27 t500.length co27 : Value).ownBlock ∧ some k_ ≠ (.slice Ao56 t514.length co56 : Value).ownBlock)) (n := t491.length) (c := co17) ?_).2.2; exact (by (with_reducible repeat (first | apply Kd.R_alloc | apply Kd.R_drewN | apply Kd.R_drew)); exact (Kd.R_mono (Kd.R_far (p := ⟨gb521, 1, none⟩) (Kd.R_far (p := ⟨gb521, 0, none⟩) (Kd.R_types HO_495001.out BK521.out (by decide)) (fun _ hk => hk.2) (.int .i64 t513)) (fun _ hk => hk.2) (.slice Ao56 t514.length co56)) (fun _ h_ => h_.1)))); (case side2 => exact (Kd.R_reads' HO_495001.out).2.1); rintro e w78 ⟨v523, rfl, ho0, hb⟩; have n0_ := Aside0.mk (Kd.R_below (by (with_reducible repeat (first | apply Kd.R_alloc | apply Kd.R_drewN | apply Kd.R_drew)); exact (Kd.R_mono (Kd.R_far (p := ⟨gb521, 1, none⟩) (Kd.R_far (p := ⟨gb521, 0, none⟩) (Kd.R_types HO_495001.out BK521.out (by decide)) (fun _ hk => hk.2) (.int .i64 t513)) (fun _ hk => hk.2) (.slice Ao56 t514.length co56)) (fun _ h_ => h_.1))) hb); have n1_ := Aside0.mk (Kd.R_below (by (with_reducible repeat (first | apply Kd.R_alloc | apply Kd.R_drewN | apply Kd.R_drew)); exact (Kd.R_mono (Kd.R_far (p := ⟨gb521, 1, none⟩) (Kd.R_far (p := ⟨gb521, 0, none⟩) (Kd.R_types HO_505001.out BK521.out (by decide)) (fun _ hk => hk.2) (.int .i64 t513)) (fun _ hk => hk.2) (.slice Ao56 t514.length co56)) (fun _ h_ => h_.1))) hb); have n2_ := Aside0.mk (Kd.R_below (by (with_reducible repeat (first | apply Kd.R_alloc | apply Kd.R_drewN | apply Kd.R_drew)); exact (Kd.R_mono (Kd.R_far (p := ⟨gb521, 1, none⟩) (Kd.R_far (p := ⟨gb521, 0, none⟩) (Kd.R_types HO516.out BK521.out (by decide)) (fun _ hk => hk.2) (.int .i64 t513)) (fun _ hk => hk.2) (.slice Ao56 t514.length co56)) (fun _ h_ => h_.1))) hb); have n3_ := Aside0.mk (Kd.R_elder' (by (with_reducible repeat (first | apply Kd.R_alloc | apply Kd.R_drewN | apply Kd.R_drew)); exact (Kd.R_mono (Kd.R_far (p := ⟨gb521, 1, none⟩) (Kd.R_far (p := ⟨gb521, 0, none⟩) (Kd.R_types HO519.out BK521.out (by decide)) (fun _ hk => hk.2) (.int .i64 t513)) (fun _ hk => hk.2) (.slice Ao56 t514.length co56)) (fun _ h_ => h_.1))) (Kd.R_base ho0) hb); have n4_ := Aside0.mk (Kd.R_lower (Kd.R_new' ho0 (Kd.R_lt (by (with_reducible repeat (first | apply Kd.R_alloc | apply Kd.R_drewN | apply Kd.R_drew)); exact (Kd.R_mono (Kd.R_far (p := ⟨gb521, 1, none⟩) (Kd.R_far (p := ⟨gb521, 0, none⟩) (Kd.R_types HO519.out BK521.out (by decide)) (fun _ hk => hk.2) (.int .i64 t513)) (fun _ hk => hk.2) (.slice Ao56 t514.length co56)) (fun _ h_ => h_.1))))) (below_size zB)); have n5_ := Aside0.mk (blk_below (g := gb494) (o := .cells #[.int .i64 t490, .slice Ao17 t491.length co17] 24 (0, 0)) (by (with_reducible repeat (first | refine blk_drewN ?_ _ | refine blk_drew ?_ | refine blk_alloc ?_ _)); refine blk_far ?_ NB494_521.out _; (with_reducible repeat (first | refine blk_drewN ?_ _ | refine blk_drew ?_ | refine blk_alloc ?_ _)); refine blk_far ?_ NB494_521.out _; (with_reducible repeat (first | refine blk_drewN ?_ _ | refine blk_drew ?_ | refine blk_alloc ?_ _)); exact BK494.out) hb); have n6_ := Aside0.mk (blk_below (g := gb504) (o := .cells #[.int .i64 t499, .slice Ao27 t500.length co27] 24 (0, 0)) (by (with_reducible repeat (first | refine blk_drewN ?_ _ | refine blk_drew ?_ | refine blk_alloc ?_ _)); refine blk_far ?_ NB504_521.out _; (with_reducible repeat (first | refine blk_drewN ?_ _ | refine blk_drew ?_ | refine blk_alloc ?_ _)); refine blk_far ?_ NB504_521.out _; (with_reducible repeat (first | refine blk_drewN ?_ _ | refine blk_drew ?_ | refine blk_alloc ?_ _)); exact BK504.out) hb); have n7_ := Aside0.mk (blk_below (g := gb521) (o := .cells #[.int .i64 t513, .slice Ao56 t514.length co56] 24 (0, 0)) (by (with_reducible repeat (first | refine blk_drewN ?_ _ | refine blk_drew ?_ | refine blk_alloc ?_ _)); refine blk_put (cs := #[.int .i64 t513, .slice none 0 0]) ?_ 1 _ rfl; (with_reducible repeat (first | refine blk_drewN ?_ _ | refine blk_drew ?_ | refine blk_alloc ?_ _)); refine blk_put (cs := #[.int .i64 0, .slice none 0 0]) ?_ 0 _ rfl; (with_reducible repeat (first | refine blk_drewN ?_ _ | refine blk_drew ?_ | refine blk_alloc ?_ _)); exact BK521.out) hb); have n8_ := Aside0.mk (below_step zB hb); clear HO_495001; clear HO_505001; clear HO516; clear HO519; clear BK494; clear BK504; clear BK521; clear HB; have HO_495001 := n0_; have HO_505001 := n1_; have HO516 := n2_; have HO519 := n3_; have HO524 := n4_; have BK494 := n5_; have BK504 := n6_; have BK521 := n7_; have HB := n8_; clear n0_ n1_ n2_ n3_ n4_ n5_ n6_ n7_ n8_; (try clear hb); (try clear hb2); (try clear hk); (try clear hi); (try clear ho0); obtain ⟨Ao79, co79, eo79⟩ := Kd.R_slice HO524.out; subst eo79))
          go_ret
          exact ⟨by first | rfl | (simp [errW_none, errW_some] <;> rfl) | (simp [*, errW_none, errW_some] <;> rfl), by repeat (first | (with_reducible first | exact HB.out | apply below_alloc | apply pw_below_drewN | apply below_drew1 | refine below_set ?_ GE494.out | refine below_set ?_ GE504.out | refine below_set ?_ GE521.out) | exact HB.out)⟩
         ·rw [if_neg c73] at H
          have c73b0 : (t520 == 10) = false := beq_eq_false_iff_ne.mpr c73
          have c73b1 : (t520 != 10) = true := bne_iff_ne.mpr c73
          obtain rfl := Option.some.inj H
          go_wp2
          go_ret
          exact ⟨by first | rfl | (simp [errW_none, errW_some] <;> rfl) | (simp [*, errW_none, errW_some] <;> rfl), by repeat (first | (with_reducible first | exact HB.out | apply below_alloc | apply pw_below_drewN | apply below_drew1 | refine below_set ?_ GE494.out | refine below_set ?_ GE504.out | refine below_set ?_ GE521.out) | exact HB.out)⟩
    ·rw [if_neg c19] at H
     have c19b0 : (t498 == 0) = false := beq_eq_false_iff_ne.mpr c19
     have c19b1 : (t498 != 0) = true := bne_iff_ne.mpr c19
     (first | rw [c19b0] | (simp only [i64_w, i32_w]; rw [c19b0]) | skip)
     (try rw [c19b1])
     obtain rfl := Option.some.inj H
     go_wp2
     go_ret
     exact ⟨by first | rfl | (simp [errW_none, errW_some] <;> rfl) | (simp [*, errW_none, errW_some] <;> rfl), by repeat (first | (with_reducible first | exact HB.out | apply below_alloc | apply pw_below_drewN | apply below_drew1 | refine below_set ?_ GE494.out) | exact HB.out)⟩
end Go.Proofs.Ytanbffoilianhaa.F
