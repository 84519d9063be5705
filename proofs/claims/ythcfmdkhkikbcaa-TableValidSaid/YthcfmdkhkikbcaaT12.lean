-- Written by wip/tools/myprint.py, a program of this session's.
import Derived.Test.YthcfmdkhkikbcaaT0
import Derived.Test.YthcfmdkhkikbcaaT1
import Derived.Test.YthcfmdkhkikbcaaT2
import Derived.Test.YthcfmdkhkikbcaaT4
import Derived.Test.YthcfmdkhkikbcaaT5
import Derived.Test.YthcfmdkhkikbcaaT7
import Derived.Test.YthcfmdkhkikbcaaT8
import Derived.Test.YthcfmdkhkikbcaaT9
import Derived.Test.YthcfmdkhkikbcaaT11
import Derived.Test.YthcfmdkhkikbcaaT14
namespace Go.Proofs.Ythcfmdkhkikbcaa.T
open Go.RowKit Go.Proofs.YthcfmdkhkikbcaaW.PrintWords Go.Proofs.YthcfmdkhkikbcaaW.PrintLast Go.Proofs.YthcfmdkhkikbcaaW.PrintMore
attribute [local go_sem] max2_int min2_int max_two min_two max_three min_three max_four min_four   -- for this text's walks alone
set_option linter.unusedVariables false
set_option linter.unusedSimpArgs false
/-! ### ancepslaw38_TableValid: function 4 -/
def ancepslaw38_TableValid.j0 : Nat → Int → Bool → List Int → List Int → Option (Bool)
 | 0, _, _, _, _ => none
 | k + 1, x1, x19, x498000, x498001 => if x19 = true then ((ancepslaw38_awake.f k).bind fun t500 => (some t500)) else ((ancepslaw38_own.f x498000 x498001).bind fun bt501 => ((table_Has.f k bt501.1 bt501.2 x1).bind fun bt507 => ((ancepsref38_Has.f k x498000 x498001 x1).bind fun bt509 => ((ancepslaw38_own.f x498000 x498001).bind fun bt511 => ((table_Vital.f k bt511.1 bt511.2).bind fun bt517 => ((ancepsref38_Vital.f k x498000 x498001).bind fun bt525 => ((ancepslaw38_own.f x498000 x498001).bind fun bt533 => ((table_Valid.f k bt533.1 bt533.2).bind fun t539 => ((ancepsref38_Valid.f k x498000 x498001).bind fun t540 => (if t539 = t540 then (if (bt507.1 == bt509.1) = true then (if bt507.2 = bt509.2 then (if bt517.2.2 = bt525.2.2 then ((ancepsref38_Equal.f k bt517.1 bt517.2.1 bt525.1 bt525.2.1).bind fun t541 => (some t541)) else (some false)) else (some false)) else (some false)) else (some false)))))))))))
def ancepslaw38_TableValid.f (k : Nat) (l0_0 : List Int) (l0_1 : List Int) (a1 : Int) : Option (Bool) := (ancepslaw38_awake.f k).bind fun t498 => (if t498 = true then ((ancepsref38_Few.f l0_0 l0_1).bind fun t499 => (ancepslaw38_TableValid.j0 k a1 (!t499) l0_0 l0_1)) else (ancepslaw38_TableValid.j0 k a1 true l0_0 l0_1))
theorem ancepslaw38_TableValid.mono_l : ∀ k, (∀ y0 y1 y2 y3, LeO (ancepslaw38_TableValid.j0 k y0 y1 y2 y3) (ancepslaw38_TableValid.j0 (k + 1) y0 y1 y2 y3))
 | 0 => fun _ _ _ _ r h => by simp [ancepslaw38_TableValid.j0] at h
 | k + 1 => by
  have ih0 := ancepslaw38_TableValid.mono_l k
  ·intro y0 y1 y2 y3
   unfold ancepslaw38_TableValid.j0
   repeat' first
   | (with_reducible exact ih0 _ _ _ _)
   | (with_reducible exact ancepslaw38_awake.mono _)
   | (with_reducible exact ancepsref38_Equal.mono _ _ _ _ _)
   | (with_reducible exact ancepsref38_Has.mono _ _ _ _)
   | (with_reducible exact ancepsref38_Valid.mono _ _ _)
   | (with_reducible exact ancepsref38_Vital.mono _ _ _)
   | (with_reducible exact table_Has.mono _ _ _ _)
   | (with_reducible exact table_Valid.mono _ _ _)
   | (with_reducible exact table_Vital.mono _ _ _)
   | (with_reducible exact LeO.refl _)
   | (with_reducible exact LeO.none _)
   | (with_reducible refine LeO.ite ?_ ?_)
   | (with_reducible refine LeO.bind ?_ (fun _ => ?_))
   | exact ih0 _ _ _ _
   | exact ancepslaw38_awake.mono _
   | exact ancepsref38_Equal.mono _ _ _ _ _
   | exact ancepsref38_Has.mono _ _ _ _
   | exact ancepsref38_Valid.mono _ _ _
   | exact ancepsref38_Vital.mono _ _ _
   | exact table_Has.mono _ _ _ _
   | exact table_Valid.mono _ _ _
   | exact table_Vital.mono _ _ _
   | exact LeO.none _
   | refine LeO.ite ?_ ?_
   | refine LeO.bind ?_ (fun _ => ?_)
theorem ancepslaw38_TableValid.mono : ∀ a0 a1 a2 k, LeO (ancepslaw38_TableValid.f k a0 a1 a2) (ancepslaw38_TableValid.f (k + 1) a0 a1 a2) := by
 intro a0 a1 a2 k
 have ih0 := ancepslaw38_TableValid.mono_l k
 unfold ancepslaw38_TableValid.f
 repeat' first
   | (with_reducible exact ih0 _ _ _ _)
   | (with_reducible exact ancepslaw38_awake.mono _)
   | (with_reducible exact ancepsref38_Equal.mono _ _ _ _ _)
   | (with_reducible exact ancepsref38_Has.mono _ _ _ _)
   | (with_reducible exact ancepsref38_Valid.mono _ _ _)
   | (with_reducible exact ancepsref38_Vital.mono _ _ _)
   | (with_reducible exact table_Has.mono _ _ _ _)
   | (with_reducible exact table_Valid.mono _ _ _)
   | (with_reducible exact table_Vital.mono _ _ _)
   | (with_reducible exact LeO.refl _)
   | (with_reducible exact LeO.none _)
   | (with_reducible refine LeO.ite ?_ ?_)
   | (with_reducible refine LeO.bind ?_ (fun _ => ?_))
   | exact ih0 _ _ _ _
   | exact ancepslaw38_awake.mono _
   | exact ancepsref38_Equal.mono _ _ _ _ _
   | exact ancepsref38_Has.mono _ _ _ _
   | exact ancepsref38_Valid.mono _ _ _
   | exact ancepsref38_Vital.mono _ _ _
   | exact table_Has.mono _ _ _ _
   | exact table_Valid.mono _ _ _
   | exact table_Vital.mono _ _ _
   | exact LeO.none _
   | refine LeO.ite ?_ ?_
   | refine LeO.bind ?_ (fun _ => ?_)
def ancepslaw38_TableValid.T7 : Bool × List (List Nat × List Nat) := (true, [([], []), ([0], [0]), ([1, 1], [1]), ([], []), ([3, 2], [3]), ([2, 4], [2, 4]), ([5, 4], [5]), ([6], [6]), ([6], [6]), ([7, 8, 6], [6, 7, 8]), ([6, 9], [6, 9]), ([10, 6], [10]), ([11], [11]), ([11], [11]), ([12, 13, 11], [11, 12, 13]), ([11, 14], [11, 14]), ([15, 11], [15]), ([16], [16]), ([16], [16]), ([17, 18, 16], [16, 17, 18]), ([16, 19], [16, 19]), ([20, 16], [20]), ([21], [21]), ([21], [21]), ([22, 23, 21, 21], [21, 22, 23]), ([21, 24], [21, 24]), ([25, 24, 0, 1, 2, 3, 4, 5, 6, 7, 8, 9, 10, 11, 12, 13, 14, 15, 16, 17, 18, 19, 20, 21, 22, 23, 24, 25], [25])])
def ancepslaw38_TableValid.B7 : List Nat := [0, 1, 3, 0, 15, 31, 63, 127, 127, 511, 1023, 2047, 4095, 4095, 16383, 32767, 65535, 131071, 131071, 524287, 1048575, 2097151, 4194303, 4194303, 16777215, 33554431, 67108863]
theorem ancepslaw38_TableValid.tab7 : rtab .any (opsOf Try.f4 7) = ancepslaw38_TableValid.T7 := by kernel_rfl
theorem ancepslaw38_TableValid.bits7 : waitsOk ancepslaw38_TableValid.T7.2 ancepslaw38_TableValid.B7 = true := by kernel_rfl
set_option maxHeartbeats 8000000 in
set_option maxRecDepth 100000 in
theorem ancepslaw38_TableValid.calls (k : Nat) (A0_0 : Option Addr) (c0_0 : Nat) (l0_0 : List Int) (A0_1 : Option Addr) (c0_1 : Nat) (l0_1 : List Int) (a1 : Int) (r : Bool) (w : World) (hr0_0 : Kd.C (Kd.int .i64) w A0_0 l0_0.length l0_0) (hc0_0 : l0_0.length ≤ c0_0) (hr0_1 : Kd.C (Kd.int .i64) w A0_1 l0_1.length l0_1) (hc0_1 : l0_1.length ≤ c0_1) (h : ancepslaw38_TableValid.f k l0_0 l0_1 a1 = some r) :
  Calls Try.prog 4 #[.agg #[.slice A0_0 l0_0.length c0_0, .slice A0_1 l0_1.length c0_1], .int .i64 a1] w fun e w' => e = .returned (.bool r) ∧ Below w.heap.size w w' := by
 have hu29 := Try.underlying29
 have HR0_0 := Aside0.mk hr0_0
 have HC0_0 := Aside0.mk hc0_0
 clear hr0_0 hc0_0
 have HR0_1 := Aside0.mk hr0_1
 have HC0_1 := Aside0.mk hc0_1
 clear hr0_1 hc0_1
 have HB := Aside0.mk (Below.refl w.heap.size w)
 have H : ((ancepslaw38_awake.f k).bind fun t498 => (if t498 = true then ((ancepsref38_Few.f l0_0 l0_1).bind fun t499 => (ancepslaw38_TableValid.j0 k a1 (!t499) l0_0 l0_1)) else (ancepslaw38_TableValid.j0 k a1 true l0_0 l0_1))) = some r := h
 clear h
 have HC3 := Aside0.mk H
 clear H
 go_enter Try.func4, Try.ntmps4
 go_upto_region 1 with (first | ((with_reducible refine gate_dst (N := 2) rfl ?_); refine box_event ?hg (N := 2) ?hd (cs := #[.slice A0_0 l0_0.length c0_0, .slice A0_1 l0_1.length c0_1]) (t := 29) ?hr ?_; (case hd => rfl); (case hg => rfl); (case hr => first | (go_simp; done) | (go_simp; rfl)); intro gb497 hg w4 hbox hb; have n0_ := Aside0.mk (below_step zB hb); have n1_ := Aside0.mk (hbox); have n2_ := Aside0.mk ((by rw [hg]; exact (below_size zB) : w.heap.size ≤ gb497)); have n3_ := Aside0.mk ((by rw [hg]; exact (below_size zB) : w.heap.size ≤ gb497)); clear HB; have HB := n0_; have BK497 := n1_; have GW497 := n2_; have GE497 := n3_; clear n0_ n1_ n2_ n3_; clear hb hbox hg))
 (try simp only [Act.put, List.setIfInBounds_toArray, List.set_cons_zero, List.set_cons_succ])
 go_cut [19] (fun v19 wc => ∃ (kq : Nat) (x19_2 : Bool), v19 = .bool x19_2 ∧ Aside0 (ancepslaw38_TableValid.j0 kq a1 x19_2 l0_0 l0_1 = some r) ∧ Aside0 (kq ≤ k) ∧ Aside0 (wc.heap[gb497]? = some (.cells #[(.slice A0_0 l0_0.length c0_0), (.slice A0_1 l0_1.length c0_1)] 29 (0, 0))) ∧ Aside0 (Below w.heap.size w wc))
 case first =>
  have H := HC3.out
  clear HC3
  replace H := Option.bind_eq_some_iff.mp H
  obtain ⟨t498, A50, H⟩ := H
  replace H : (if t498 = true then ((ancepsref38_Few.f l0_0 l0_1).bind fun t499 => (ancepslaw38_TableValid.j0 k a1 (!t499) l0_0 l0_1)) else (ancepslaw38_TableValid.j0 k a1 true l0_0 l0_1)) = some r := H
  have A5 := Aside0.mk A50
  clear A50
  by_cases c6 : t498 = true
  ·subst c6
   have H1 : ((ancepsref38_Few.f l0_0 l0_1).bind fun t499 => (ancepslaw38_TableValid.j0 k a1 (!t499) l0_0 l0_1)) = some r := by rw [if_pos rfl] at H; exact H
   clear H
   have H := H1
   clear H1
   replace H := Option.bind_eq_some_iff.mp H
   obtain ⟨t499, A70, H⟩ := H
   replace H : (ancepslaw38_TableValid.j0 k a1 (!t499) l0_0 l0_1) = some r := H
   have A7 := Aside0.mk A70
   clear A70
   have H' := Aside0.mk H
   clear H
   go_wp2_with (first | ((with_reducible refine gate_callee (f := 12) rfl ?_); refine goesL_ (some 13) rfl rfl Try.func12 zK rfl #[] rfl zM ?_; (with_reducible refine (ancepslaw38_awake.calls k  true _ A5.out).mono ?_); rintro e w8 ⟨rfl, hb⟩; refine ⟨_, rfl, ?_⟩; have n0_ := Aside0.mk (blk_below (g := gb497) (o := .cells #[.slice A0_0 l0_0.length c0_0, .slice A0_1 l0_1.length c0_1] 29 (0, 0)) (zk BK497) hb); have n1_ := Aside0.mk (below_step zB hb); clear BK497; clear HB; have BK497 := n0_; have HB := n1_; clear n0_ n1_; (try clear hb); (try clear hb2); (try clear hk); (try clear hi); have hcz9_0 : w8.cell? ⟨gb497, 0, none⟩ = some (.slice A0_0 l0_0.length c0_0) := (blk_cell BK497.out 0).trans rfl; have hcz9_1 : w8.cell? ⟨gb497, 1, none⟩ = some (.slice A0_1 l0_1.length c0_1) := (blk_cell BK497.out 1).trans rfl; have hfz9_0 := blk_frozen BK497.out 0; have hfz9_1 := blk_frozen BK497.out 1) | (go_at_call 19; (with_reducible refine (ancepsref38_Few.calls _ _ l0_0 _ _ l0_1 t499 _ ?side1 ?side2 ?side3 ?side4 A7.out).mono ?_); (case side1 => repeat (first | exact (Kd.C_below HR0_0.out HB.out) | (with_reducible refine Kd.C_alloc ?_ _) | (with_reducible refine Kd.C_drewN ?_ _) | (with_reducible refine Kd.C_drew ?_))); (case side2 => exact HC0_0.out); (case side3 => repeat (first | exact (Kd.C_below HR0_1.out HB.out) | (with_reducible refine Kd.C_alloc ?_ _) | (with_reducible refine Kd.C_drewN ?_ _) | (with_reducible refine Kd.C_drew ?_))); (case side4 => exact HC0_1.out); rintro e w10 ⟨rfl, hb⟩; have n0_ := Aside0.mk (blk_below (g := gb497) (o := .cells #[.slice A0_0 l0_0.length c0_0, .slice A0_1 l0_1.length c0_1] 29 (0, 0)) (zk BK497) hb); have n1_ := Aside0.mk (below_step zB hb); clear BK497; clear HB; have BK497 := n0_; have HB := n1_; clear n0_ n1_; (try clear hb); (try clear hb2); (try clear hk); (try clear hi)))
   go_meet
   case rel => exact ⟨_, (!t499), zT, H', ⟨by first | omega | exact Nat.le_refl _⟩, ⟨by (with_reducible repeat (first | refine blk_drewN ?_ _ | refine blk_drew ?_ | refine blk_alloc ?_ _)); exact BK497.out⟩, ⟨by repeat (first | (with_reducible first | exact HB.out | apply below_alloc | apply pw_below_drewN | apply below_drew1 | refine below_set ?_ GE497.out) | exact HB.out)⟩⟩
  ·replace c6 := Bool.eq_false_iff.mpr c6
   subst c6
   have H1 : (ancepslaw38_TableValid.j0 k a1 true l0_0 l0_1) = some r := by rw [if_neg (show ¬ (false = true) by decide)] at H; exact H
   clear H
   have H := H1
   clear H1
   have H' := Aside0.mk H
   clear H
   go_wp2_with (first | ((with_reducible refine gate_callee (f := 12) rfl ?_); refine goesL_ (some 13) rfl rfl Try.func12 zK rfl #[] rfl zM ?_; (with_reducible refine (ancepslaw38_awake.calls k  false _ A5.out).mono ?_); rintro e w11 ⟨rfl, hb⟩; refine ⟨_, rfl, ?_⟩; have n0_ := Aside0.mk (blk_below (g := gb497) (o := .cells #[.slice A0_0 l0_0.length c0_0, .slice A0_1 l0_1.length c0_1] 29 (0, 0)) (zk BK497) hb); have n1_ := Aside0.mk (below_step zB hb); clear BK497; clear HB; have BK497 := n0_; have HB := n1_; clear n0_ n1_; (try clear hb); (try clear hb2); (try clear hk); (try clear hi)))
   go_meet
   case rel => exact ⟨_, (true), zT, H', ⟨by first | omega | exact Nat.le_refl _⟩, ⟨by (with_reducible repeat (first | refine blk_drewN ?_ _ | refine blk_drew ?_ | refine blk_alloc ?_ _)); exact BK497.out⟩, ⟨by repeat (first | (with_reducible first | exact HB.out | apply below_alloc | apply pw_below_drewN | apply below_drew1 | refine below_set ?_ GE497.out) | exact HB.out)⟩⟩
 case rest =>
  clear HC3
  obtain ⟨kq, x19_2, rfl, HA, HJ2, BK497, HB⟩ := hcut
  cases kq with
  | zero => exact absurd HA.out (by simp [ancepslaw38_TableValid.j0])
  | succ kj2 =>
   have H := HA.out
   clear HA
   simp only [ancepslaw38_TableValid.j0] at H
   by_cases c12 : x19_2 = true
   ·subst c12
    have H1 : ((ancepslaw38_awake.f kj2).bind fun t500 => (some t500)) = some r := by rw [if_pos rfl] at H; exact H
    clear H
    have H := H1
    clear H1
    replace H := Option.bind_eq_some_iff.mp H
    obtain ⟨t500, A130, H⟩ := H
    replace H : (some t500) = some r := H
    have A13 := Aside0.mk A130
    clear A130
    obtain rfl := Option.some.inj H
    go_wp2_with (first | ((with_reducible refine gate_callee (f := 12) rfl ?_); refine goesL_ (some 20) rfl rfl Try.func12 zK rfl #[] rfl zM ?_; (with_reducible refine (ancepslaw38_awake.calls kj2  t500 _ A13.out).mono ?_); rintro e w14 ⟨rfl, hb⟩; refine ⟨_, rfl, ?_⟩; have n0_ := Aside0.mk (blk_below (g := gb497) (o := .cells #[.slice A0_0 l0_0.length c0_0, .slice A0_1 l0_1.length c0_1] 29 (0, 0)) (zk BK497) hb); have n1_ := Aside0.mk (below_step zB hb); clear BK497; clear HB; have BK497 := n0_; have HB := n1_; clear n0_ n1_; (try clear hb); (try clear hb2); (try clear hk); (try clear hi)))
    go_ret
    exact ⟨by first | rfl | (simp [errW_none, errW_some] <;> rfl) | (simp [*, errW_none, errW_some] <;> rfl), by repeat (first | (with_reducible first | exact HB.out | apply below_alloc | apply pw_below_drewN | apply below_drew1 | refine below_set ?_ GE497.out) | exact HB.out)⟩
   ·replace c12 := Bool.eq_false_iff.mpr c12
    subst c12
    have H1 : ((ancepslaw38_own.f l0_0 l0_1).bind fun bt501 => ((table_Has.f kj2 bt501.1 bt501.2 a1).bind fun bt507 => ((ancepsref38_Has.f kj2 l0_0 l0_1 a1).bind fun bt509 => ((ancepslaw38_own.f l0_0 l0_1).bind fun bt511 => ((table_Vital.f kj2 bt511.1 bt511.2).bind fun bt517 => ((ancepsref38_Vital.f kj2 l0_0 l0_1).bind fun bt525 => ((ancepslaw38_own.f l0_0 l0_1).bind fun bt533 => ((table_Valid.f kj2 bt533.1 bt533.2).bind fun t539 => ((ancepsref38_Valid.f kj2 l0_0 l0_1).bind fun t540 => (if t539 = t540 then (if (bt507.1 == bt509.1) = true then (if bt507.2 = bt509.2 then (if bt517.2.2 = bt525.2.2 then ((ancepsref38_Equal.f kj2 bt517.1 bt517.2.1 bt525.1 bt525.2.1).bind fun t541 => (some t541)) else (some false)) else (some false)) else (some false)) else (some false))))))))))) = some r := by rw [if_neg (show ¬ (false = true) by decide)] at H; exact H
    clear H
    have H := H1
    clear H1
    replace H := Option.bind_eq_some_iff.mp H
    obtain ⟨⟨t501, t504⟩, A150, H⟩ := H
    replace H : ((table_Has.f kj2 t501 t504 a1).bind fun bt507 => ((ancepsref38_Has.f kj2 l0_0 l0_1 a1).bind fun bt509 => ((ancepslaw38_own.f l0_0 l0_1).bind fun bt511 => ((table_Vital.f kj2 bt511.1 bt511.2).bind fun bt517 => ((ancepsref38_Vital.f kj2 l0_0 l0_1).bind fun bt525 => ((ancepslaw38_own.f l0_0 l0_1).bind fun bt533 => ((table_Valid.f kj2 bt533.1 bt533.2).bind fun t539 => ((ancepsref38_Valid.f kj2 l0_0 l0_1).bind fun t540 => (if t539 = t540 then (if (bt507.1 == bt509.1) = true then (if bt507.2 = bt509.2 then (if bt517.2.2 = bt525.2.2 then ((ancepsref38_Equal.f kj2 bt517.1 bt517.2.1 bt525.1 bt525.2.1).bind fun t541 => (some t541)) else (some false)) else (some false)) else (some false)) else (some false)))))))))) = some r := H
    have A15 := Aside0.mk A150
    clear A150
    replace H := Option.bind_eq_some_iff.mp H
    obtain ⟨⟨t507, t508⟩, A160, H⟩ := H
    replace H : ((ancepsref38_Has.f kj2 l0_0 l0_1 a1).bind fun bt509 => ((ancepslaw38_own.f l0_0 l0_1).bind fun bt511 => ((table_Vital.f kj2 bt511.1 bt511.2).bind fun bt517 => ((ancepsref38_Vital.f kj2 l0_0 l0_1).bind fun bt525 => ((ancepslaw38_own.f l0_0 l0_1).bind fun bt533 => ((table_Valid.f kj2 bt533.1 bt533.2).bind fun t539 => ((ancepsref38_Valid.f kj2 l0_0 l0_1).bind fun t540 => (if t539 = t540 then (if (t507 == bt509.1) = true then (if t508 = bt509.2 then (if bt517.2.2 = bt525.2.2 then ((ancepsref38_Equal.f kj2 bt517.1 bt517.2.1 bt525.1 bt525.2.1).bind fun t541 => (some t541)) else (some false)) else (some false)) else (some false)) else (some false))))))))) = some r := H
    have A16 := Aside0.mk A160
    clear A160
    replace H := Option.bind_eq_some_iff.mp H
    obtain ⟨⟨t509, t510⟩, A170, H⟩ := H
    replace H : ((ancepslaw38_own.f l0_0 l0_1).bind fun bt511 => ((table_Vital.f kj2 bt511.1 bt511.2).bind fun bt517 => ((ancepsref38_Vital.f kj2 l0_0 l0_1).bind fun bt525 => ((ancepslaw38_own.f l0_0 l0_1).bind fun bt533 => ((table_Valid.f kj2 bt533.1 bt533.2).bind fun t539 => ((ancepsref38_Valid.f kj2 l0_0 l0_1).bind fun t540 => (if t539 = t540 then (if (t507 == t509) = true then (if t508 = t510 then (if bt517.2.2 = bt525.2.2 then ((ancepsref38_Equal.f kj2 bt517.1 bt517.2.1 bt525.1 bt525.2.1).bind fun t541 => (some t541)) else (some false)) else (some false)) else (some false)) else (some false)))))))) = some r := H
    have A17 := Aside0.mk A170
    clear A170
    replace H := Option.bind_eq_some_iff.mp H
    obtain ⟨⟨t511, t514⟩, A180, H⟩ := H
    replace H : ((table_Vital.f kj2 t511 t514).bind fun bt517 => ((ancepsref38_Vital.f kj2 l0_0 l0_1).bind fun bt525 => ((ancepslaw38_own.f l0_0 l0_1).bind fun bt533 => ((table_Valid.f kj2 bt533.1 bt533.2).bind fun t539 => ((ancepsref38_Valid.f kj2 l0_0 l0_1).bind fun t540 => (if t539 = t540 then (if (t507 == t509) = true then (if t508 = t510 then (if bt517.2.2 = bt525.2.2 then ((ancepsref38_Equal.f kj2 bt517.1 bt517.2.1 bt525.1 bt525.2.1).bind fun t541 => (some t541)) else (some false)) else (some false)) else (some false)) else (some false))))))) = some r := H
    have A18 := Aside0.mk A180
    clear A180
    replace H := Option.bind_eq_some_iff.mp H
    obtain ⟨⟨t517, t520, t523⟩, A190, H⟩ := H
    replace H : ((ancepsref38_Vital.f kj2 l0_0 l0_1).bind fun bt525 => ((ancepslaw38_own.f l0_0 l0_1).bind fun bt533 => ((table_Valid.f kj2 bt533.1 bt533.2).bind fun t539 => ((ancepsref38_Valid.f kj2 l0_0 l0_1).bind fun t540 => (if t539 = t540 then (if (t507 == t509) = true then (if t508 = t510 then (if t523 = bt525.2.2 then ((ancepsref38_Equal.f kj2 t517 t520 bt525.1 bt525.2.1).bind fun t541 => (some t541)) else (some false)) else (some false)) else (some false)) else (some false)))))) = some r := H
    have A19 := Aside0.mk A190
    clear A190
    replace H := Option.bind_eq_some_iff.mp H
    obtain ⟨⟨t525, t528, t531⟩, A200, H⟩ := H
    replace H : ((ancepslaw38_own.f l0_0 l0_1).bind fun bt533 => ((table_Valid.f kj2 bt533.1 bt533.2).bind fun t539 => ((ancepsref38_Valid.f kj2 l0_0 l0_1).bind fun t540 => (if t539 = t540 then (if (t507 == t509) = true then (if t508 = t510 then (if t523 = t531 then ((ancepsref38_Equal.f kj2 t517 t520 t525 t528).bind fun t541 => (some t541)) else (some false)) else (some false)) else (some false)) else (some false))))) = some r := H
    have A20 := Aside0.mk A200
    clear A200
    have HC21 := Aside0.mk H
    clear H
    have hcz22_0 : wc.cell? ⟨gb497, 0, none⟩ = some (.slice A0_0 l0_0.length c0_0) := (blk_cell BK497.out 0).trans rfl
    have hcz22_1 : wc.cell? ⟨gb497, 1, none⟩ = some (.slice A0_1 l0_1.length c0_1) := (blk_cell BK497.out 1).trans rfl
    have hfz22_0 := blk_frozen BK497.out 0
    have hfz22_1 := blk_frozen BK497.out 1
    go_upto_region 7 with (first | ((with_reducible refine gate_callee (f := 21) rfl ?_); refine goesL_ (some 23) rfl rfl Try.func21 zK rfl #[.agg #[.slice A0_0 l0_0.length c0_0, .slice A0_1 l0_1.length c0_1]] rfl zM ?_; (with_reducible refine (ancepslaw38_own.calls _ _ l0_0 _ _ l0_1 t501 t504 _ ?side1 ?side2 ?side3 ?side4 A15.out).mono ?_); (case side1 => repeat (first | exact (Kd.C_below HR0_0.out HB.out) | (with_reducible refine Kd.C_alloc ?_ _) | (with_reducible refine Kd.C_drewN ?_ _) | (with_reducible refine Kd.C_drew ?_))); (case side2 => exact HC0_0.out); (case side3 => repeat (first | exact (Kd.C_below HR0_1.out HB.out) | (with_reducible refine Kd.C_alloc ?_ _) | (with_reducible refine Kd.C_drewN ?_ _) | (with_reducible refine Kd.C_drew ?_))); (case side4 => exact HC0_1.out); rintro e w23 ⟨v502, v505, rfl, ho0, ho1, hb⟩; refine ⟨_, rfl, ?_⟩; have n0_ := Aside0.mk (Kd.R_lower ho0 (below_size zB)); have n1_ := Aside0.mk (Kd.R_lower ho1 (below_size zB)); have n2_ := Aside0.mk (blk_below (g := gb497) (o := .cells #[.slice A0_0 l0_0.length c0_0, .slice A0_1 l0_1.length c0_1] 29 (0, 0)) (zk BK497) hb); have n3_ := Aside0.mk (below_step zB hb); clear BK497; clear HB; have HO503 := n0_; have HO506 := n1_; have BK497 := n2_; have HB := n3_; clear n0_ n1_ n2_ n3_; (try clear hb); (try clear hb2); (try clear hk); (try clear hi); (try clear ho0); (try clear ho1); obtain ⟨Ao24, co24, eo24⟩ := Kd.R_slice HO503.out; subst eo24; obtain ⟨Ao25, co25, eo25⟩ := Kd.R_slice HO506.out; subst eo25) | ((with_reducible refine gate_callee (f := 20) rfl ?_); refine goesL_ (some 25) rfl rfl Try.func20 zK rfl #[.agg #[.slice Ao24 t501.length co24, .slice Ao25 t504.length co25], .int .i64 a1] rfl zM ?_; (with_reducible refine (table_Has.calls kj2 _ _ t501 _ _ t504 a1 t507 t508 _ ?side1 ?side2 ?side3 ?side4 A16.out).mono ?_); (case side1 => repeat (first | exact (Kd.R_reads' HO503.out).2.2 | (with_reducible refine Kd.C_alloc ?_ _) | (with_reducible refine Kd.C_drewN ?_ _) | (with_reducible refine Kd.C_drew ?_))); (case side2 => exact (Kd.R_reads' HO503.out).2.1); (case side3 => repeat (first | exact (Kd.R_reads' HO506.out).2.2 | (with_reducible refine Kd.C_alloc ?_ _) | (with_reducible refine Kd.C_drewN ?_ _) | (with_reducible refine Kd.C_drew ?_))); (case side4 => exact (Kd.R_reads' HO506.out).2.1); rintro e w26 ⟨rfl, hb⟩; refine ⟨_, rfl, ?_⟩; have n0_ := Aside0.mk (Kd.R_below (zR HO503) hb); have n1_ := Aside0.mk (Kd.R_below (zR HO506) hb); have n2_ := Aside0.mk (blk_below (g := gb497) (o := .cells #[.slice A0_0 l0_0.length c0_0, .slice A0_1 l0_1.length c0_1] 29 (0, 0)) (zk BK497) hb); have n3_ := Aside0.mk (below_step zB hb); clear HO503; clear HO506; clear BK497; clear HB; have HO503 := n0_; have HO506 := n1_; have BK497 := n2_; have HB := n3_; clear n0_ n1_ n2_ n3_; (try clear hb); (try clear hb2); (try clear hk); (try clear hi); have hcz27_0 : w26.cell? ⟨gb497, 0, none⟩ = some (.slice A0_0 l0_0.length c0_0) := (blk_cell BK497.out 0).trans rfl; have hcz27_1 : w26.cell? ⟨gb497, 1, none⟩ = some (.slice A0_1 l0_1.length c0_1) := (blk_cell BK497.out 1).trans rfl; have hfz27_0 := blk_frozen BK497.out 0; have hfz27_1 := blk_frozen BK497.out 1) | ((with_reducible refine gate_callee (f := 22) rfl ?_); refine goesL_ (some 31) rfl rfl Try.func22 zK rfl #[.agg #[.slice A0_0 l0_0.length c0_0, .slice A0_1 l0_1.length c0_1], .int .i64 a1] rfl zM ?_; (with_reducible refine (ancepsref38_Has.calls kj2 _ _ l0_0 _ _ l0_1 a1 t509 t510 _ ?side1 ?side2 ?side3 ?side4 A17.out).mono ?_); (case side1 => repeat (first | exact (Kd.C_below HR0_0.out HB.out) | (with_reducible refine Kd.C_alloc ?_ _) | (with_reducible refine Kd.C_drewN ?_ _) | (with_reducible refine Kd.C_drew ?_))); (case side2 => exact HC0_0.out); (case side3 => repeat (first | exact (Kd.C_below HR0_1.out HB.out) | (with_reducible refine Kd.C_alloc ?_ _) | (with_reducible refine Kd.C_drewN ?_ _) | (with_reducible refine Kd.C_drew ?_))); (case side4 => exact HC0_1.out); rintro e w28 ⟨rfl, hb⟩; refine ⟨_, rfl, ?_⟩; have n0_ := Aside0.mk (Kd.R_below (zR HO503) hb); have n1_ := Aside0.mk (Kd.R_below (zR HO506) hb); have n2_ := Aside0.mk (blk_below (g := gb497) (o := .cells #[.slice A0_0 l0_0.length c0_0, .slice A0_1 l0_1.length c0_1] 29 (0, 0)) (zk BK497) hb); have n3_ := Aside0.mk (below_step zB hb); clear HO503; clear HO506; clear BK497; clear HB; have HO503 := n0_; have HO506 := n1_; have BK497 := n2_; have HB := n3_; clear n0_ n1_ n2_ n3_; (try clear hb); (try clear hb2); (try clear hk); (try clear hi); have hcz29_0 : w28.cell? ⟨gb497, 0, none⟩ = some (.slice A0_0 l0_0.length c0_0) := (blk_cell BK497.out 0).trans rfl; have hcz29_1 : w28.cell? ⟨gb497, 1, none⟩ = some (.slice A0_1 l0_1.length c0_1) := (blk_cell BK497.out 1).trans rfl; have hfz29_0 := blk_frozen BK497.out 0; have hfz29_1 := blk_frozen BK497.out 1) | ((with_reducible refine gate_callee (f := 21) rfl ?_); refine goesL_ (some 36) rfl rfl Try.func21 zK rfl #[.agg #[.slice A0_0 l0_0.length c0_0, .slice A0_1 l0_1.length c0_1]] rfl zM ?_; (with_reducible refine (ancepslaw38_own.calls _ _ l0_0 _ _ l0_1 t511 t514 _ ?side1 ?side2 ?side3 ?side4 A18.out).mono ?_); (case side1 => repeat (first | exact (Kd.C_below HR0_0.out HB.out) | (with_reducible refine Kd.C_alloc ?_ _) | (with_reducible refine Kd.C_drewN ?_ _) | (with_reducible refine Kd.C_drew ?_))); (case side2 => exact HC0_0.out); (case side3 => repeat (first | exact (Kd.C_below HR0_1.out HB.out) | (with_reducible refine Kd.C_alloc ?_ _) | (with_reducible refine Kd.C_drewN ?_ _) | (with_reducible refine Kd.C_drew ?_))); (case side4 => exact HC0_1.out); rintro e w30 ⟨v512, v515, rfl, ho0, ho1, hb⟩; refine ⟨_, rfl, ?_⟩; have n0_ := Aside0.mk (Kd.R_mono (Kd.R_told (Kd.R_told (Kd.R_old (zR HO503) hb) (Kd.R_base ho0)) (Kd.R_base ho1)) (fun _ h_ => h_.1)); have n1_ := Aside0.mk (Kd.R_mono (Kd.R_told (Kd.R_told (Kd.R_old (zR HO506) hb) (Kd.R_base ho0)) (Kd.R_base ho1)) (fun _ h_ => h_.1)); have n2_ := Aside0.mk (Kd.R_lower (Kd.R_new' (Kd.R_new' ho0 (Kd.R_lt (zR HO503))) (Kd.R_lt (zR HO506))) (below_size zB)); have n3_ := Aside0.mk (Kd.R_lower (Kd.R_new' (Kd.R_new' ho1 (Kd.R_lt (zR HO503))) (Kd.R_lt (zR HO506))) (below_size zB)); have n4_ := Aside0.mk (blk_below (g := gb497) (o := .cells #[.slice A0_0 l0_0.length c0_0, .slice A0_1 l0_1.length c0_1] 29 (0, 0)) (zk BK497) hb); have n5_ := Aside0.mk (below_step zB hb); clear HO503; clear HO506; clear BK497; clear HB; have HO503 := n0_; have HO506 := n1_; have HO513 := n2_; have HO516 := n3_; have BK497 := n4_; have HB := n5_; clear n0_ n1_ n2_ n3_ n4_ n5_; (try clear hb); (try clear hb2); (try clear hk); (try clear hi); (try clear ho0); (try clear ho1); obtain ⟨Ao31, co31, eo31⟩ := Kd.R_slice HO513.out; subst eo31; obtain ⟨Ao32, co32, eo32⟩ := Kd.R_slice HO516.out; subst eo32) | ((with_reducible refine gate_callee (f := 23) rfl ?_); refine goesL_ (some 37) rfl rfl Try.func23 zK rfl #[.agg #[.slice Ao31 t511.length co31, .slice Ao32 t514.length co32]] rfl zM ?_; (with_reducible refine (table_Vital.calls kj2 _ _ t511 _ _ t514 t517 t520 t523 _ ?side1 ?side2 ?side3 ?side4 A19.out).mono ?_); (case side1 => repeat (first | exact (Kd.R_reads' HO513.out).2.2 | (with_reducible refine Kd.C_alloc ?_ _) | (with_reducible refine Kd.C_drewN ?_ _) | (with_reducible refine Kd.C_drew ?_))); (case side2 => exact (Kd.R_reads' HO513.out).2.1); (case side3 => repeat (first | exact (Kd.R_reads' HO516.out).2.2 | (with_reducible refine Kd.C_alloc ?_ _) | (with_reducible refine Kd.C_drewN ?_ _) | (with_reducible refine Kd.C_drew ?_))); (case side4 => exact (Kd.R_reads' HO516.out).2.1); rintro e w33 ⟨v518, v521, rfl, ho0, ho1, hb⟩; refine ⟨_, rfl, ?_⟩; have n0_ := Aside0.mk (Kd.R_mono (Kd.R_told (Kd.R_told (Kd.R_old (zR HO503) hb) (Kd.R_base ho0)) (Kd.R_base ho1)) (fun _ h_ => h_.1)); have n1_ := Aside0.mk (Kd.R_mono (Kd.R_told (Kd.R_told (Kd.R_old (zR HO506) hb) (Kd.R_base ho0)) (Kd.R_base ho1)) (fun _ h_ => h_.1)); have n2_ := Aside0.mk (Kd.R_mono (Kd.R_told (Kd.R_told (Kd.R_old (zR HO513) hb) (Kd.R_base ho0)) (Kd.R_base ho1)) (fun _ h_ => h_.1)); have n3_ := Aside0.mk (Kd.R_mono (Kd.R_told (Kd.R_told (Kd.R_old (zR HO516) hb) (Kd.R_base ho0)) (Kd.R_base ho1)) (fun _ h_ => h_.1)); have n4_ := Aside0.mk (Kd.R_lower (Kd.R_new' (Kd.R_new' (Kd.R_new' (Kd.R_new' ho0 (Kd.R_lt (zR HO503))) (Kd.R_lt (zR HO506))) (Kd.R_lt (zR HO513))) (Kd.R_lt (zR HO516))) (below_size zB)); have n5_ := Aside0.mk (Kd.R_lower (Kd.R_new' (Kd.R_new' (Kd.R_new' (Kd.R_new' ho1 (Kd.R_lt (zR HO503))) (Kd.R_lt (zR HO506))) (Kd.R_lt (zR HO513))) (Kd.R_lt (zR HO516))) (below_size zB)); have n6_ := Aside0.mk (blk_below (g := gb497) (o := .cells #[.slice A0_0 l0_0.length c0_0, .slice A0_1 l0_1.length c0_1] 29 (0, 0)) (zk BK497) hb); have n7_ := Aside0.mk (below_step zB hb); clear HO503; clear HO506; clear HO513; clear HO516; clear BK497; clear HB; have HO503 := n0_; have HO506 := n1_; have HO513 := n2_; have HO516 := n3_; have HO519 := n4_; have HO522 := n5_; have BK497 := n6_; have HB := n7_; clear n0_ n1_ n2_ n3_ n4_ n5_ n6_ n7_; (try clear hb); (try clear hb2); (try clear hk); (try clear hi); (try clear ho0); (try clear ho1)) | ((with_reducible refine gate_dst (N := 9) rfl ?_); refine box_event ?hg (N := 9) ?hd (cs := #[.slice none 0 0, .slice none 0 0]) (t := 29) ?hr ?_; (case hd => rfl); (case hg => rfl); (case hr => first | (go_simp; done) | (go_simp; rfl)); intro gb524 hg w34 hbox hb; have n0_ := Aside0.mk (Kd.R_below (zR HO503) hb); have n1_ := Aside0.mk (Kd.R_below (zR HO506) hb); have n2_ := Aside0.mk (Kd.R_below (zR HO513) hb); have n3_ := Aside0.mk (Kd.R_below (zR HO516) hb); have n4_ := Aside0.mk (Kd.R_below (zR HO519) hb); have n5_ := Aside0.mk (Kd.R_below (zR HO522) hb); have n6_ := Aside0.mk (blk_below (g := gb497) (o := .cells #[.slice A0_0 l0_0.length c0_0, .slice A0_1 l0_1.length c0_1] 29 (0, 0)) (zk BK497) hb); have n7_ := Aside0.mk (below_step zB hb); have n8_ := Aside0.mk (hbox); have n9_ := Aside0.mk ((by rw [hg]; exact (below_size zB) : w.heap.size ≤ gb524)); have n10_ := Aside0.mk ((by rw [hg]; exact (below_size zB) : w.heap.size ≤ gb524)); have n11_ := Aside0.mk ((by rw [hg]; exact Nat.ne_of_lt (blk_lt (g := gb497) (o := .cells #[.slice A0_0 l0_0.length c0_0, .slice A0_1 l0_1.length c0_1] 29 (0, 0)) (zk BK497)) : gb497 ≠ gb524)); have n12_ := Aside0.mk ((by rw [hg]; exact Nat.ne_of_gt (blk_lt (g := gb497) (o := .cells #[.slice A0_0 l0_0.length c0_0, .slice A0_1 l0_1.length c0_1] 29 (0, 0)) (zk BK497)) : gb524 ≠ gb497)); clear HO503; clear HO506; clear HO513; clear HO516; clear HO519; clear HO522; clear BK497; clear HB; have HO503 := n0_; have HO506 := n1_; have HO513 := n2_; have HO516 := n3_; have HO519 := n4_; have HO522 := n5_; have BK497 := n6_; have HB := n7_; have BK524 := n8_; have GW524 := n9_; have GE524 := n10_; have NB497_524 := n11_; have NB524_497 := n12_; clear n0_ n1_ n2_ n3_ n4_ n5_ n6_ n7_ n8_ n9_ n10_ n11_ n12_; clear hb hbox hg; obtain ⟨Ao35, co35, eo35⟩ := Kd.R_slice HO519.out; subst eo35; have hnb36 := NB524_497.out; have hnc36 := NB497_524.out; have hcz37_0 : w34.cell? ⟨gb524, 0, none⟩ = some (.slice none 0 0) := (blk_cell BK524.out 0).trans rfl; have hcz37_1 : w34.cell? ⟨gb524, 1, none⟩ = some (.slice none 0 0) := (blk_cell BK524.out 1).trans rfl; have hfz37_0 := blk_frozen BK524.out 0; have hfz37_1 := blk_frozen BK524.out 1; obtain ⟨Ao38, co38, eo38⟩ := Kd.R_slice HO522.out; subst eo38; have hcz39_0 : w34.cell? ⟨gb497, 0, none⟩ = some (.slice A0_0 l0_0.length c0_0) := (blk_cell BK497.out 0).trans rfl; have hcz39_1 : w34.cell? ⟨gb497, 1, none⟩ = some (.slice A0_1 l0_1.length c0_1) := (blk_cell BK497.out 1).trans rfl; have hfz39_0 := blk_frozen BK497.out 0; have hfz39_1 := blk_frozen BK497.out 1) | ((with_reducible refine gate_callee (f := 24) rfl ?_); refine goesL_ (some 42) rfl rfl Try.func24 zK rfl #[.agg #[.slice A0_0 l0_0.length c0_0, .slice A0_1 l0_1.length c0_1]] rfl zM ?_; (with_reducible refine (ancepsref38_Vital.calls kj2 _ _ l0_0 _ _ l0_1 t525 t528 t531 _ ?side1 ?side2 ?side3 ?side4 A20.out).mono ?_); (case side1 => exact Kd.C_below HR0_0.out zB); (case side2 => exact HC0_0.out); (case side3 => exact Kd.C_below HR0_1.out zB); (case side4 => exact HC0_1.out); rintro e w40 ⟨v526, v529, rfl, ho0, ho1, hb⟩; refine ⟨_, rfl, ?_⟩; have n0_ := Aside0.mk (Kd.R_mono (Kd.R_told (Kd.R_told (Kd.R_old (by (with_reducible repeat (first | apply Kd.R_alloc | apply Kd.R_drewN | apply Kd.R_drew)); exact (Kd.R_mono (Kd.R_far (p := ⟨gb524, 1, none⟩) (Kd.R_far (p := ⟨gb524, 0, none⟩) (Kd.R_types HO503.out BK524.out (by decide)) (fun _ hk => hk.2) (.slice Ao35 t517.length co35)) (fun _ hk => hk.2) (.slice Ao38 t520.length co38)) (fun _ h_ => h_.1))) hb) (Kd.R_base ho0)) (Kd.R_base ho1)) (fun _ h_ => h_.1)); have n1_ := Aside0.mk (Kd.R_mono (Kd.R_told (Kd.R_told (Kd.R_old (by (with_reducible repeat (first | apply Kd.R_alloc | apply Kd.R_drewN | apply Kd.R_drew)); exact (Kd.R_mono (Kd.R_far (p := ⟨gb524, 1, none⟩) (Kd.R_far (p := ⟨gb524, 0, none⟩) (Kd.R_types HO506.out BK524.out (by decide)) (fun _ hk => hk.2) (.slice Ao35 t517.length co35)) (fun _ hk => hk.2) (.slice Ao38 t520.length co38)) (fun _ h_ => h_.1))) hb) (Kd.R_base ho0)) (Kd.R_base ho1)) (fun _ h_ => h_.1)); have n2_ := Aside0.mk (Kd.R_mono (Kd.R_told (Kd.R_told (Kd.R_old (by (with_reducible repeat (first | apply Kd.R_alloc | apply Kd.R_drewN | apply Kd.R_drew)); exact (Kd.R_mono (Kd.R_far (p := ⟨gb524, 1, none⟩) (Kd.R_far (p := ⟨gb524, 0, none⟩) (Kd.R_types HO513.out BK524.out (by decide)) (fun _ hk => hk.2) (.slice Ao35 t517.length co35)) (fun _ hk => hk.2) (.slice Ao38 t520.length co38)) (fun _ h_ => h_.1))) hb) (Kd.R_base ho0)) (Kd.R_base ho1)) (fun _ h_ => h_.1)); have n3_ := Aside0.mk (Kd.R_mono (Kd.R_told (Kd.R_told (Kd.R_old (by (with_reducible repeat (first | apply Kd.R_alloc | apply Kd.R_drewN | apply Kd.R_drew)); exact (Kd.R_mono (Kd.R_far (p := ⟨gb524, 1, none⟩) (Kd.R_far (p := ⟨gb524, 0, none⟩) (Kd.R_types HO516.out BK524.out (by decide)) (fun _ hk => hk.2) (.slice Ao35 t517.length co35)) (fun _ hk => hk.2) (.slice Ao38 t520.length co38)) (fun _ h_ => h_.1))) hb) (Kd.R_base ho0)) (Kd.R_base ho1)) (fun _ h_ => h_.1)); have n4_ := Aside0.mk (Kd.R_mono (Kd.R_told (Kd.R_told (Kd.R_old (by (with_reducible repeat (first | apply Kd.R_alloc | apply Kd.R_drewN | apply Kd.R_drew)); exact (Kd.R_mono (Kd.R_far (p := ⟨gb524, 1, none⟩) (Kd.R_far (p := ⟨gb524, 0, none⟩) (Kd.R_types HO519.out BK524.out (by decide)) (fun _ hk => hk.2) (.slice Ao35 t517.length co35)) (fun _ hk => hk.2) (.slice Ao38 t520.length co38)) (fun _ h_ => h_.1))) hb) (Kd.R_base ho0)) (Kd.R_base ho1)) (fun _ h_ => h_.1)); have n5_ := Aside0.mk (Kd.R_mono (Kd.R_told (Kd.R_told (Kd.R_old (by (with_reducible repeat (first | apply Kd.R_alloc | apply Kd.R_drewN | apply Kd.R_drew)); exact (Kd.R_mono (Kd.R_far (p := ⟨gb524, 1, none⟩) (Kd.R_far (p := ⟨gb524, 0, none⟩) (Kd.R_types HO522.out BK524.out (by decide)) (fun _ hk => hk.2) (.slice Ao35 t517.length co35)) (fun _ hk => hk.2) (.slice Ao38 t520.length co38)) (fun _ h_ => h_.1))) hb) (Kd.R_base ho0)) (Kd.R_base ho1)) (fun _ h_ => h_.1)); have n6_ := Aside0.mk (Kd.R_lower (Kd.R_new' (Kd.R_new' (Kd.R_new' (Kd.R_new' (Kd.R_new' (Kd.R_new' ho0 (Kd.R_lt (by (with_reducible repeat (first | apply Kd.R_alloc | apply Kd.R_drewN | apply Kd.R_drew)); exact (Kd.R_mono (Kd.R_far (p := ⟨gb524, 1, none⟩) (Kd.R_far (p := ⟨gb524, 0, none⟩) (Kd.R_types HO503.out BK524.out (by decide)) (fun _ hk => hk.2) (.slice Ao35 t517.length co35)) (fun _ hk => hk.2) (.slice Ao38 t520.length co38)) (fun _ h_ => h_.1))))) (Kd.R_lt (by (with_reducible repeat (first | apply Kd.R_alloc | apply Kd.R_drewN | apply Kd.R_drew)); exact (Kd.R_mono (Kd.R_far (p := ⟨gb524, 1, none⟩) (Kd.R_far (p := ⟨gb524, 0, none⟩) (Kd.R_types HO506.out BK524.out (by decide)) (fun _ hk => hk.2) (.slice Ao35 t517.length co35)) (fun _ hk => hk.2) (.slice Ao38 t520.length co38)) (fun _ h_ => h_.1))))) (Kd.R_lt (by (with_reducible repeat (first | apply Kd.R_alloc | apply Kd.R_drewN | apply Kd.R_drew)); exact (Kd.R_mono (Kd.R_far (p := ⟨gb524, 1, none⟩) (Kd.R_far (p := ⟨gb524, 0, none⟩) (Kd.R_types HO513.out BK524.out (by decide)) (fun _ hk => hk.2) (.slice Ao35 t517.length co35)) (fun _ hk => hk.2) (.slice Ao38 t520.length co38)) (fun _ h_ => h_.1))))) (Kd.R_lt (by (with_reducible repeat (first | apply Kd.R_alloc | apply Kd.R_drewN | apply Kd.R_drew)); exact (Kd.R_mono (Kd.R_far (p := ⟨gb524, 1, none⟩) (Kd.R_far (p := ⟨gb524, 0, none⟩) (Kd.R_types HO516.out BK524.out (by decide)) (fun _ hk => hk.2) (.slice Ao35 t517.length co35)) (fun _ hk => hk.2) (.slice Ao38 t520.length co38)) (fun _ h_ => h_.1))))) (Kd.R_lt (by (with_reducible repeat (first | apply Kd.R_alloc | apply Kd.R_drewN | apply Kd.R_drew)); exact (Kd.R_mono (Kd.R_far (p := ⟨gb524, 1, none⟩) (Kd.R_far (p := ⟨gb524, 0, none⟩) (Kd.R_types HO519.out BK524.out (by decide)) (fun _ hk => hk.2) (.slice Ao35 t517.length co35)) (fun _ hk => hk.2) (.slice Ao38 t520.length co38)) (fun _ h_ => h_.1))))) (Kd.R_lt (by (with_reducible repeat (first | apply Kd.R_alloc | apply Kd.R_drewN | apply Kd.R_drew)); exact (Kd.R_mono (Kd.R_far (p := ⟨gb524, 1, none⟩) (Kd.R_far (p := ⟨gb524, 0, none⟩) (Kd.R_types HO522.out BK524.out (by decide)) (fun _ hk => hk.2) (.slice Ao35 t517.length co35)) (fun _ hk => hk.2) (.slice Ao38 t520.length co38)) (fun _ h_ => h_.1))))) (below_size zB)); have n7_ := Aside0.mk (Kd.R_lower (Kd.R_new' (Kd.R_new' (Kd.R_new' (Kd.R_new' (Kd.R_new' (Kd.R_new' ho1 (Kd.R_lt (by (with_reducible repeat (first | apply Kd.R_alloc | apply Kd.R_drewN | apply Kd.R_drew)); exact (Kd.R_mono (Kd.R_far (p := ⟨gb524, 1, none⟩) (Kd.R_far (p := ⟨gb524, 0, none⟩) (Kd.R_types HO503.out BK524.out (by decide)) (fun _ hk => hk.2) (.slice Ao35 t517.length co35)) (fun _ hk => hk.2) (.slice Ao38 t520.length co38)) (fun _ h_ => h_.1))))) (Kd.R_lt (by (with_reducible repeat (first | apply Kd.R_alloc | apply Kd.R_drewN | apply Kd.R_drew)); exact (Kd.R_mono (Kd.R_far (p := ⟨gb524, 1, none⟩) (Kd.R_far (p := ⟨gb524, 0, none⟩) (Kd.R_types HO506.out BK524.out (by decide)) (fun _ hk => hk.2) (.slice Ao35 t517.length co35)) (fun _ hk => hk.2) (.slice Ao38 t520.length co38)) (fun _ h_ => h_.1))))) (Kd.R_lt (by (with_reducible repeat (first | apply Kd.R_alloc | apply Kd.R_drewN | apply Kd.R_drew)); exact (Kd.R_mono (Kd.R_far (p := ⟨gb524, 1, none⟩) (Kd.R_far (p := ⟨gb524, 0, none⟩) (Kd.R_types HO513.out BK524.out (by decide)) (fun _ hk => hk.2) (.slice Ao35 t517.length co35)) (fun _ hk => hk.2) (.slice Ao38 t520.length co38)) (fun _ h_ => h_.1))))) (Kd.R_lt (by (with_reducible repeat (first | apply Kd.R_alloc | apply Kd.R_drewN | apply Kd.R_drew)); exact (Kd.R_mono (Kd.R_far (p := ⟨gb524, 1, none⟩) (Kd.R_far (p := ⟨gb524, 0, none⟩) (Kd.R_types HO516.out BK524.out (by decide)) (fun _ hk => hk.2) (.slice Ao35 t517.length co35)) (fun _ hk => hk.2) (.slice Ao38 t520.length co38)) (fun _ h_ => h_.1))))) (Kd.R_lt (by (with_reducible repeat (first | apply Kd.R_alloc | apply Kd.R_drewN | apply Kd.R_drew)); exact (Kd.R_mono (Kd.R_far (p := ⟨gb524, 1, none⟩) (Kd.R_far (p := ⟨gb524, 0, none⟩) (Kd.R_types HO519.out BK524.out (by decide)) (fun _ hk => hk.2) (.slice Ao35 t517.length co35)) (fun _ hk => hk.2) (.slice Ao38 t520.length co38)) (fun _ h_ => h_.1))))) (Kd.R_lt (by (with_reducible repeat (first | apply Kd.R_alloc | apply Kd.R_drewN | apply Kd.R_drew)); exact (Kd.R_mono (Kd.R_far (p := ⟨gb524, 1, none⟩) (Kd.R_far (p := ⟨gb524, 0, none⟩) (Kd.R_types HO522.out BK524.out (by decide)) (fun _ hk => hk.2) (.slice Ao35 t517.length co35)) (fun _ hk => hk.2) (.slice Ao38 t520.length co38)) (fun _ h_ => h_.1))))) (below_size zB)); have n8_ := Aside0.mk (blk_below (g := gb497) (o := .cells #[.slice A0_0 l0_0.length c0_0, .slice A0_1 l0_1.length c0_1] 29 (0, 0)) (by (with_reducible repeat (first | refine blk_drewN ?_ _ | refine blk_drew ?_ | refine blk_alloc ?_ _)); refine blk_far ?_ NB497_524.out _; (with_reducible repeat (first | refine blk_drewN ?_ _ | refine blk_drew ?_ | refine blk_alloc ?_ _)); refine blk_far ?_ NB497_524.out _; (with_reducible repeat (first | refine blk_drewN ?_ _ | refine blk_drew ?_ | refine blk_alloc ?_ _)); exact BK497.out) hb); have n9_ := Aside0.mk (blk_below (g := gb524) (o := .cells #[.slice Ao35 t517.length co35, .slice Ao38 t520.length co38] 29 (0, 0)) (by (with_reducible repeat (first | refine blk_drewN ?_ _ | refine blk_drew ?_ | refine blk_alloc ?_ _)); refine blk_put (cs := #[.slice Ao35 t517.length co35, .slice none 0 0]) ?_ 1 _ rfl; (with_reducible repeat (first | refine blk_drewN ?_ _ | refine blk_drew ?_ | refine blk_alloc ?_ _)); refine blk_put (cs := #[.slice none 0 0, .slice none 0 0]) ?_ 0 _ rfl; (with_reducible repeat (first | refine blk_drewN ?_ _ | refine blk_drew ?_ | refine blk_alloc ?_ _)); exact BK524.out) hb); have n10_ := Aside0.mk (below_step zB hb); clear HO503; clear HO506; clear HO513; clear HO516; clear HO519; clear HO522; clear BK497; clear BK524; clear HB; have HO503 := n0_; have HO506 := n1_; have HO513 := n2_; have HO516 := n3_; have HO519 := n4_; have HO522 := n5_; have HO527 := n6_; have HO530 := n7_; have BK497 := n8_; have BK524 := n9_; have HB := n10_; clear n0_ n1_ n2_ n3_ n4_ n5_ n6_ n7_ n8_ n9_ n10_; (try clear hb); (try clear hb2); (try clear hk); (try clear hi); (try clear ho0); (try clear ho1)) | ((with_reducible refine gate_dst (N := 11) rfl ?_); refine box_event ?hg (N := 11) ?hd (cs := #[.slice none 0 0, .slice none 0 0]) (t := 29) ?hr ?_; (case hd => rfl); (case hg => rfl); (case hr => first | (go_simp; done) | (go_simp; rfl)); intro gb532 hg w41 hbox hb; have n0_ := Aside0.mk (Kd.R_below (zR HO503) hb); have n1_ := Aside0.mk (Kd.R_below (zR HO506) hb); have n2_ := Aside0.mk (Kd.R_below (zR HO513) hb); have n3_ := Aside0.mk (Kd.R_below (zR HO516) hb); have n4_ := Aside0.mk (Kd.R_below (zR HO519) hb); have n5_ := Aside0.mk (Kd.R_below (zR HO522) hb); have n6_ := Aside0.mk (Kd.R_below (zR HO527) hb); have n7_ := Aside0.mk (Kd.R_below (zR HO530) hb); have n8_ := Aside0.mk (blk_below (g := gb497) (o := .cells #[.slice A0_0 l0_0.length c0_0, .slice A0_1 l0_1.length c0_1] 29 (0, 0)) (zk BK497) hb); have n9_ := Aside0.mk (blk_below (g := gb524) (o := .cells #[.slice Ao35 t517.length co35, .slice Ao38 t520.length co38] 29 (0, 0)) (zk BK524) hb); have n10_ := Aside0.mk (below_step zB hb); have n11_ := Aside0.mk (hbox); have n12_ := Aside0.mk ((by rw [hg]; exact (below_size zB) : w.heap.size ≤ gb532)); have n13_ := Aside0.mk ((by rw [hg]; exact (below_size zB) : w.heap.size ≤ gb532)); have n14_ := Aside0.mk ((by rw [hg]; exact Nat.ne_of_lt (blk_lt (g := gb497) (o := .cells #[.slice A0_0 l0_0.length c0_0, .slice A0_1 l0_1.length c0_1] 29 (0, 0)) (zk BK497)) : gb497 ≠ gb532)); have n15_ := Aside0.mk ((by rw [hg]; exact Nat.ne_of_gt (blk_lt (g := gb497) (o := .cells #[.slice A0_0 l0_0.length c0_0, .slice A0_1 l0_1.length c0_1] 29 (0, 0)) (zk BK497)) : gb532 ≠ gb497)); have n16_ := Aside0.mk ((by rw [hg]; exact Nat.ne_of_lt (blk_lt (g := gb524) (o := .cells #[.slice Ao35 t517.length co35, .slice Ao38 t520.length co38] 29 (0, 0)) (zk BK524)) : gb524 ≠ gb532)); have n17_ := Aside0.mk ((by rw [hg]; exact Nat.ne_of_gt (blk_lt (g := gb524) (o := .cells #[.slice Ao35 t517.length co35, .slice Ao38 t520.length co38] 29 (0, 0)) (zk BK524)) : gb532 ≠ gb524)); clear HO503; clear HO506; clear HO513; clear HO516; clear HO519; clear HO522; clear HO527; clear HO530; clear BK497; clear BK524; clear HB; have HO503 := n0_; have HO506 := n1_; have HO513 := n2_; have HO516 := n3_; have HO519 := n4_; have HO522 := n5_; have HO527 := n6_; have HO530 := n7_; have BK497 := n8_; have BK524 := n9_; have HB := n10_; have BK532 := n11_; have GW532 := n12_; have GE532 := n13_; have NB497_532 := n14_; have NB532_497 := n15_; have NB524_532 := n16_; have NB532_524 := n17_; clear n0_ n1_ n2_ n3_ n4_ n5_ n6_ n7_ n8_ n9_ n10_ n11_ n12_ n13_ n14_ n15_ n16_ n17_; clear hb hbox hg; obtain ⟨Ao42, co42, eo42⟩ := Kd.R_slice HO527.out; subst eo42; have hnb43 := NB532_497.out; have hnc43 := NB497_532.out; have hnb44 := NB532_524.out; have hnc44 := NB524_532.out; have hcz45_0 : w41.cell? ⟨gb532, 0, none⟩ = some (.slice none 0 0) := (blk_cell BK532.out 0).trans rfl; have hcz45_1 : w41.cell? ⟨gb532, 1, none⟩ = some (.slice none 0 0) := (blk_cell BK532.out 1).trans rfl; have hfz45_0 := blk_frozen BK532.out 0; have hfz45_1 := blk_frozen BK532.out 1; obtain ⟨Ao46, co46, eo46⟩ := Kd.R_slice HO530.out; subst eo46))
    (try simp only [Act.put, List.setIfInBounds_toArray, List.set_cons_zero, List.set_cons_succ])
    have H := HC21.out
    clear HC21
    replace H := Option.bind_eq_some_iff.mp H
    obtain ⟨⟨t533, t536⟩, A470, H⟩ := H
    replace H : ((table_Valid.f kj2 t533 t536).bind fun t539 => ((ancepsref38_Valid.f kj2 l0_0 l0_1).bind fun t540 => (if t539 = t540 then (if (t507 == t509) = true then (if t508 = t510 then (if t523 = t531 then ((ancepsref38_Equal.f kj2 t517 t520 t525 t528).bind fun t541 => (some t541)) else (some false)) else (some false)) else (some false)) else (some false)))) = some r := H
    have A47 := Aside0.mk A470
    clear A470
    replace H := Option.bind_eq_some_iff.mp H
    obtain ⟨t539, A480, H⟩ := H
    replace H : ((ancepsref38_Valid.f kj2 l0_0 l0_1).bind fun t540 => (if t539 = t540 then (if (t507 == t509) = true then (if t508 = t510 then (if t523 = t531 then ((ancepsref38_Equal.f kj2 t517 t520 t525 t528).bind fun t541 => (some t541)) else (some false)) else (some false)) else (some false)) else (some false))) = some r := H
    have A48 := Aside0.mk A480
    clear A480
    replace H := Option.bind_eq_some_iff.mp H
    obtain ⟨t540, A490, H⟩ := H
    replace H : (if t539 = t540 then (if (t507 == t509) = true then (if t508 = t510 then (if t523 = t531 then ((ancepsref38_Equal.f kj2 t517 t520 t525 t528).bind fun t541 => (some t541)) else (some false)) else (some false)) else (some false)) else (some false)) = some r := H
    have A49 := Aside0.mk A490
    clear A490
    by_cases c50 : t539 = t540
    ·rw [if_pos c50] at H
     have c50b0 : (t539 == t540) = true := beq_iff_eq.mpr c50
     have c50b1 : (t539 != t540) = false := bne_eq_false_iff_eq.mpr c50
     clear c50
     (first | rw [c50b0] | (simp only [i64_w, i32_w]; rw [c50b0]) | skip)
     (try rw [c50b1])
     by_cases c51 : (t507 == t509) = true
     ·rw [if_pos c51] at H
      have c51b0 : (t507 == t509) = true := c51
      (try (have c51b1 : decide (t507 = t509) = true := by simpa using c51))
      (try (have c51b2 : (t507 == t509) = true := by simpa using c51))
      clear c51
      by_cases c52 : t508 = t510
      ·rw [if_pos c52] at H
       have c52b0 : (t508 == t510) = true := beq_iff_eq.mpr c52
       have c52b1 : (t508 != t510) = false := bne_eq_false_iff_eq.mpr c52
       clear c52
       by_cases c53 : t523 = t531
       ·rw [if_pos c53] at H
        have c53b0 : (t523 == t531) = true := beq_iff_eq.mpr c53
        have c53b1 : (t523 != t531) = false := bne_eq_false_iff_eq.mpr c53
        clear c53
        replace H := Option.bind_eq_some_iff.mp H
        obtain ⟨t541, A540, H⟩ := H
        replace H : (some t541) = some r := H
        have A54 := Aside0.mk A540
        clear A540
        obtain rfl := Option.some.inj H
        try go_wp2
        have n0_ : Aside0 (Kd.R (Kd.int .i64) 3 ((w41.setCell ⟨gb532, 0, none⟩ (.slice Ao42 t525.length co42)).setCell ⟨gb532, 1, none⟩ (.slice Ao46 t528.length co46)) w.heap.size (fun k_ => some k_ ≠ (.slice Ao25 t504.length co25 : Value).ownBlock ∧ some k_ ≠ (.slice Ao31 t511.length co31 : Value).ownBlock ∧ some k_ ≠ (.slice Ao32 t514.length co32 : Value).ownBlock ∧ some k_ ≠ (.slice Ao35 t517.length co35 : Value).ownBlock ∧ some k_ ≠ (.slice Ao38 t520.length co38 : Value).ownBlock ∧ some k_ ≠ (.slice Ao42 t525.length co42 : Value).ownBlock ∧ some k_ ≠ (.slice Ao46 t528.length co46 : Value).ownBlock) (.slice Ao24 t501.length co24) t501) := ⟨by (with_reducible repeat (first | apply Kd.R_alloc | apply Kd.R_drewN | apply Kd.R_drew)); exact Kd.R_mono (Kd.R_far (p := ⟨gb532, 1, none⟩) (Kd.R_far (p := ⟨gb532, 0, none⟩) (Kd.R_types HO503.out BK532.out (by decide)) (fun _ hk => hk.2) (.slice Ao42 t525.length co42)) (fun _ hk => hk.2) (.slice Ao46 t528.length co46)) (fun _ hk => ⟨hk.1.1.1.1.1.1.1, ⟨hk.1.1.1.1.1.1.2, ⟨hk.1.1.1.1.1.2, ⟨hk.1.1.1.1.2, ⟨hk.1.1.1.2, ⟨hk.1.1.2, hk.1.2⟩⟩⟩⟩⟩⟩)⟩
        have n1_ : Aside0 (Kd.R (Kd.int .i64) 3 ((w41.setCell ⟨gb532, 0, none⟩ (.slice Ao42 t525.length co42)).setCell ⟨gb532, 1, none⟩ (.slice Ao46 t528.length co46)) w.heap.size (fun k_ => some k_ ≠ (.slice Ao24 t501.length co24 : Value).ownBlock ∧ some k_ ≠ (.slice Ao31 t511.length co31 : Value).ownBlock ∧ some k_ ≠ (.slice Ao32 t514.length co32 : Value).ownBlock ∧ some k_ ≠ (.slice Ao35 t517.length co35 : Value).ownBlock ∧ some k_ ≠ (.slice Ao38 t520.length co38 : Value).ownBlock ∧ some k_ ≠ (.slice Ao42 t525.length co42 : Value).ownBlock ∧ some k_ ≠ (.slice Ao46 t528.length co46 : Value).ownBlock) (.slice Ao25 t504.length co25) t504) := ⟨by (with_reducible repeat (first | apply Kd.R_alloc | apply Kd.R_drewN | apply Kd.R_drew)); exact Kd.R_mono (Kd.R_far (p := ⟨gb532, 1, none⟩) (Kd.R_far (p := ⟨gb532, 0, none⟩) (Kd.R_types HO506.out BK532.out (by decide)) (fun _ hk => hk.2) (.slice Ao42 t525.length co42)) (fun _ hk => hk.2) (.slice Ao46 t528.length co46)) (fun _ hk => ⟨hk.1.1.1.1.1.1.1, ⟨hk.1.1.1.1.1.1.2, ⟨hk.1.1.1.1.1.2, ⟨hk.1.1.1.1.2, ⟨hk.1.1.1.2, ⟨hk.1.1.2, hk.1.2⟩⟩⟩⟩⟩⟩)⟩
        have n2_ : Aside0 (Kd.R (Kd.int .i64) 3 ((w41.setCell ⟨gb532, 0, none⟩ (.slice Ao42 t525.length co42)).setCell ⟨gb532, 1, none⟩ (.slice Ao46 t528.length co46)) w.heap.size (fun k_ => some k_ ≠ (.slice Ao24 t501.length co24 : Value).ownBlock ∧ some k_ ≠ (.slice Ao25 t504.length co25 : Value).ownBlock ∧ some k_ ≠ (.slice Ao32 t514.length co32 : Value).ownBlock ∧ some k_ ≠ (.slice Ao35 t517.length co35 : Value).ownBlock ∧ some k_ ≠ (.slice Ao38 t520.length co38 : Value).ownBlock ∧ some k_ ≠ (.slice Ao42 t525.length co42 : Value).ownBlock ∧ some k_ ≠ (.slice Ao46 t528.length co46 : Value).ownBlock) (.slice Ao31 t511.length co31) t511) := ⟨by (with_reducible repeat (first | apply Kd.R_alloc | apply Kd.R_drewN | apply Kd.R_drew)); exact Kd.R_mono (Kd.R_far (p := ⟨gb532, 1, none⟩) (Kd.R_far (p := ⟨gb532, 0, none⟩) (Kd.R_types HO513.out BK532.out (by decide)) (fun _ hk => hk.2) (.slice Ao42 t525.length co42)) (fun _ hk => hk.2) (.slice Ao46 t528.length co46)) (fun _ hk => ⟨hk.1.1.1.1.1.1.2, ⟨hk.1.1.1.1.1.2, ⟨hk.1.1.1.1.1.1.1, ⟨hk.1.1.1.1.2, ⟨hk.1.1.1.2, ⟨hk.1.1.2, hk.1.2⟩⟩⟩⟩⟩⟩)⟩
        have n3_ : Aside0 (Kd.R (Kd.int .i64) 3 ((w41.setCell ⟨gb532, 0, none⟩ (.slice Ao42 t525.length co42)).setCell ⟨gb532, 1, none⟩ (.slice Ao46 t528.length co46)) w.heap.size (fun k_ => some k_ ≠ (.slice Ao24 t501.length co24 : Value).ownBlock ∧ some k_ ≠ (.slice Ao25 t504.length co25 : Value).ownBlock ∧ some k_ ≠ (.slice Ao31 t511.length co31 : Value).ownBlock ∧ some k_ ≠ (.slice Ao35 t517.length co35 : Value).ownBlock ∧ some k_ ≠ (.slice Ao38 t520.length co38 : Value).ownBlock ∧ some k_ ≠ (.slice Ao42 t525.length co42 : Value).ownBlock ∧ some k_ ≠ (.slice Ao46 t528.length co46 : Value).ownBlock) (.slice Ao32 t514.length co32) t514) := ⟨by (with_reducible repeat (first | apply Kd.R_alloc | apply Kd.R_drewN | apply Kd.R_drew)); exact Kd.R_mono (Kd.R_far (p := ⟨gb532, 1, none⟩) (Kd.R_far (p := ⟨gb532, 0, none⟩) (Kd.R_types HO516.out BK532.out (by decide)) (fun _ hk => hk.2) (.slice Ao42 t525.length co42)) (fun _ hk => hk.2) (.slice Ao46 t528.length co46)) (fun _ hk => ⟨hk.1.1.1.1.1.1.2, ⟨hk.1.1.1.1.1.2, ⟨hk.1.1.1.1.1.1.1, ⟨hk.1.1.1.1.2, ⟨hk.1.1.1.2, ⟨hk.1.1.2, hk.1.2⟩⟩⟩⟩⟩⟩)⟩
        have n4_ : Aside0 (Kd.R (Kd.int .i64) 3 ((w41.setCell ⟨gb532, 0, none⟩ (.slice Ao42 t525.length co42)).setCell ⟨gb532, 1, none⟩ (.slice Ao46 t528.length co46)) w.heap.size (fun k_ => some k_ ≠ (.slice Ao24 t501.length co24 : Value).ownBlock ∧ some k_ ≠ (.slice Ao25 t504.length co25 : Value).ownBlock ∧ some k_ ≠ (.slice Ao31 t511.length co31 : Value).ownBlock ∧ some k_ ≠ (.slice Ao32 t514.length co32 : Value).ownBlock ∧ some k_ ≠ (.slice Ao38 t520.length co38 : Value).ownBlock ∧ some k_ ≠ (.slice Ao42 t525.length co42 : Value).ownBlock ∧ some k_ ≠ (.slice Ao46 t528.length co46 : Value).ownBlock) (.slice Ao35 t517.length co35) t517) := ⟨by (with_reducible repeat (first | apply Kd.R_alloc | apply Kd.R_drewN | apply Kd.R_drew)); exact Kd.R_mono (Kd.R_far (p := ⟨gb532, 1, none⟩) (Kd.R_far (p := ⟨gb532, 0, none⟩) (Kd.R_types HO519.out BK532.out (by decide)) (fun _ hk => hk.2) (.slice Ao42 t525.length co42)) (fun _ hk => hk.2) (.slice Ao46 t528.length co46)) (fun _ hk => ⟨hk.1.1.1.1.1.1.2, ⟨hk.1.1.1.1.1.2, ⟨hk.1.1.1.1.2, ⟨hk.1.1.1.2, ⟨hk.1.1.1.1.1.1.1, ⟨hk.1.1.2, hk.1.2⟩⟩⟩⟩⟩⟩)⟩
        have n5_ : Aside0 (Kd.R (Kd.int .i64) 3 ((w41.setCell ⟨gb532, 0, none⟩ (.slice Ao42 t525.length co42)).setCell ⟨gb532, 1, none⟩ (.slice Ao46 t528.length co46)) w.heap.size (fun k_ => some k_ ≠ (.slice Ao24 t501.length co24 : Value).ownBlock ∧ some k_ ≠ (.slice Ao25 t504.length co25 : Value).ownBlock ∧ some k_ ≠ (.slice Ao31 t511.length co31 : Value).ownBlock ∧ some k_ ≠ (.slice Ao32 t514.length co32 : Value).ownBlock ∧ some k_ ≠ (.slice Ao35 t517.length co35 : Value).ownBlock ∧ some k_ ≠ (.slice Ao42 t525.length co42 : Value).ownBlock ∧ some k_ ≠ (.slice Ao46 t528.length co46 : Value).ownBlock) (.slice Ao38 t520.length co38) t520) := ⟨by (with_reducible repeat (first | apply Kd.R_alloc | apply Kd.R_drewN | apply Kd.R_drew)); exact Kd.R_mono (Kd.R_far (p := ⟨gb532, 1, none⟩) (Kd.R_far (p := ⟨gb532, 0, none⟩) (Kd.R_types HO522.out BK532.out (by decide)) (fun _ hk => hk.2) (.slice Ao42 t525.length co42)) (fun _ hk => hk.2) (.slice Ao46 t528.length co46)) (fun _ hk => ⟨hk.1.1.1.1.1.1.2, ⟨hk.1.1.1.1.1.2, ⟨hk.1.1.1.1.2, ⟨hk.1.1.1.2, ⟨hk.1.1.1.1.1.1.1, ⟨hk.1.1.2, hk.1.2⟩⟩⟩⟩⟩⟩)⟩
        have n6_ : Aside0 (Kd.R (Kd.int .i64) 3 ((w41.setCell ⟨gb532, 0, none⟩ (.slice Ao42 t525.length co42)).setCell ⟨gb532, 1, none⟩ (.slice Ao46 t528.length co46)) w.heap.size (fun k_ => some k_ ≠ (.slice Ao24 t501.length co24 : Value).ownBlock ∧ some k_ ≠ (.slice Ao25 t504.length co25 : Value).ownBlock ∧ some k_ ≠ (.slice Ao31 t511.length co31 : Value).ownBlock ∧ some k_ ≠ (.slice Ao32 t514.length co32 : Value).ownBlock ∧ some k_ ≠ (.slice Ao35 t517.length co35 : Value).ownBlock ∧ some k_ ≠ (.slice Ao38 t520.length co38 : Value).ownBlock ∧ some k_ ≠ (.slice Ao46 t528.length co46 : Value).ownBlock) (.slice Ao42 t525.length co42) t525) := ⟨by (with_reducible repeat (first | apply Kd.R_alloc | apply Kd.R_drewN | apply Kd.R_drew)); exact Kd.R_mono (Kd.R_far (p := ⟨gb532, 1, none⟩) (Kd.R_far (p := ⟨gb532, 0, none⟩) (Kd.R_types HO527.out BK532.out (by decide)) (fun _ hk => hk.2) (.slice Ao42 t525.length co42)) (fun _ hk => hk.2) (.slice Ao46 t528.length co46)) (fun _ hk => ⟨hk.1.1.1.1.1.1.2, ⟨hk.1.1.1.1.1.2, ⟨hk.1.1.1.1.2, ⟨hk.1.1.1.2, ⟨hk.1.1.2, ⟨hk.1.2, hk.1.1.1.1.1.1.1⟩⟩⟩⟩⟩⟩)⟩
        have n7_ : Aside0 (Kd.R (Kd.int .i64) 3 ((w41.setCell ⟨gb532, 0, none⟩ (.slice Ao42 t525.length co42)).setCell ⟨gb532, 1, none⟩ (.slice Ao46 t528.length co46)) w.heap.size (fun k_ => some k_ ≠ (.slice Ao24 t501.length co24 : Value).ownBlock ∧ some k_ ≠ (.slice Ao25 t504.length co25 : Value).ownBlock ∧ some k_ ≠ (.slice Ao31 t511.length co31 : Value).ownBlock ∧ some k_ ≠ (.slice Ao32 t514.length co32 : Value).ownBlock ∧ some k_ ≠ (.slice Ao35 t517.length co35 : Value).ownBlock ∧ some k_ ≠ (.slice Ao38 t520.length co38 : Value).ownBlock ∧ some k_ ≠ (.slice Ao42 t525.length co42 : Value).ownBlock) (.slice Ao46 t528.length co46) t528) := ⟨by (with_reducible repeat (first | apply Kd.R_alloc | apply Kd.R_drewN | apply Kd.R_drew)); exact Kd.R_mono (Kd.R_far (p := ⟨gb532, 1, none⟩) (Kd.R_far (p := ⟨gb532, 0, none⟩) (Kd.R_types HO530.out BK532.out (by decide)) (fun _ hk => hk.2) (.slice Ao42 t525.length co42)) (fun _ hk => hk.2) (.slice Ao46 t528.length co46)) (fun _ hk => ⟨hk.1.1.1.1.1.1.2, ⟨hk.1.1.1.1.1.2, ⟨hk.1.1.1.1.2, ⟨hk.1.1.1.2, ⟨hk.1.1.2, ⟨hk.1.2, hk.1.1.1.1.1.1.1⟩⟩⟩⟩⟩⟩)⟩
        have n8_ : Aside0 (((w41.setCell ⟨gb532, 0, none⟩ (.slice Ao42 t525.length co42)).setCell ⟨gb532, 1, none⟩ (.slice Ao46 t528.length co46)).heap[gb497]? = some (.cells #[.slice A0_0 l0_0.length c0_0, .slice A0_1 l0_1.length c0_1] 29 (0, 0))) := ⟨by (with_reducible repeat (first | refine blk_drewN ?_ _ | refine blk_drew ?_ | refine blk_alloc ?_ _)); refine blk_far ?_ NB497_532.out _; (with_reducible repeat (first | refine blk_drewN ?_ _ | refine blk_drew ?_ | refine blk_alloc ?_ _)); refine blk_far ?_ NB497_532.out _; (with_reducible repeat (first | refine blk_drewN ?_ _ | refine blk_drew ?_ | refine blk_alloc ?_ _)); exact BK497.out⟩
        have n9_ : Aside0 (((w41.setCell ⟨gb532, 0, none⟩ (.slice Ao42 t525.length co42)).setCell ⟨gb532, 1, none⟩ (.slice Ao46 t528.length co46)).heap[gb524]? = some (.cells #[.slice Ao35 t517.length co35, .slice Ao38 t520.length co38] 29 (0, 0))) := ⟨by (with_reducible repeat (first | refine blk_drewN ?_ _ | refine blk_drew ?_ | refine blk_alloc ?_ _)); refine blk_far ?_ NB524_532.out _; (with_reducible repeat (first | refine blk_drewN ?_ _ | refine blk_drew ?_ | refine blk_alloc ?_ _)); refine blk_far ?_ NB524_532.out _; (with_reducible repeat (first | refine blk_drewN ?_ _ | refine blk_drew ?_ | refine blk_alloc ?_ _)); exact BK524.out⟩
        have n10_ : Aside0 (((w41.setCell ⟨gb532, 0, none⟩ (.slice Ao42 t525.length co42)).setCell ⟨gb532, 1, none⟩ (.slice Ao46 t528.length co46)).heap[gb532]? = some (.cells #[.slice Ao42 t525.length co42, .slice Ao46 t528.length co46] 29 (0, 0))) := ⟨by (with_reducible repeat (first | refine blk_drewN ?_ _ | refine blk_drew ?_ | refine blk_alloc ?_ _)); refine blk_put (cs := #[.slice Ao42 t525.length co42, .slice none 0 0]) ?_ 1 _ rfl; (with_reducible repeat (first | refine blk_drewN ?_ _ | refine blk_drew ?_ | refine blk_alloc ?_ _)); refine blk_put (cs := #[.slice none 0 0, .slice none 0 0]) ?_ 0 _ rfl; (with_reducible repeat (first | refine blk_drewN ?_ _ | refine blk_drew ?_ | refine blk_alloc ?_ _)); exact BK532.out⟩
        have n11_ : Aside0 (Below w.heap.size w ((w41.setCell ⟨gb532, 0, none⟩ (.slice Ao42 t525.length co42)).setCell ⟨gb532, 1, none⟩ (.slice Ao46 t528.length co46))) := ⟨by repeat (first | (with_reducible first | exact HB.out | apply below_alloc | apply pw_below_drewN | apply below_drew1 | refine below_set ?_ GE497.out | refine below_set ?_ GE524.out | refine below_set ?_ GE532.out) | exact HB.out)⟩
        (try clear HO503)
        (try clear HO506)
        (try clear HO513)
        (try clear HO516)
        (try clear HO519)
        (try clear HO522)
        (try clear HO527)
        (try clear HO530)
        (try clear BK497)
        (try clear BK524)
        (try clear BK532)
        (try clear HB)
        generalize ((w41.setCell ⟨gb532, 0, none⟩ (.slice Ao42 t525.length co42)).setCell ⟨gb532, 1, none⟩ (.slice Ao46 t528.length co46)) = w55 at n0_ n1_ n2_ n3_ n4_ n5_ n6_ n7_ n8_ n9_ n10_ n11_ ⊢
        have HO503 := n0_
        have HO506 := n1_
        have HO513 := n2_
        have HO516 := n3_
        have HO519 := n4_
        have HO522 := n5_
        have HO527 := n6_
        have HO530 := n7_
        have BK497 := n8_
        have BK524 := n9_
        have BK532 := n10_
        have HB := n11_
        clear n0_ n1_ n2_ n3_ n4_ n5_ n6_ n7_ n8_ n9_ n10_ n11_
        have n0_ := Aside0.mk (Kd.R_drew HO503.out)
        have n1_ := Aside0.mk (Kd.R_drew HO506.out)
        have n2_ := Aside0.mk (Kd.R_drew HO513.out)
        have n3_ := Aside0.mk (Kd.R_drew HO516.out)
        have n4_ := Aside0.mk (Kd.R_drew HO519.out)
        have n5_ := Aside0.mk (Kd.R_drew HO522.out)
        have n6_ := Aside0.mk (Kd.R_drew HO527.out)
        have n7_ := Aside0.mk (Kd.R_drew HO530.out)
        have n8_ := Aside0.mk (blk_drew BK497.out)
        have n9_ := Aside0.mk (blk_drew BK524.out)
        have n10_ := Aside0.mk (blk_drew BK532.out)
        have n11_ := Aside0.mk (below_drew1 HB.out)
        clear HO503
        clear HO506
        clear HO513
        clear HO516
        clear HO519
        clear HO522
        clear HO527
        clear HO530
        clear BK497
        clear BK524
        clear BK532
        clear HB
        have HO503 := n0_
        have HO506 := n1_
        have HO513 := n2_
        have HO516 := n3_
        have HO519 := n4_
        have HO522 := n5_
        have HO527 := n6_
        have HO530 := n7_
        have BK497 := n8_
        have BK524 := n9_
        have BK532 := n10_
        have HB := n11_
        clear n0_ n1_ n2_ n3_ n4_ n5_ n6_ n7_ n8_ n9_ n10_ n11_
        refine start_ (n := 27) (S := fun w' => w'.cell? ⟨gb497, 0, none⟩ = some (.slice A0_0 l0_0.length c0_0) ∧ w'.cell? ⟨gb497, 1, none⟩ = some (.slice A0_1 l0_1.length c0_1) ∧ w'.cell? ⟨gb524, 0, none⟩ = some (.slice Ao35 t517.length co35) ∧ w'.cell? ⟨gb524, 1, none⟩ = some (.slice Ao38 t520.length co38) ∧ w'.cell? ⟨gb532, 0, none⟩ = some (.slice Ao42 t525.length co42) ∧ w'.cell? ⟨gb532, 1, none⟩ = some (.slice Ao46 t528.length co46)) (ds := []) #[false, false, false, false, false, false, false, false, false, false, false, false, false, false, false, false, false, false, false, false, false, false, false, false, false, false, false] zK rfl rfl ⟨(blk_cell BK497.out 0).trans rfl, (blk_cell BK497.out 1).trans rfl, (blk_cell BK524.out 0).trans rfl, (blk_cell BK524.out 1).trans rfl, (blk_cell BK532.out 0).trans rfl, (blk_cell BK532.out 1).trans rfl⟩ (fun hHeld => ?_); refine with_tabW ancepslaw38_TableValid.tab7 ancepslaw38_TableValid.bits7 (fun HT_ HW_ => ?_)
        generalize w55.drew = w56 at HO503 HO506 HO513 HO516 HO519 HO522 HO527 HO530 BK497 BK524 BK532 HB hHeld ⊢
        refine take_ (i := 0) (N := some 45) (v := ?_) (a' := ?_) #[true, false, false, false, false, false, false, false, false, false, false, false, false, false, false, false, false, false, false, false, false, false, false, false, false, false, false] rfl rfl (take_ofW HT_.out HW_.out zK) (fun _ _ _ h => h) (Or.inl ⟨by rfl, ?_⟩) hHeld ?_ ?_
        rotate_left
        ·rintro w' ⟨s0, s1, s2, s3, s4, s5⟩
         go_simp
         with_reducible rfl
        rotate_left
        ·simp only [Act.put, List.setIfInBounds_toArray, List.set_cons_zero, List.set_cons_succ, i64_w, i32_w]
         rfl
        refine take_ (i := 3) (N := some 48) (v := ?_) (a' := ?_) #[true, false, false, true, false, false, false, false, false, false, false, false, false, false, false, false, false, false, false, false, false, false, false, false, false, false, false] rfl rfl (take_ofW HT_.out HW_.out zK) (fun _ _ _ h => h) (Or.inl ⟨by rfl, ?_⟩) hHeld ?_ ?_
        rotate_left
        ·rintro w' ⟨s0, s1, s2, s3, s4, s5⟩
         go_simp
         with_reducible rfl
        rotate_left
        ·simp only [Act.put, List.setIfInBounds_toArray, List.set_cons_zero, List.set_cons_succ, i64_w, i32_w]
         rfl
        refine one_ (i := 1) (N := some 46) #[true, true, false, true, false, false, false, false, false, false, false, false, false, false, false, false, false, false, false, false, false, false, false, false, false, false, false] rfl rfl (one_of HT_.out zK) (by decide) (fun K hK => ?_)
        refine goes_ Try.func21 zK rfl #[.agg #[.slice A0_0 l0_0.length c0_0, .slice A0_1 l0_1.length c0_1]] (by rfl) rfl rfl zM ?_
        with_reducible refine (ancepslaw38_own.calls _ _ l0_0 _ _ l0_1 t533 t536 _ ?side1 ?side2 ?side3 ?side4 A47.out).mono ?_
        (case side1 => repeat (first | exact (Kd.C_below HR0_0.out HB.out) | (with_reducible refine Kd.C_alloc ?_ _) | (with_reducible refine Kd.C_drewN ?_ _) | (with_reducible refine Kd.C_drew ?_)))
        (case side2 => exact HC0_0.out)
        (case side3 => repeat (first | exact (Kd.C_below HR0_1.out HB.out) | (with_reducible refine Kd.C_alloc ?_ _) | (with_reducible refine Kd.C_drewN ?_ _) | (with_reducible refine Kd.C_drew ?_)))
        (case side4 => exact HC0_1.out)
        rintro e w57 ⟨v534, v537, rfl, ho0, ho1, hb⟩
        refine ⟨_, rfl, ?_⟩
        have n0_ := Aside0.mk (Kd.R_mono (Kd.R_told (Kd.R_told (Kd.R_old (zR HO503) hb) (Kd.R_base ho0)) (Kd.R_base ho1)) (fun _ h_ => h_.1))
        have n1_ := Aside0.mk (Kd.R_mono (Kd.R_told (Kd.R_told (Kd.R_old (zR HO506) hb) (Kd.R_base ho0)) (Kd.R_base ho1)) (fun _ h_ => h_.1))
        have n2_ := Aside0.mk (Kd.R_mono (Kd.R_told (Kd.R_told (Kd.R_old (zR HO513) hb) (Kd.R_base ho0)) (Kd.R_base ho1)) (fun _ h_ => h_.1))
        have n3_ := Aside0.mk (Kd.R_mono (Kd.R_told (Kd.R_told (Kd.R_old (zR HO516) hb) (Kd.R_base ho0)) (Kd.R_base ho1)) (fun _ h_ => h_.1))
        have n4_ := Aside0.mk (Kd.R_mono (Kd.R_told (Kd.R_told (Kd.R_old (zR HO519) hb) (Kd.R_base ho0)) (Kd.R_base ho1)) (fun _ h_ => h_.1))
        have n5_ := Aside0.mk (Kd.R_mono (Kd.R_told (Kd.R_told (Kd.R_old (zR HO522) hb) (Kd.R_base ho0)) (Kd.R_base ho1)) (fun _ h_ => h_.1))
        have n6_ := Aside0.mk (Kd.R_mono (Kd.R_told (Kd.R_told (Kd.R_old (zR HO527) hb) (Kd.R_base ho0)) (Kd.R_base ho1)) (fun _ h_ => h_.1))
        have n7_ := Aside0.mk (Kd.R_mono (Kd.R_told (Kd.R_told (Kd.R_old (zR HO530) hb) (Kd.R_base ho0)) (Kd.R_base ho1)) (fun _ h_ => h_.1))
        have n8_ := Aside0.mk (Kd.R_lower (Kd.R_new' (Kd.R_new' (Kd.R_new' (Kd.R_new' (Kd.R_new' (Kd.R_new' (Kd.R_new' (Kd.R_new' ho0 (Kd.R_lt (zR HO503))) (Kd.R_lt (zR HO506))) (Kd.R_lt (zR HO513))) (Kd.R_lt (zR HO516))) (Kd.R_lt (zR HO519))) (Kd.R_lt (zR HO522))) (Kd.R_lt (zR HO527))) (Kd.R_lt (zR HO530))) (below_size zB))
        have n9_ := Aside0.mk (Kd.R_lower (Kd.R_new' (Kd.R_new' (Kd.R_new' (Kd.R_new' (Kd.R_new' (Kd.R_new' (Kd.R_new' (Kd.R_new' ho1 (Kd.R_lt (zR HO503))) (Kd.R_lt (zR HO506))) (Kd.R_lt (zR HO513))) (Kd.R_lt (zR HO516))) (Kd.R_lt (zR HO519))) (Kd.R_lt (zR HO522))) (Kd.R_lt (zR HO527))) (Kd.R_lt (zR HO530))) (below_size zB))
        have n10_ := Aside0.mk (blk_below (g := gb497) (o := .cells #[.slice A0_0 l0_0.length c0_0, .slice A0_1 l0_1.length c0_1] 29 (0, 0)) (zk BK497) hb)
        have n11_ := Aside0.mk (blk_below (g := gb524) (o := .cells #[.slice Ao35 t517.length co35, .slice Ao38 t520.length co38] 29 (0, 0)) (zk BK524) hb)
        have n12_ := Aside0.mk (blk_below (g := gb532) (o := .cells #[.slice Ao42 t525.length co42, .slice Ao46 t528.length co46] 29 (0, 0)) (zk BK532) hb)
        have n13_ := Aside0.mk (below_step zB hb)
        clear HO503
        clear HO506
        clear HO513
        clear HO516
        clear HO519
        clear HO522
        clear HO527
        clear HO530
        clear BK497
        clear BK524
        clear BK532
        clear HB
        have HO503 := n0_
        have HO506 := n1_
        have HO513 := n2_
        have HO516 := n3_
        have HO519 := n4_
        have HO522 := n5_
        have HO527 := n6_
        have HO530 := n7_
        have HO535 := n8_
        have HO538 := n9_
        have BK497 := n10_
        have BK524 := n11_
        have BK532 := n12_
        have HB := n13_
        clear n0_ n1_ n2_ n3_ n4_ n5_ n6_ n7_ n8_ n9_ n10_ n11_ n12_ n13_
        (try clear hb)
        (try clear hb2)
        (try clear hk)
        (try clear hi)
        (try clear ho0)
        (try clear ho1)
        obtain ⟨Ao58, co58, eo58⟩ := Kd.R_slice HO535.out
        (first | subst eo58 | (injection eo58 with f1_ f2_ f3_; have f4_ := f1_.symm; have f5_ := f3_.symm; clear f1_ f2_ f3_; subst f4_; subst f5_))
        obtain ⟨Ao59, co59, eo59⟩ := Kd.R_slice HO538.out
        (first | subst eo59 | (injection eo59 with f1_ f2_ f3_; have f4_ := f1_.symm; have f5_ := f3_.symm; clear f1_ f2_ f3_; subst f4_; subst f5_))
        refine hK.out _ _ ⟨(blk_cell BK497.out 0).trans rfl, (blk_cell BK497.out 1).trans rfl, (blk_cell BK524.out 0).trans rfl, (blk_cell BK524.out 1).trans rfl, (blk_cell BK532.out 0).trans rfl, (blk_cell BK532.out 1).trans rfl⟩ (fun hHeld => ?_)
        clear hK K
        refine norm_ (a' := ?_) ?_ ?_
        rotate_left
        ·show Act.put _ (some 46) _ = _
         simp only [Act.put, List.setIfInBounds_toArray, List.set_cons_zero, List.set_cons_succ, i64_w, i32_w]
         rfl
        refine one_ (i := 2) (N := some 47) #[true, true, true, true, false, false, false, false, false, false, false, false, false, false, false, false, false, false, false, false, false, false, false, false, false, false, false] rfl rfl (one_of HT_.out zK) (by decide) (fun K hK => ?_)
        refine goes_ Try.func25 zK rfl #[.agg #[.slice Ao58 t533.length co58, .slice Ao59 t536.length co59]] (by rfl) rfl rfl zM ?_
        with_reducible refine (table_Valid.calls kj2 _ _ t533 _ _ t536 t539 _ ?side1 ?side2 ?side3 ?side4 A48.out).mono ?_
        (case side1 => repeat (first | exact (Kd.R_reads' HO535.out).2.2 | (with_reducible refine Kd.C_alloc ?_ _) | (with_reducible refine Kd.C_drewN ?_ _) | (with_reducible refine Kd.C_drew ?_)))
        (case side2 => exact (Kd.R_reads' HO535.out).2.1)
        (case side3 => repeat (first | exact (Kd.R_reads' HO538.out).2.2 | (with_reducible refine Kd.C_alloc ?_ _) | (with_reducible refine Kd.C_drewN ?_ _) | (with_reducible refine Kd.C_drew ?_)))
        (case side4 => exact (Kd.R_reads' HO538.out).2.1)
        rintro e w60 ⟨rfl, hb⟩
        refine ⟨_, rfl, ?_⟩
        have n0_ := Aside0.mk (Kd.R_below (zR HO503) hb)
        have n1_ := Aside0.mk (Kd.R_below (zR HO506) hb)
        have n2_ := Aside0.mk (Kd.R_below (zR HO513) hb)
        have n3_ := Aside0.mk (Kd.R_below (zR HO516) hb)
        have n4_ := Aside0.mk (Kd.R_below (zR HO519) hb)
        have n5_ := Aside0.mk (Kd.R_below (zR HO522) hb)
        have n6_ := Aside0.mk (Kd.R_below (zR HO527) hb)
        have n7_ := Aside0.mk (Kd.R_below (zR HO530) hb)
        have n8_ := Aside0.mk (Kd.R_below (zR HO535) hb)
        have n9_ := Aside0.mk (Kd.R_below (zR HO538) hb)
        have n10_ := Aside0.mk (blk_below (g := gb497) (o := .cells #[.slice A0_0 l0_0.length c0_0, .slice A0_1 l0_1.length c0_1] 29 (0, 0)) (zk BK497) hb)
        have n11_ := Aside0.mk (blk_below (g := gb524) (o := .cells #[.slice Ao35 t517.length co35, .slice Ao38 t520.length co38] 29 (0, 0)) (zk BK524) hb)
        have n12_ := Aside0.mk (blk_below (g := gb532) (o := .cells #[.slice Ao42 t525.length co42, .slice Ao46 t528.length co46] 29 (0, 0)) (zk BK532) hb)
        have n13_ := Aside0.mk (below_step zB hb)
        clear HO503
        clear HO506
        clear HO513
        clear HO516
        clear HO519
        clear HO522
        clear HO527
        clear HO530
        clear HO535
        clear HO538
        clear BK497
        clear BK524
        clear BK532
        clear HB
        have HO503 := n0_
        have HO506 := n1_
        have HO513 := n2_
        have HO516 := n3_
        have HO519 := n4_
        have HO522 := n5_
        have HO527 := n6_
        have HO530 := n7_
        have HO535 := n8_
        have HO538 := n9_
        have BK497 := n10_
        have BK524 := n11_
        have BK532 := n12_
        have HB := n13_
        clear n0_ n1_ n2_ n3_ n4_ n5_ n6_ n7_ n8_ n9_ n10_ n11_ n12_ n13_
        (try clear hb)
        (try clear hb2)
        (try clear hk)
        (try clear hi)
        refine hK.out _ _ ⟨(blk_cell BK497.out 0).trans rfl, (blk_cell BK497.out 1).trans rfl, (blk_cell BK524.out 0).trans rfl, (blk_cell BK524.out 1).trans rfl, (blk_cell BK532.out 0).trans rfl, (blk_cell BK532.out 1).trans rfl⟩ (fun hHeld => ?_)
        clear hK K
        refine norm_ (a' := ?_) ?_ ?_
        rotate_left
        ·show Act.put _ (some 47) _ = _
         simp only [Act.put, List.setIfInBounds_toArray, List.set_cons_zero, List.set_cons_succ, i64_w, i32_w]
         rfl
        refine one_ (i := 4) (N := some 49) #[true, true, true, true, true, false, false, false, false, false, false, false, false, false, false, false, false, false, false, false, false, false, false, false, false, false, false] rfl rfl (one_of HT_.out zK) (by decide) (fun K hK => ?_)
        refine goes_ Try.func26 zK rfl #[.agg #[.slice A0_0 l0_0.length c0_0, .slice A0_1 l0_1.length c0_1]] (by rfl) rfl rfl zM ?_
        with_reducible refine (ancepsref38_Valid.calls kj2 _ _ l0_0 _ _ l0_1 t540 _ ?side1 ?side2 ?side3 ?side4 A49.out).mono ?_
        (case side1 => repeat (first | exact (Kd.C_below HR0_0.out HB.out) | (with_reducible refine Kd.C_alloc ?_ _) | (with_reducible refine Kd.C_drewN ?_ _) | (with_reducible refine Kd.C_drew ?_)))
        (case side2 => exact HC0_0.out)
        (case side3 => repeat (first | exact (Kd.C_below HR0_1.out HB.out) | (with_reducible refine Kd.C_alloc ?_ _) | (with_reducible refine Kd.C_drewN ?_ _) | (with_reducible refine Kd.C_drew ?_)))
        (case side4 => exact HC0_1.out)
        rintro e w61 ⟨rfl, hb⟩
        refine ⟨_, rfl, ?_⟩
        have n0_ := Aside0.mk (Kd.R_below (zR HO503) hb)
        have n1_ := Aside0.mk (Kd.R_below (zR HO506) hb)
        have n2_ := Aside0.mk (Kd.R_below (zR HO513) hb)
        have n3_ := Aside0.mk (Kd.R_below (zR HO516) hb)
        have n4_ := Aside0.mk (Kd.R_below (zR HO519) hb)
        have n5_ := Aside0.mk (Kd.R_below (zR HO522) hb)
        have n6_ := Aside0.mk (Kd.R_below (zR HO527) hb)
        have n7_ := Aside0.mk (Kd.R_below (zR HO530) hb)
        have n8_ := Aside0.mk (Kd.R_below (zR HO535) hb)
        have n9_ := Aside0.mk (Kd.R_below (zR HO538) hb)
        have n10_ := Aside0.mk (blk_below (g := gb497) (o := .cells #[.slice A0_0 l0_0.length c0_0, .slice A0_1 l0_1.length c0_1] 29 (0, 0)) (zk BK497) hb)
        have n11_ := Aside0.mk (blk_below (g := gb524) (o := .cells #[.slice Ao35 t517.length co35, .slice Ao38 t520.length co38] 29 (0, 0)) (zk BK524) hb)
        have n12_ := Aside0.mk (blk_below (g := gb532) (o := .cells #[.slice Ao42 t525.length co42, .slice Ao46 t528.length co46] 29 (0, 0)) (zk BK532) hb)
        have n13_ := Aside0.mk (below_step zB hb)
        clear HO503
        clear HO506
        clear HO513
        clear HO516
        clear HO519
        clear HO522
        clear HO527
        clear HO530
        clear HO535
        clear HO538
        clear BK497
        clear BK524
        clear BK532
        clear HB
        have HO503 := n0_
        have HO506 := n1_
        have HO513 := n2_
        have HO516 := n3_
        have HO519 := n4_
        have HO522 := n5_
        have HO527 := n6_
        have HO530 := n7_
        have HO535 := n8_
        have HO538 := n9_
        have BK497 := n10_
        have BK524 := n11_
        have BK532 := n12_
        have HB := n13_
        clear n0_ n1_ n2_ n3_ n4_ n5_ n6_ n7_ n8_ n9_ n10_ n11_ n12_ n13_
        (try clear hb)
        (try clear hb2)
        (try clear hk)
        (try clear hi)
        refine hK.out _ _ ⟨(blk_cell BK497.out 0).trans rfl, (blk_cell BK497.out 1).trans rfl, (blk_cell BK524.out 0).trans rfl, (blk_cell BK524.out 1).trans rfl, (blk_cell BK532.out 0).trans rfl, (blk_cell BK532.out 1).trans rfl⟩ (fun hHeld => ?_)
        clear hK K
        refine norm_ (a' := ?_) ?_ ?_
        rotate_left
        ·show Act.put _ (some 49) _ = _
         simp only [Act.put, List.setIfInBounds_toArray, List.set_cons_zero, List.set_cons_succ, i64_w, i32_w]
         rfl
        refine pure_ (i := 5) (N := some 50) (v := ?_) (a' := ?_) #[true, true, true, true, true, true, false, false, false, false, false, false, false, false, false, false, false, false, false, false, false, false, false, false, false, false, false] rfl rfl (any_of HT_.out zK) (fun _ _ _ h => h) (Or.inl ⟨by rfl, ?_⟩) ?_ ?_
        rotate_left
        ·intro w'
         go_simp
         with_reducible rfl
        rotate_left
        ·simp only [Act.put, List.setIfInBounds_toArray, List.set_cons_zero, List.set_cons_succ, i64_w, i32_w]
         rfl
        refine pure_ (i := 6) (N := some 51) (v := ?_) (a' := ?_) #[true, true, true, true, true, true, true, false, false, false, false, false, false, false, false, false, false, false, false, false, false, false, false, false, false, false, false] rfl rfl (any_of HT_.out zK) (fun _ _ _ h => h) (Or.inl ⟨by rfl, ?_⟩) ?_ ?_
        rotate_left
        ·intro w'
         go_simp
         with_reducible rfl
        rotate_left
        ·simp only [Act.put, List.setIfInBounds_toArray, List.set_cons_zero, List.set_cons_succ, i64_w, i32_w]
         rfl
        refine pure_ (i := 7) (N := some 52) (v := ?_) (a' := ?_) #[true, true, true, true, true, true, true, true, false, false, false, false, false, false, false, false, false, false, false, false, false, false, false, false, false, false, false] rfl rfl (any_of HT_.out zK) (fun _ _ _ h => h) (Or.inl ⟨by rfl, ?_⟩) ?_ ?_
        rotate_left
        ·intro w'
         go_simp
         with_reducible rfl
        rotate_left
        ·simp only [Act.put, List.setIfInBounds_toArray, List.set_cons_zero, List.set_cons_succ, i64_w, i32_w]
         rfl
        refine pure_ (i := 8) (N := some 53) (v := ?_) (a' := ?_) #[true, true, true, true, true, true, true, true, true, false, false, false, false, false, false, false, false, false, false, false, false, false, false, false, false, false, false] rfl rfl (any_of HT_.out zK) (fun _ _ _ h => h) (Or.inl ⟨by rfl, ?_⟩) ?_ ?_
        rotate_left
        ·intro w'
         go_simp
         with_reducible rfl
        rotate_left
        ·simp only [Act.put, List.setIfInBounds_toArray, List.set_cons_zero, List.set_cons_succ, i64_w, i32_w]
         rfl
        refine pure_ (i := 9) (N := some 54) (v := ?_) (a' := ?_) #[true, true, true, true, true, true, true, true, true, true, false, false, false, false, false, false, false, false, false, false, false, false, false, false, false, false, false] rfl rfl (any_of HT_.out zK) (fun _ _ _ h => h) (Or.inl ⟨by rfl, ?_⟩) ?_ ?_
        rotate_left
        ·intro w'
         go_simp
         with_reducible rfl
        rotate_left
        ·simp only [Act.put, List.setIfInBounds_toArray, List.set_cons_zero, List.set_cons_succ, i64_w, i32_w]
         rfl
        refine pure_ (i := 10) (N := some 55) (v := ?_) (a' := ?_) #[true, true, true, true, true, true, true, true, true, true, true, false, false, false, false, false, false, false, false, false, false, false, false, false, false, false, false] rfl rfl (any_of HT_.out zK) (fun _ _ _ h => h) (Or.inl ⟨by rfl, ?_⟩) ?_ ?_
        rotate_left
        ·intro w'
         go_simp
         with_reducible rfl
        rotate_left
        ·simp only [Act.put, List.setIfInBounds_toArray, List.set_cons_zero, List.set_cons_succ, i64_w, i32_w]
         rfl
        refine pure_ (i := 11) (N := some 56) (v := ?_) (a' := ?_) #[true, true, true, true, true, true, true, true, true, true, true, true, false, false, false, false, false, false, false, false, false, false, false, false, false, false, false] rfl rfl (any_of HT_.out zK) (fun _ _ _ h => h) (Or.inl ⟨by rfl, ?_⟩) ?_ ?_
        rotate_left
        ·intro w'
         go_simp
         with_reducible rfl
        rotate_left
        ·simp only [Act.put, List.setIfInBounds_toArray, List.set_cons_zero, List.set_cons_succ, i64_w, i32_w]
         rfl
        refine pure_ (i := 12) (N := some 57) (v := ?_) (a' := ?_) #[true, true, true, true, true, true, true, true, true, true, true, true, true, false, false, false, false, false, false, false, false, false, false, false, false, false, false] rfl rfl (any_of HT_.out zK) (fun _ _ _ h => h) (Or.inl ⟨by rfl, ?_⟩) ?_ ?_
        rotate_left
        ·intro w'
         go_simp
         with_reducible rfl
        rotate_left
        ·simp only [Act.put, List.setIfInBounds_toArray, List.set_cons_zero, List.set_cons_succ, i64_w, i32_w]
         rfl
        refine pure_ (i := 13) (N := some 58) (v := ?_) (a' := ?_) #[true, true, true, true, true, true, true, true, true, true, true, true, true, true, false, false, false, false, false, false, false, false, false, false, false, false, false] rfl rfl (any_of HT_.out zK) (fun _ _ _ h => h) (Or.inl ⟨by rfl, ?_⟩) ?_ ?_
        rotate_left
        ·intro w'
         go_simp
         with_reducible rfl
        rotate_left
        ·simp only [Act.put, List.setIfInBounds_toArray, List.set_cons_zero, List.set_cons_succ, i64_w, i32_w]
         rfl
        refine pure_ (i := 14) (N := some 59) (v := ?_) (a' := ?_) #[true, true, true, true, true, true, true, true, true, true, true, true, true, true, true, false, false, false, false, false, false, false, false, false, false, false, false] rfl rfl (any_of HT_.out zK) (fun _ _ _ h => h) (Or.inl ⟨by rfl, ?_⟩) ?_ ?_
        rotate_left
        ·intro w'
         go_simp
         with_reducible rfl
        rotate_left
        ·simp only [Act.put, List.setIfInBounds_toArray, List.set_cons_zero, List.set_cons_succ, i64_w, i32_w]
         rfl
        refine pure_ (i := 15) (N := some 60) (v := ?_) (a' := ?_) #[true, true, true, true, true, true, true, true, true, true, true, true, true, true, true, true, false, false, false, false, false, false, false, false, false, false, false] rfl rfl (any_of HT_.out zK) (fun _ _ _ h => h) (Or.inl ⟨by rfl, ?_⟩) ?_ ?_
        rotate_left
        ·intro w'
         go_simp
         with_reducible rfl
        rotate_left
        ·simp only [Act.put, List.setIfInBounds_toArray, List.set_cons_zero, List.set_cons_succ, i64_w, i32_w]
         rfl
        refine pure_ (i := 16) (N := some 61) (v := ?_) (a' := ?_) #[true, true, true, true, true, true, true, true, true, true, true, true, true, true, true, true, true, false, false, false, false, false, false, false, false, false, false] rfl rfl (any_of HT_.out zK) (fun _ _ _ h => h) (Or.inl ⟨by rfl, ?_⟩) ?_ ?_
        rotate_left
        ·intro w'
         go_simp
         with_reducible rfl
        rotate_left
        ·simp only [Act.put, List.setIfInBounds_toArray, List.set_cons_zero, List.set_cons_succ, i64_w, i32_w]
         rfl
        refine pure_ (i := 17) (N := some 62) (v := ?_) (a' := ?_) #[true, true, true, true, true, true, true, true, true, true, true, true, true, true, true, true, true, true, false, false, false, false, false, false, false, false, false] rfl rfl (any_of HT_.out zK) (fun _ _ _ h => h) (Or.inl ⟨by rfl, ?_⟩) ?_ ?_
        rotate_left
        ·intro w'
         go_simp
         with_reducible rfl
        rotate_left
        ·simp only [Act.put, List.setIfInBounds_toArray, List.set_cons_zero, List.set_cons_succ, i64_w, i32_w]
         rfl
        refine pure_ (i := 18) (N := some 63) (v := ?_) (a' := ?_) #[true, true, true, true, true, true, true, true, true, true, true, true, true, true, true, true, true, true, true, false, false, false, false, false, false, false, false] rfl rfl (any_of HT_.out zK) (fun _ _ _ h => h) (Or.inl ⟨by rfl, ?_⟩) ?_ ?_
        rotate_left
        ·intro w'
         go_simp
         with_reducible rfl
        rotate_left
        ·simp only [Act.put, List.setIfInBounds_toArray, List.set_cons_zero, List.set_cons_succ, i64_w, i32_w]
         rfl
        refine pure_ (i := 19) (N := some 64) (v := ?_) (a' := ?_) #[true, true, true, true, true, true, true, true, true, true, true, true, true, true, true, true, true, true, true, true, false, false, false, false, false, false, false] rfl rfl (any_of HT_.out zK) (fun _ _ _ h => h) (Or.inl ⟨by rfl, ?_⟩) ?_ ?_
        rotate_left
        ·intro w'
         go_simp
         with_reducible rfl
        rotate_left
        ·simp only [Act.put, List.setIfInBounds_toArray, List.set_cons_zero, List.set_cons_succ, i64_w, i32_w]
         rfl
        refine pure_ (i := 20) (N := some 65) (v := ?_) (a' := ?_) #[true, true, true, true, true, true, true, true, true, true, true, true, true, true, true, true, true, true, true, true, true, false, false, false, false, false, false] rfl rfl (any_of HT_.out zK) (fun _ _ _ h => h) (Or.inl ⟨by rfl, ?_⟩) ?_ ?_
        rotate_left
        ·intro w'
         go_simp
         with_reducible rfl
        rotate_left
        ·simp only [Act.put, List.setIfInBounds_toArray, List.set_cons_zero, List.set_cons_succ, i64_w, i32_w]
         rfl
        refine pure_ (i := 21) (N := some 66) (v := ?_) (a' := ?_) #[true, true, true, true, true, true, true, true, true, true, true, true, true, true, true, true, true, true, true, true, true, true, false, false, false, false, false] rfl rfl (any_of HT_.out zK) (fun _ _ _ h => h) (Or.inl ⟨by rfl, ?_⟩) ?_ ?_
        rotate_left
        ·intro w'
         go_simp
         with_reducible rfl
        rotate_left
        ·simp only [Act.put, List.setIfInBounds_toArray, List.set_cons_zero, List.set_cons_succ, i64_w, i32_w]
         rfl
        refine take_ (i := 22) (N := some 67) (v := ?_) (a' := ?_) #[true, true, true, true, true, true, true, true, true, true, true, true, true, true, true, true, true, true, true, true, true, true, true, false, false, false, false] rfl rfl (take_ofW HT_.out HW_.out zK) (fun _ _ _ h => h) (Or.inl ⟨by rfl, ?_⟩) hHeld ?_ ?_
        rotate_left
        ·rintro w' ⟨s0, s1, s2, s3, s4, s5⟩
         go_simp
         with_reducible rfl
        rotate_left
        ·simp only [Act.put, List.setIfInBounds_toArray, List.set_cons_zero, List.set_cons_succ, i64_w, i32_w]
         rfl
        refine take_ (i := 23) (N := some 68) (v := ?_) (a' := ?_) #[true, true, true, true, true, true, true, true, true, true, true, true, true, true, true, true, true, true, true, true, true, true, true, true, false, false, false] rfl rfl (take_ofW HT_.out HW_.out zK) (fun _ _ _ h => h) (Or.inl ⟨by rfl, ?_⟩) hHeld ?_ ?_
        rotate_left
        ·rintro w' ⟨s0, s1, s2, s3, s4, s5⟩
         go_simp
         with_reducible rfl
        rotate_left
        ·simp only [Act.put, List.setIfInBounds_toArray, List.set_cons_zero, List.set_cons_succ, i64_w, i32_w]
         rfl
        refine one_ (i := 24) (N := some 69) #[true, true, true, true, true, true, true, true, true, true, true, true, true, true, true, true, true, true, true, true, true, true, true, true, true, false, false] rfl rfl (one_of HT_.out zK) (by decide) (fun K hK => ?_)
        refine goes_ Try.func18 zK rfl #[.agg #[.slice Ao35 t517.length co35, .slice Ao38 t520.length co38], .agg #[.slice Ao42 t525.length co42, .slice Ao46 t528.length co46]] (by rfl) rfl rfl zM ?_
        with_reducible refine (ancepsref38_Equal.calls kj2 _ _ t517 _ _ t520 _ _ t525 _ _ t528 t541 _ ?side1 ?side2 ?side3 ?side4 ?side5 ?side6 ?side7 ?side8 A54.out).mono ?_
        (case side1 => repeat (first | exact (Kd.R_reads' HO519.out).2.2 | (with_reducible refine Kd.C_alloc ?_ _) | (with_reducible refine Kd.C_drewN ?_ _) | (with_reducible refine Kd.C_drew ?_)))
        (case side2 => exact (Kd.R_reads' HO519.out).2.1)
        (case side3 => repeat (first | exact (Kd.R_reads' HO522.out).2.2 | (with_reducible refine Kd.C_alloc ?_ _) | (with_reducible refine Kd.C_drewN ?_ _) | (with_reducible refine Kd.C_drew ?_)))
        (case side4 => exact (Kd.R_reads' HO522.out).2.1)
        (case side5 => repeat (first | exact (Kd.R_reads' HO527.out).2.2 | (with_reducible refine Kd.C_alloc ?_ _) | (with_reducible refine Kd.C_drewN ?_ _) | (with_reducible refine Kd.C_drew ?_)))
        (case side6 => exact (Kd.R_reads' HO527.out).2.1)
        (case side7 => repeat (first | exact (Kd.R_reads' HO530.out).2.2 | (with_reducible refine Kd.C_alloc ?_ _) | (with_reducible refine Kd.C_drewN ?_ _) | (with_reducible refine Kd.C_drew ?_)))
        (case side8 => exact (Kd.R_reads' HO530.out).2.1)
        rintro e w62 ⟨rfl, hb⟩
        refine ⟨_, rfl, ?_⟩
        have n0_ := Aside0.mk (Kd.R_below (zR HO503) hb)
        have n1_ := Aside0.mk (Kd.R_below (zR HO506) hb)
        have n2_ := Aside0.mk (Kd.R_below (zR HO513) hb)
        have n3_ := Aside0.mk (Kd.R_below (zR HO516) hb)
        have n4_ := Aside0.mk (Kd.R_below (zR HO519) hb)
        have n5_ := Aside0.mk (Kd.R_below (zR HO522) hb)
        have n6_ := Aside0.mk (Kd.R_below (zR HO527) hb)
        have n7_ := Aside0.mk (Kd.R_below (zR HO530) hb)
        have n8_ := Aside0.mk (Kd.R_below (zR HO535) hb)
        have n9_ := Aside0.mk (Kd.R_below (zR HO538) hb)
        have n10_ := Aside0.mk (blk_below (g := gb497) (o := .cells #[.slice A0_0 l0_0.length c0_0, .slice A0_1 l0_1.length c0_1] 29 (0, 0)) (zk BK497) hb)
        have n11_ := Aside0.mk (blk_below (g := gb524) (o := .cells #[.slice Ao35 t517.length co35, .slice Ao38 t520.length co38] 29 (0, 0)) (zk BK524) hb)
        have n12_ := Aside0.mk (blk_below (g := gb532) (o := .cells #[.slice Ao42 t525.length co42, .slice Ao46 t528.length co46] 29 (0, 0)) (zk BK532) hb)
        have n13_ := Aside0.mk (below_step zB hb)
        clear HO503
        clear HO506
        clear HO513
        clear HO516
        clear HO519
        clear HO522
        clear HO527
        clear HO530
        clear HO535
        clear HO538
        clear BK497
        clear BK524
        clear BK532
        clear HB
        have HO503 := n0_
        have HO506 := n1_
        have HO513 := n2_
        have HO516 := n3_
        have HO519 := n4_
        have HO522 := n5_
        have HO527 := n6_
        have HO530 := n7_
        have HO535 := n8_
        have HO538 := n9_
        have BK497 := n10_
        have BK524 := n11_
        have BK532 := n12_
        have HB := n13_
        clear n0_ n1_ n2_ n3_ n4_ n5_ n6_ n7_ n8_ n9_ n10_ n11_ n12_ n13_
        (try clear hb)
        (try clear hb2)
        (try clear hk)
        (try clear hi)
        refine hK.out _ _ ⟨(blk_cell BK497.out 0).trans rfl, (blk_cell BK497.out 1).trans rfl, (blk_cell BK524.out 0).trans rfl, (blk_cell BK524.out 1).trans rfl, (blk_cell BK532.out 0).trans rfl, (blk_cell BK532.out 1).trans rfl⟩ (fun hHeld => ?_)
        clear hK K
        refine norm_ (a' := ?_) ?_ ?_
        rotate_left
        ·show Act.put _ (some 69) _ = _
         simp only [Act.put, List.setIfInBounds_toArray, List.set_cons_zero, List.set_cons_succ, i64_w, i32_w]
         rfl
        refine pure_ (i := 25) (N := some 70) (v := ?_) (a' := ?_) #[true, true, true, true, true, true, true, true, true, true, true, true, true, true, true, true, true, true, true, true, true, true, true, true, true, true, false] rfl rfl (any_of HT_.out zK) (fun _ _ _ h => h) (Or.inl ⟨by rfl, ?_⟩) ?_ ?_
        rotate_left
        ·intro w'
         go_simp
         with_reducible rfl
        rotate_left
        ·simp only [Act.put, List.setIfInBounds_toArray, List.set_cons_zero, List.set_cons_succ, i64_w, i32_w]
         rfl
        refine pure_ (i := 26) (N := some 4) (v := ?_) (a' := ?_) #[true, true, true, true, true, true, true, true, true, true, true, true, true, true, true, true, true, true, true, true, true, true, true, true, true, true, true] rfl rfl (any_of HT_.out zK) (fun _ _ _ h => h) (Or.inl ⟨by rfl, ?_⟩) ?_ ?_
        rotate_left
        ·intro w'
         go_simp
         with_reducible rfl
        rotate_left
        ·simp only [Act.put, List.setIfInBounds_toArray, List.set_cons_zero, List.set_cons_succ, i64_w, i32_w]
         rfl
        refine done_ (done_of HT_.out zK) ?_
        try go_wp2
        go_ret
        exact ⟨by first | rfl | (simp [errW_none, errW_some] <;> rfl) | (simp [*, errW_none, errW_some] <;> rfl), by repeat (first | (with_reducible first | exact HB.out | apply below_alloc | apply pw_below_drewN | apply below_drew1 | refine below_set ?_ GE497.out | refine below_set ?_ GE524.out | refine below_set ?_ GE532.out) | exact HB.out)⟩
       ·rw [if_neg c53] at H
        have c53b0 : (t523 == t531) = false := beq_eq_false_iff_ne.mpr c53
        have c53b1 : (t523 != t531) = true := bne_iff_ne.mpr c53
        obtain rfl := Option.some.inj H
        try go_wp2
        have n0_ : Aside0 (Kd.R (Kd.int .i64) 3 ((w41.setCell ⟨gb532, 0, none⟩ (.slice Ao42 t525.length co42)).setCell ⟨gb532, 1, none⟩ (.slice Ao46 t528.length co46)) w.heap.size (fun k_ => some k_ ≠ (.slice Ao25 t504.length co25 : Value).ownBlock ∧ some k_ ≠ (.slice Ao31 t511.length co31 : Value).ownBlock ∧ some k_ ≠ (.slice Ao32 t514.length co32 : Value).ownBlock ∧ some k_ ≠ (.slice Ao35 t517.length co35 : Value).ownBlock ∧ some k_ ≠ (.slice Ao38 t520.length co38 : Value).ownBlock ∧ some k_ ≠ (.slice Ao42 t525.length co42 : Value).ownBlock ∧ some k_ ≠ (.slice Ao46 t528.length co46 : Value).ownBlock) (.slice Ao24 t501.length co24) t501) := ⟨by (with_reducible repeat (first | apply Kd.R_alloc | apply Kd.R_drewN | apply Kd.R_drew)); exact Kd.R_mono (Kd.R_far (p := ⟨gb532, 1, none⟩) (Kd.R_far (p := ⟨gb532, 0, none⟩) (Kd.R_types HO503.out BK532.out (by decide)) (fun _ hk => hk.2) (.slice Ao42 t525.length co42)) (fun _ hk => hk.2) (.slice Ao46 t528.length co46)) (fun _ hk => ⟨hk.1.1.1.1.1.1.1, ⟨hk.1.1.1.1.1.1.2, ⟨hk.1.1.1.1.1.2, ⟨hk.1.1.1.1.2, ⟨hk.1.1.1.2, ⟨hk.1.1.2, hk.1.2⟩⟩⟩⟩⟩⟩)⟩
        have n1_ : Aside0 (Kd.R (Kd.int .i64) 3 ((w41.setCell ⟨gb532, 0, none⟩ (.slice Ao42 t525.length co42)).setCell ⟨gb532, 1, none⟩ (.slice Ao46 t528.length co46)) w.heap.size (fun k_ => some k_ ≠ (.slice Ao24 t501.length co24 : Value).ownBlock ∧ some k_ ≠ (.slice Ao31 t511.length co31 : Value).ownBlock ∧ some k_ ≠ (.slice Ao32 t514.length co32 : Value).ownBlock ∧ some k_ ≠ (.slice Ao35 t517.length co35 : Value).ownBlock ∧ some k_ ≠ (.slice Ao38 t520.length co38 : Value).ownBlock ∧ some k_ ≠ (.slice Ao42 t525.length co42 : Value).ownBlock ∧ some k_ ≠ (.slice Ao46 t528.length co46 : Value).ownBlock) (.slice Ao25 t504.length co25) t504) := ⟨by (with_reducible repeat (first | apply Kd.R_alloc | apply Kd.R_drewN | apply Kd.R_drew)); exact Kd.R_mono (Kd.R_far (p := ⟨gb532, 1, none⟩) (Kd.R_far (p := ⟨gb532, 0, none⟩) (Kd.R_types HO506.out BK532.out (by decide)) (fun _ hk => hk.2) (.slice Ao42 t525.length co42)) (fun _ hk => hk.2) (.slice Ao46 t528.length co46)) (fun _ hk => ⟨hk.1.1.1.1.1.1.1, ⟨hk.1.1.1.1.1.1.2, ⟨hk.1.1.1.1.1.2, ⟨hk.1.1.1.1.2, ⟨hk.1.1.1.2, ⟨hk.1.1.2, hk.1.2⟩⟩⟩⟩⟩⟩)⟩
        have n2_ : Aside0 (Kd.R (Kd.int .i64) 3 ((w41.setCell ⟨gb532, 0, none⟩ (.slice Ao42 t525.length co42)).setCell ⟨gb532, 1, none⟩ (.slice Ao46 t528.length co46)) w.heap.size (fun k_ => some k_ ≠ (.slice Ao24 t501.length co24 : Value).ownBlock ∧ some k_ ≠ (.slice Ao25 t504.length co25 : Value).ownBlock ∧ some k_ ≠ (.slice Ao32 t514.length co32 : Value).ownBlock ∧ some k_ ≠ (.slice Ao35 t517.length co35 : Value).ownBlock ∧ some k_ ≠ (.slice Ao38 t520.length co38 : Value).ownBlock ∧ some k_ ≠ (.slice Ao42 t525.length co42 : Value).ownBlock ∧ some k_ ≠ (.slice Ao46 t528.length co46 : Value).ownBlock) (.slice Ao31 t511.length co31) t511) := ⟨by (with_reducible repeat (first | apply Kd.R_alloc | apply Kd.R_drewN | apply Kd.R_drew)); exact Kd.R_mono (Kd.R_far (p := ⟨gb532, 1, none⟩) (Kd.R_far (p := ⟨gb532, 0, none⟩) (Kd.R_types HO513.out BK532.out (by decide)) (fun _ hk => hk.2) (.slice Ao42 t525.length co42)) (fun _ hk => hk.2) (.slice Ao46 t528.length co46)) (fun _ hk => ⟨hk.1.1.1.1.1.1.2, ⟨hk.1.1.1.1.1.2, ⟨hk.1.1.1.1.1.1.1, ⟨hk.1.1.1.1.2, ⟨hk.1.1.1.2, ⟨hk.1.1.2, hk.1.2⟩⟩⟩⟩⟩⟩)⟩
        have n3_ : Aside0 (Kd.R (Kd.int .i64) 3 ((w41.setCell ⟨gb532, 0, none⟩ (.slice Ao42 t525.length co42)).setCell ⟨gb532, 1, none⟩ (.slice Ao46 t528.length co46)) w.heap.size (fun k_ => some k_ ≠ (.slice Ao24 t501.length co24 : Value).ownBlock ∧ some k_ ≠ (.slice Ao25 t504.length co25 : Value).ownBlock ∧ some k_ ≠ (.slice Ao31 t511.length co31 : Value).ownBlock ∧ some k_ ≠ (.slice Ao35 t517.length co35 : Value).ownBlock ∧ some k_ ≠ (.slice Ao38 t520.length co38 : Value).ownBlock ∧ some k_ ≠ (.slice Ao42 t525.length co42 : Value).ownBlock ∧ some k_ ≠ (.slice Ao46 t528.length co46 : Value).ownBlock) (.slice Ao32 t514.length co32) t514) := ⟨by (with_reducible repeat (first | apply Kd.R_alloc | apply Kd.R_drewN | apply Kd.R_drew)); exact Kd.R_mono (Kd.R_far (p := ⟨gb532, 1, none⟩) (Kd.R_far (p := ⟨gb532, 0, none⟩) (Kd.R_types HO516.out BK532.out (by decide)) (fun _ hk => hk.2) (.slice Ao42 t525.length co42)) (fun _ hk => hk.2) (.slice Ao46 t528.length co46)) (fun _ hk => ⟨hk.1.1.1.1.1.1.2, ⟨hk.1.1.1.1.1.2, ⟨hk.1.1.1.1.1.1.1, ⟨hk.1.1.1.1.2, ⟨hk.1.1.1.2, ⟨hk.1.1.2, hk.1.2⟩⟩⟩⟩⟩⟩)⟩
        have n4_ : Aside0 (Kd.R (Kd.int .i64) 3 ((w41.setCell ⟨gb532, 0, none⟩ (.slice Ao42 t525.length co42)).setCell ⟨gb532, 1, none⟩ (.slice Ao46 t528.length co46)) w.heap.size (fun k_ => some k_ ≠ (.slice Ao24 t501.length co24 : Value).ownBlock ∧ some k_ ≠ (.slice Ao25 t504.length co25 : Value).ownBlock ∧ some k_ ≠ (.slice Ao31 t511.length co31 : Value).ownBlock ∧ some k_ ≠ (.slice Ao32 t514.length co32 : Value).ownBlock ∧ some k_ ≠ (.slice Ao38 t520.length co38 : Value).ownBlock ∧ some k_ ≠ (.slice Ao42 t525.length co42 : Value).ownBlock ∧ some k_ ≠ (.slice Ao46 t528.length co46 : Value).ownBlock) (.slice Ao35 t517.length co35) t517) := ⟨by (with_reducible repeat (first | apply Kd.R_alloc | apply Kd.R_drewN | apply Kd.R_drew)); exact Kd.R_mono (Kd.R_far (p := ⟨gb532, 1, none⟩) (Kd.R_far (p := ⟨gb532, 0, none⟩) (Kd.R_types HO519.out BK532.out (by decide)) (fun _ hk => hk.2) (.slice Ao42 t525.length co42)) (fun _ hk => hk.2) (.slice Ao46 t528.length co46)) (fun _ hk => ⟨hk.1.1.1.1.1.1.2, ⟨hk.1.1.1.1.1.2, ⟨hk.1.1.1.1.2, ⟨hk.1.1.1.2, ⟨hk.1.1.1.1.1.1.1, ⟨hk.1.1.2, hk.1.2⟩⟩⟩⟩⟩⟩)⟩
        have n5_ : Aside0 (Kd.R (Kd.int .i64) 3 ((w41.setCell ⟨gb532, 0, none⟩ (.slice Ao42 t525.length co42)).setCell ⟨gb532, 1, none⟩ (.slice Ao46 t528.length co46)) w.heap.size (fun k_ => some k_ ≠ (.slice Ao24 t501.length co24 : Value).ownBlock ∧ some k_ ≠ (.slice Ao25 t504.length co25 : Value).ownBlock ∧ some k_ ≠ (.slice Ao31 t511.length co31 : Value).ownBlock ∧ some k_ ≠ (.slice Ao32 t514.length co32 : Value).ownBlock ∧ some k_ ≠ (.slice Ao35 t517.length co35 : Value).ownBlock ∧ some k_ ≠ (.slice Ao42 t525.length co42 : Value).ownBlock ∧ some k_ ≠ (.slice Ao46 t528.length co46 : Value).ownBlock) (.slice Ao38 t520.length co38) t520) := ⟨by (with_reducible repeat (first | apply Kd.R_alloc | apply Kd.R_drewN | apply Kd.R_drew)); exact Kd.R_mono (Kd.R_far (p := ⟨gb532, 1, none⟩) (Kd.R_far (p := ⟨gb532, 0, none⟩) (Kd.R_types HO522.out BK532.out (by decide)) (fun _ hk => hk.2) (.slice Ao42 t525.length co42)) (fun _ hk => hk.2) (.slice Ao46 t528.length co46)) (fun _ hk => ⟨hk.1.1.1.1.1.1.2, ⟨hk.1.1.1.1.1.2, ⟨hk.1.1.1.1.2, ⟨hk.1.1.1.2, ⟨hk.1.1.1.1.1.1.1, ⟨hk.1.1.2, hk.1.2⟩⟩⟩⟩⟩⟩)⟩
        have n6_ : Aside0 (Kd.R (Kd.int .i64) 3 ((w41.setCell ⟨gb532, 0, none⟩ (.slice Ao42 t525.length co42)).setCell ⟨gb532, 1, none⟩ (.slice Ao46 t528.length co46)) w.heap.size (fun k_ => some k_ ≠ (.slice Ao24 t501.length co24 : Value).ownBlock ∧ some k_ ≠ (.slice Ao25 t504.length co25 : Value).ownBlock ∧ some k_ ≠ (.slice Ao31 t511.length co31 : Value).ownBlock ∧ some k_ ≠ (.slice Ao32 t514.length co32 : Value).ownBlock ∧ some k_ ≠ (.slice Ao35 t517.length co35 : Value).ownBlock ∧ some k_ ≠ (.slice Ao38 t520.length co38 : Value).ownBlock ∧ some k_ ≠ (.slice Ao46 t528.length co46 : Value).ownBlock) (.slice Ao42 t525.length co42) t525) := ⟨by (with_reducible repeat (first | apply Kd.R_alloc | apply Kd.R_drewN | apply Kd.R_drew)); exact Kd.R_mono (Kd.R_far (p := ⟨gb532, 1, none⟩) (Kd.R_far (p := ⟨gb532, 0, none⟩) (Kd.R_types HO527.out BK532.out (by decide)) (fun _ hk => hk.2) (.slice Ao42 t525.length co42)) (fun _ hk => hk.2) (.slice Ao46 t528.length co46)) (fun _ hk => ⟨hk.1.1.1.1.1.1.2, ⟨hk.1.1.1.1.1.2, ⟨hk.1.1.1.1.2, ⟨hk.1.1.1.2, ⟨hk.1.1.2, ⟨hk.1.2, hk.1.1.1.1.1.1.1⟩⟩⟩⟩⟩⟩)⟩
        have n7_ : Aside0 (Kd.R (Kd.int .i64) 3 ((w41.setCell ⟨gb532, 0, none⟩ (.slice Ao42 t525.length co42)).setCell ⟨gb532, 1, none⟩ (.slice Ao46 t528.length co46)) w.heap.size (fun k_ => some k_ ≠ (.slice Ao24 t501.length co24 : Value).ownBlock ∧ some k_ ≠ (.slice Ao25 t504.length co25 : Value).ownBlock ∧ some k_ ≠ (.slice Ao31 t511.length co31 : Value).ownBlock ∧ some k_ ≠ (.slice Ao32 t514.length co32 : Value).ownBlock ∧ some k_ ≠ (.slice Ao35 t517.length co35 : Value).ownBlock ∧ some k_ ≠ (.slice Ao38 t520.length co38 : Value).ownBlock ∧ some k_ ≠ (.slice Ao42 t525.length co42 : Value).ownBlock) (.slice Ao46 t528.length co46) t528) := ⟨by (with_reducible repeat (first | apply Kd.R_alloc | apply Kd.R_drewN | apply Kd.R_drew)); exact Kd.R_mono (Kd.R_far (p := ⟨gb532, 1, none⟩) (Kd.R_far (p := ⟨gb532, 0, none⟩) (Kd.R_types HO530.out BK532.out (by decide)) (fun _ hk => hk.2) (.slice Ao42 t525.length co42)) (fun _ hk => hk.2) (.slice Ao46 t528.length co46)) (fun _ hk => ⟨hk.1.1.1.1.1.1.2, ⟨hk.1.1.1.1.1.2, ⟨hk.1.1.1.1.2, ⟨hk.1.1.1.2, ⟨hk.1.1.2, ⟨hk.1.2, hk.1.1.1.1.1.1.1⟩⟩⟩⟩⟩⟩)⟩
        have n8_ : Aside0 (((w41.setCell ⟨gb532, 0, none⟩ (.slice Ao42 t525.length co42)).setCell ⟨gb532, 1, none⟩ (.slice Ao46 t528.length co46)).heap[gb497]? = some (.cells #[.slice A0_0 l0_0.length c0_0, .slice A0_1 l0_1.length c0_1] 29 (0, 0))) := ⟨by (with_reducible repeat (first | refine blk_drewN ?_ _ | refine blk_drew ?_ | refine blk_alloc ?_ _)); refine blk_far ?_ NB497_532.out _; (with_reducible repeat (first | refine blk_drewN ?_ _ | refine blk_drew ?_ | refine blk_alloc ?_ _)); refine blk_far ?_ NB497_532.out _; (with_reducible repeat (first | refine blk_drewN ?_ _ | refine blk_drew ?_ | refine blk_alloc ?_ _)); exact BK497.out⟩
        have n9_ : Aside0 (((w41.setCell ⟨gb532, 0, none⟩ (.slice Ao42 t525.length co42)).setCell ⟨gb532, 1, none⟩ (.slice Ao46 t528.length co46)).heap[gb524]? = some (.cells #[.slice Ao35 t517.length co35, .slice Ao38 t520.length co38] 29 (0, 0))) := ⟨by (with_reducible repeat (first | refine blk_drewN ?_ _ | refine blk_drew ?_ | refine blk_alloc ?_ _)); refine blk_far ?_ NB524_532.out _; (with_reducible repeat (first | refine blk_drewN ?_ _ | refine blk_drew ?_ | refine blk_alloc ?_ _)); refine blk_far ?_ NB524_532.out _; (with_reducible repeat (first | refine blk_drewN ?_ _ | refine blk_drew ?_ | refine blk_alloc ?_ _)); exact BK524.out⟩
        have n10_ : Aside0 (((w41.setCell ⟨gb532, 0, none⟩ (.slice Ao42 t525.length co42)).setCell ⟨gb532, 1, none⟩ (.slice Ao46 t528.length co46)).heap[gb532]? = some (.cells #[.slice Ao42 t525.length co42, .slice Ao46 t528.length co46] 29 (0, 0))) := ⟨by (with_reducible repeat (first | refine blk_drewN ?_ _ | refine blk_drew ?_ | refine blk_alloc ?_ _)); refine blk_put (cs := #[.slice Ao42 t525.length co42, .slice none 0 0]) ?_ 1 _ rfl; (with_reducible repeat (first | refine blk_drewN ?_ _ | refine blk_drew ?_ | refine blk_alloc ?_ _)); refine blk_put (cs := #[.slice none 0 0, .slice none 0 0]) ?_ 0 _ rfl; (with_reducible repeat (first | refine blk_drewN ?_ _ | refine blk_drew ?_ | refine blk_alloc ?_ _)); exact BK532.out⟩
        have n11_ : Aside0 (Below w.heap.size w ((w41.setCell ⟨gb532, 0, none⟩ (.slice Ao42 t525.length co42)).setCell ⟨gb532, 1, none⟩ (.slice Ao46 t528.length co46))) := ⟨by repeat (first | (with_reducible first | exact HB.out | apply below_alloc | apply pw_below_drewN | apply below_drew1 | refine below_set ?_ GE497.out | refine below_set ?_ GE524.out | refine below_set ?_ GE532.out) | exact HB.out)⟩
        (try clear HO503)
        (try clear HO506)
        (try clear HO513)
        (try clear HO516)
        (try clear HO519)
        (try clear HO522)
        (try clear HO527)
        (try clear HO530)
        (try clear BK497)
        (try clear BK524)
        (try clear BK532)
        (try clear HB)
        generalize ((w41.setCell ⟨gb532, 0, none⟩ (.slice Ao42 t525.length co42)).setCell ⟨gb532, 1, none⟩ (.slice Ao46 t528.length co46)) = w63 at n0_ n1_ n2_ n3_ n4_ n5_ n6_ n7_ n8_ n9_ n10_ n11_ ⊢
        have HO503 := n0_
        have HO506 := n1_
        have HO513 := n2_
        have HO516 := n3_
        have HO519 := n4_
        have HO522 := n5_
        have HO527 := n6_
        have HO530 := n7_
        have BK497 := n8_
        have BK524 := n9_
        have BK532 := n10_
        have HB := n11_
        clear n0_ n1_ n2_ n3_ n4_ n5_ n6_ n7_ n8_ n9_ n10_ n11_
        have n0_ := Aside0.mk (Kd.R_drew HO503.out)
        have n1_ := Aside0.mk (Kd.R_drew HO506.out)
        have n2_ := Aside0.mk (Kd.R_drew HO513.out)
        have n3_ := Aside0.mk (Kd.R_drew HO516.out)
        have n4_ := Aside0.mk (Kd.R_drew HO519.out)
        have n5_ := Aside0.mk (Kd.R_drew HO522.out)
        have n6_ := Aside0.mk (Kd.R_drew HO527.out)
        have n7_ := Aside0.mk (Kd.R_drew HO530.out)
        have n8_ := Aside0.mk (blk_drew BK497.out)
        have n9_ := Aside0.mk (blk_drew BK524.out)
        have n10_ := Aside0.mk (blk_drew BK532.out)
        have n11_ := Aside0.mk (below_drew1 HB.out)
        clear HO503
        clear HO506
        clear HO513
        clear HO516
        clear HO519
        clear HO522
        clear HO527
        clear HO530
        clear BK497
        clear BK524
        clear BK532
        clear HB
        have HO503 := n0_
        have HO506 := n1_
        have HO513 := n2_
        have HO516 := n3_
        have HO519 := n4_
        have HO522 := n5_
        have HO527 := n6_
        have HO530 := n7_
        have BK497 := n8_
        have BK524 := n9_
        have BK532 := n10_
        have HB := n11_
        clear n0_ n1_ n2_ n3_ n4_ n5_ n6_ n7_ n8_ n9_ n10_ n11_
        refine start_ (n := 27) (S := fun w' => w'.cell? ⟨gb497, 0, none⟩ = some (.slice A0_0 l0_0.length c0_0) ∧ w'.cell? ⟨gb497, 1, none⟩ = some (.slice A0_1 l0_1.length c0_1)) (ds := []) #[false, false, false, false, false, false, false, false, false, false, false, false, false, false, false, false, false, false, false, false, false, false, false, false, false, false, false] zK rfl rfl ⟨(blk_cell BK497.out 0).trans rfl, (blk_cell BK497.out 1).trans rfl⟩ (fun hHeld => ?_); refine with_tabW ancepslaw38_TableValid.tab7 ancepslaw38_TableValid.bits7 (fun HT_ HW_ => ?_)
        generalize w63.drew = w64 at HO503 HO506 HO513 HO516 HO519 HO522 HO527 HO530 BK497 BK524 BK532 HB hHeld ⊢
        refine take_ (i := 0) (N := some 45) (v := ?_) (a' := ?_) #[true, false, false, false, false, false, false, false, false, false, false, false, false, false, false, false, false, false, false, false, false, false, false, false, false, false, false] rfl rfl (take_ofW HT_.out HW_.out zK) (fun _ _ _ h => h) (Or.inl ⟨by rfl, ?_⟩) hHeld ?_ ?_
        rotate_left
        ·rintro w' ⟨s0, s1⟩
         go_simp
         with_reducible rfl
        rotate_left
        ·simp only [Act.put, List.setIfInBounds_toArray, List.set_cons_zero, List.set_cons_succ, i64_w, i32_w]
         rfl
        refine take_ (i := 3) (N := some 48) (v := ?_) (a' := ?_) #[true, false, false, true, false, false, false, false, false, false, false, false, false, false, false, false, false, false, false, false, false, false, false, false, false, false, false] rfl rfl (take_ofW HT_.out HW_.out zK) (fun _ _ _ h => h) (Or.inl ⟨by rfl, ?_⟩) hHeld ?_ ?_
        rotate_left
        ·rintro w' ⟨s0, s1⟩
         go_simp
         with_reducible rfl
        rotate_left
        ·simp only [Act.put, List.setIfInBounds_toArray, List.set_cons_zero, List.set_cons_succ, i64_w, i32_w]
         rfl
        refine one_ (i := 1) (N := some 46) #[true, true, false, true, false, false, false, false, false, false, false, false, false, false, false, false, false, false, false, false, false, false, false, false, false, false, false] rfl rfl (one_of HT_.out zK) (by decide) (fun K hK => ?_)
        refine goes_ Try.func21 zK rfl #[.agg #[.slice A0_0 l0_0.length c0_0, .slice A0_1 l0_1.length c0_1]] (by rfl) rfl rfl zM ?_
        with_reducible refine (ancepslaw38_own.calls _ _ l0_0 _ _ l0_1 t533 t536 _ ?side1 ?side2 ?side3 ?side4 A47.out).mono ?_
        (case side1 => repeat (first | exact (Kd.C_below HR0_0.out HB.out) | (with_reducible refine Kd.C_alloc ?_ _) | (with_reducible refine Kd.C_drewN ?_ _) | (with_reducible refine Kd.C_drew ?_)))
        (case side2 => exact HC0_0.out)
        (case side3 => repeat (first | exact (Kd.C_below HR0_1.out HB.out) | (with_reducible refine Kd.C_alloc ?_ _) | (with_reducible refine Kd.C_drewN ?_ _) | (with_reducible refine Kd.C_drew ?_)))
        (case side4 => exact HC0_1.out)
        rintro e w65 ⟨v534, v537, rfl, ho0, ho1, hb⟩
        refine ⟨_, rfl, ?_⟩
        have n0_ := Aside0.mk (Kd.R_mono (Kd.R_told (Kd.R_told (Kd.R_old (zR HO503) hb) (Kd.R_base ho0)) (Kd.R_base ho1)) (fun _ h_ => h_.1))
        have n1_ := Aside0.mk (Kd.R_mono (Kd.R_told (Kd.R_told (Kd.R_old (zR HO506) hb) (Kd.R_base ho0)) (Kd.R_base ho1)) (fun _ h_ => h_.1))
        have n2_ := Aside0.mk (Kd.R_mono (Kd.R_told (Kd.R_told (Kd.R_old (zR HO513) hb) (Kd.R_base ho0)) (Kd.R_base ho1)) (fun _ h_ => h_.1))
        have n3_ := Aside0.mk (Kd.R_mono (Kd.R_told (Kd.R_told (Kd.R_old (zR HO516) hb) (Kd.R_base ho0)) (Kd.R_base ho1)) (fun _ h_ => h_.1))
        have n4_ := Aside0.mk (Kd.R_mono (Kd.R_told (Kd.R_told (Kd.R_old (zR HO519) hb) (Kd.R_base ho0)) (Kd.R_base ho1)) (fun _ h_ => h_.1))
        have n5_ := Aside0.mk (Kd.R_mono (Kd.R_told (Kd.R_told (Kd.R_old (zR HO522) hb) (Kd.R_base ho0)) (Kd.R_base ho1)) (fun _ h_ => h_.1))
        have n6_ := Aside0.mk (Kd.R_mono (Kd.R_told (Kd.R_told (Kd.R_old (zR HO527) hb) (Kd.R_base ho0)) (Kd.R_base ho1)) (fun _ h_ => h_.1))
        have n7_ := Aside0.mk (Kd.R_mono (Kd.R_told (Kd.R_told (Kd.R_old (zR HO530) hb) (Kd.R_base ho0)) (Kd.R_base ho1)) (fun _ h_ => h_.1))
        have n8_ := Aside0.mk (Kd.R_lower (Kd.R_new' (Kd.R_new' (Kd.R_new' (Kd.R_new' (Kd.R_new' (Kd.R_new' (Kd.R_new' (Kd.R_new' ho0 (Kd.R_lt (zR HO503))) (Kd.R_lt (zR HO506))) (Kd.R_lt (zR HO513))) (Kd.R_lt (zR HO516))) (Kd.R_lt (zR HO519))) (Kd.R_lt (zR HO522))) (Kd.R_lt (zR HO527))) (Kd.R_lt (zR HO530))) (below_size zB))
        have n9_ := Aside0.mk (Kd.R_lower (Kd.R_new' (Kd.R_new' (Kd.R_new' (Kd.R_new' (Kd.R_new' (Kd.R_new' (Kd.R_new' (Kd.R_new' ho1 (Kd.R_lt (zR HO503))) (Kd.R_lt (zR HO506))) (Kd.R_lt (zR HO513))) (Kd.R_lt (zR HO516))) (Kd.R_lt (zR HO519))) (Kd.R_lt (zR HO522))) (Kd.R_lt (zR HO527))) (Kd.R_lt (zR HO530))) (below_size zB))
        have n10_ := Aside0.mk (blk_below (g := gb497) (o := .cells #[.slice A0_0 l0_0.length c0_0, .slice A0_1 l0_1.length c0_1] 29 (0, 0)) (zk BK497) hb)
        have n11_ := Aside0.mk (blk_below (g := gb524) (o := .cells #[.slice Ao35 t517.length co35, .slice Ao38 t520.length co38] 29 (0, 0)) (zk BK524) hb)
        have n12_ := Aside0.mk (blk_below (g := gb532) (o := .cells #[.slice Ao42 t525.length co42, .slice Ao46 t528.length co46] 29 (0, 0)) (zk BK532) hb)
        have n13_ := Aside0.mk (below_step zB hb)
        clear HO503
        clear HO506
        clear HO513
        clear HO516
        clear HO519
        clear HO522
        clear HO527
        clear HO530
        clear BK497
        clear BK524
        clear BK532
        clear HB
        have HO503 := n0_
        have HO506 := n1_
        have HO513 := n2_
        have HO516 := n3_
        have HO519 := n4_
        have HO522 := n5_
        have HO527 := n6_
        have HO530 := n7_
        have HO535 := n8_
        have HO538 := n9_
        have BK497 := n10_
        have BK524 := n11_
        have BK532 := n12_
        have HB := n13_
        clear n0_ n1_ n2_ n3_ n4_ n5_ n6_ n7_ n8_ n9_ n10_ n11_ n12_ n13_
        (try clear hb)
        (try clear hb2)
        (try clear hk)
        (try clear hi)
        (try clear ho0)
        (try clear ho1)
        obtain ⟨Ao66, co66, eo66⟩ := Kd.R_slice HO535.out
        (first | subst eo66 | (injection eo66 with f1_ f2_ f3_; have f4_ := f1_.symm; have f5_ := f3_.symm; clear f1_ f2_ f3_; subst f4_; subst f5_))
        obtain ⟨Ao67, co67, eo67⟩ := Kd.R_slice HO538.out
        (first | subst eo67 | (injection eo67 with f1_ f2_ f3_; have f4_ := f1_.symm; have f5_ := f3_.symm; clear f1_ f2_ f3_; subst f4_; subst f5_))
        refine hK.out _ _ ⟨(blk_cell BK497.out 0).trans rfl, (blk_cell BK497.out 1).trans rfl⟩ (fun hHeld => ?_)
        clear hK K
        refine norm_ (a' := ?_) ?_ ?_
        rotate_left
        ·show Act.put _ (some 46) _ = _
         simp only [Act.put, List.setIfInBounds_toArray, List.set_cons_zero, List.set_cons_succ, i64_w, i32_w]
         rfl
        refine one_ (i := 2) (N := some 47) #[true, true, true, true, false, false, false, false, false, false, false, false, false, false, false, false, false, false, false, false, false, false, false, false, false, false, false] rfl rfl (one_of HT_.out zK) (by decide) (fun K hK => ?_)
        refine goes_ Try.func25 zK rfl #[.agg #[.slice Ao66 t533.length co66, .slice Ao67 t536.length co67]] (by rfl) rfl rfl zM ?_
        with_reducible refine (table_Valid.calls kj2 _ _ t533 _ _ t536 t539 _ ?side1 ?side2 ?side3 ?side4 A48.out).mono ?_
        (case side1 => repeat (first | exact (Kd.R_reads' HO535.out).2.2 | (with_reducible refine Kd.C_alloc ?_ _) | (with_reducible refine Kd.C_drewN ?_ _) | (with_reducible refine Kd.C_drew ?_)))
        (case side2 => exact (Kd.R_reads' HO535.out).2.1)
        (case side3 => repeat (first | exact (Kd.R_reads' HO538.out).2.2 | (with_reducible refine Kd.C_alloc ?_ _) | (with_reducible refine Kd.C_drewN ?_ _) | (with_reducible refine Kd.C_drew ?_)))
        (case side4 => exact (Kd.R_reads' HO538.out).2.1)
        rintro e w68 ⟨rfl, hb⟩
        refine ⟨_, rfl, ?_⟩
        have n0_ := Aside0.mk (Kd.R_below (zR HO503) hb)
        have n1_ := Aside0.mk (Kd.R_below (zR HO506) hb)
        have n2_ := Aside0.mk (Kd.R_below (zR HO513) hb)
        have n3_ := Aside0.mk (Kd.R_below (zR HO516) hb)
        have n4_ := Aside0.mk (Kd.R_below (zR HO519) hb)
        have n5_ := Aside0.mk (Kd.R_below (zR HO522) hb)
        have n6_ := Aside0.mk (Kd.R_below (zR HO527) hb)
        have n7_ := Aside0.mk (Kd.R_below (zR HO530) hb)
        have n8_ := Aside0.mk (Kd.R_below (zR HO535) hb)
        have n9_ := Aside0.mk (Kd.R_below (zR HO538) hb)
        have n10_ := Aside0.mk (blk_below (g := gb497) (o := .cells #[.slice A0_0 l0_0.length c0_0, .slice A0_1 l0_1.length c0_1] 29 (0, 0)) (zk BK497) hb)
        have n11_ := Aside0.mk (blk_below (g := gb524) (o := .cells #[.slice Ao35 t517.length co35, .slice Ao38 t520.length co38] 29 (0, 0)) (zk BK524) hb)
        have n12_ := Aside0.mk (blk_below (g := gb532) (o := .cells #[.slice Ao42 t525.length co42, .slice Ao46 t528.length co46] 29 (0, 0)) (zk BK532) hb)
        have n13_ := Aside0.mk (below_step zB hb)
        clear HO503
        clear HO506
        clear HO513
        clear HO516
        clear HO519
        clear HO522
        clear HO527
        clear HO530
        clear HO535
        clear HO538
        clear BK497
        clear BK524
        clear BK532
        clear HB
        have HO503 := n0_
        have HO506 := n1_
        have HO513 := n2_
        have HO516 := n3_
        have HO519 := n4_
        have HO522 := n5_
        have HO527 := n6_
        have HO530 := n7_
        have HO535 := n8_
        have HO538 := n9_
        have BK497 := n10_
        have BK524 := n11_
        have BK532 := n12_
        have HB := n13_
        clear n0_ n1_ n2_ n3_ n4_ n5_ n6_ n7_ n8_ n9_ n10_ n11_ n12_ n13_
        (try clear hb)
        (try clear hb2)
        (try clear hk)
        (try clear hi)
        refine hK.out _ _ ⟨(blk_cell BK497.out 0).trans rfl, (blk_cell BK497.out 1).trans rfl⟩ (fun hHeld => ?_)
        clear hK K
        refine norm_ (a' := ?_) ?_ ?_
        rotate_left
        ·show Act.put _ (some 47) _ = _
         simp only [Act.put, List.setIfInBounds_toArray, List.set_cons_zero, List.set_cons_succ, i64_w, i32_w]
         rfl
        refine one_ (i := 4) (N := some 49) #[true, true, true, true, true, false, false, false, false, false, false, false, false, false, false, false, false, false, false, false, false, false, false, false, false, false, false] rfl rfl (one_of HT_.out zK) (by decide) (fun K hK => ?_)
        refine goes_ Try.func26 zK rfl #[.agg #[.slice A0_0 l0_0.length c0_0, .slice A0_1 l0_1.length c0_1]] (by rfl) rfl rfl zM ?_
        with_reducible refine (ancepsref38_Valid.calls kj2 _ _ l0_0 _ _ l0_1 t540 _ ?side1 ?side2 ?side3 ?side4 A49.out).mono ?_
        (case side1 => repeat (first | exact (Kd.C_below HR0_0.out HB.out) | (with_reducible refine Kd.C_alloc ?_ _) | (with_reducible refine Kd.C_drewN ?_ _) | (with_reducible refine Kd.C_drew ?_)))
        (case side2 => exact HC0_0.out)
        (case side3 => repeat (first | exact (Kd.C_below HR0_1.out HB.out) | (with_reducible refine Kd.C_alloc ?_ _) | (with_reducible refine Kd.C_drewN ?_ _) | (with_reducible refine Kd.C_drew ?_)))
        (case side4 => exact HC0_1.out)
        rintro e w69 ⟨rfl, hb⟩
        refine ⟨_, rfl, ?_⟩
        have n0_ := Aside0.mk (Kd.R_below (zR HO503) hb)
        have n1_ := Aside0.mk (Kd.R_below (zR HO506) hb)
        have n2_ := Aside0.mk (Kd.R_below (zR HO513) hb)
        have n3_ := Aside0.mk (Kd.R_below (zR HO516) hb)
        have n4_ := Aside0.mk (Kd.R_below (zR HO519) hb)
        have n5_ := Aside0.mk (Kd.R_below (zR HO522) hb)
        have n6_ := Aside0.mk (Kd.R_below (zR HO527) hb)
        have n7_ := Aside0.mk (Kd.R_below (zR HO530) hb)
        have n8_ := Aside0.mk (Kd.R_below (zR HO535) hb)
        have n9_ := Aside0.mk (Kd.R_below (zR HO538) hb)
        have n10_ := Aside0.mk (blk_below (g := gb497) (o := .cells #[.slice A0_0 l0_0.length c0_0, .slice A0_1 l0_1.length c0_1] 29 (0, 0)) (zk BK497) hb)
        have n11_ := Aside0.mk (blk_below (g := gb524) (o := .cells #[.slice Ao35 t517.length co35, .slice Ao38 t520.length co38] 29 (0, 0)) (zk BK524) hb)
        have n12_ := Aside0.mk (blk_below (g := gb532) (o := .cells #[.slice Ao42 t525.length co42, .slice Ao46 t528.length co46] 29 (0, 0)) (zk BK532) hb)
        have n13_ := Aside0.mk (below_step zB hb)
        clear HO503
        clear HO506
        clear HO513
        clear HO516
        clear HO519
        clear HO522
        clear HO527
        clear HO530
        clear HO535
        clear HO538
        clear BK497
        clear BK524
        clear BK532
        clear HB
        have HO503 := n0_
        have HO506 := n1_
        have HO513 := n2_
        have HO516 := n3_
        have HO519 := n4_
        have HO522 := n5_
        have HO527 := n6_
        have HO530 := n7_
        have HO535 := n8_
        have HO538 := n9_
        have BK497 := n10_
        have BK524 := n11_
        have BK532 := n12_
        have HB := n13_
        clear n0_ n1_ n2_ n3_ n4_ n5_ n6_ n7_ n8_ n9_ n10_ n11_ n12_ n13_
        (try clear hb)
        (try clear hb2)
        (try clear hk)
        (try clear hi)
        refine hK.out _ _ ⟨(blk_cell BK497.out 0).trans rfl, (blk_cell BK497.out 1).trans rfl⟩ (fun hHeld => ?_)
        clear hK K
        refine norm_ (a' := ?_) ?_ ?_
        rotate_left
        ·show Act.put _ (some 49) _ = _
         simp only [Act.put, List.setIfInBounds_toArray, List.set_cons_zero, List.set_cons_succ, i64_w, i32_w]
         rfl
        refine pure_ (i := 5) (N := some 50) (v := ?_) (a' := ?_) #[true, true, true, true, true, true, false, false, false, false, false, false, false, false, false, false, false, false, false, false, false, false, false, false, false, false, false] rfl rfl (any_of HT_.out zK) (fun _ _ _ h => h) (Or.inl ⟨by rfl, ?_⟩) ?_ ?_
        rotate_left
        ·intro w'
         go_simp
         with_reducible rfl
        rotate_left
        ·simp only [Act.put, List.setIfInBounds_toArray, List.set_cons_zero, List.set_cons_succ, i64_w, i32_w]
         rfl
        refine pure_ (i := 6) (N := some 51) (v := ?_) (a' := ?_) #[true, true, true, true, true, true, true, false, false, false, false, false, false, false, false, false, false, false, false, false, false, false, false, false, false, false, false] rfl rfl (any_of HT_.out zK) (fun _ _ _ h => h) (Or.inl ⟨by rfl, ?_⟩) ?_ ?_
        rotate_left
        ·intro w'
         go_simp
         with_reducible rfl
        rotate_left
        ·simp only [Act.put, List.setIfInBounds_toArray, List.set_cons_zero, List.set_cons_succ, i64_w, i32_w]
         rfl
        refine pure_ (i := 7) (N := some 52) (v := ?_) (a' := ?_) #[true, true, true, true, true, true, true, true, false, false, false, false, false, false, false, false, false, false, false, false, false, false, false, false, false, false, false] rfl rfl (any_of HT_.out zK) (fun _ _ _ h => h) (Or.inl ⟨by rfl, ?_⟩) ?_ ?_
        rotate_left
        ·intro w'
         go_simp
         with_reducible rfl
        rotate_left
        ·simp only [Act.put, List.setIfInBounds_toArray, List.set_cons_zero, List.set_cons_succ, i64_w, i32_w]
         rfl
        refine pure_ (i := 8) (N := some 53) (v := ?_) (a' := ?_) #[true, true, true, true, true, true, true, true, true, false, false, false, false, false, false, false, false, false, false, false, false, false, false, false, false, false, false] rfl rfl (any_of HT_.out zK) (fun _ _ _ h => h) (Or.inl ⟨by rfl, ?_⟩) ?_ ?_
        rotate_left
        ·intro w'
         go_simp
         with_reducible rfl
        rotate_left
        ·simp only [Act.put, List.setIfInBounds_toArray, List.set_cons_zero, List.set_cons_succ, i64_w, i32_w]
         rfl
        refine pure_ (i := 9) (N := some 54) (v := ?_) (a' := ?_) #[true, true, true, true, true, true, true, true, true, true, false, false, false, false, false, false, false, false, false, false, false, false, false, false, false, false, false] rfl rfl (any_of HT_.out zK) (fun _ _ _ h => h) (Or.inl ⟨by rfl, ?_⟩) ?_ ?_
        rotate_left
        ·intro w'
         go_simp
         with_reducible rfl
        rotate_left
        ·simp only [Act.put, List.setIfInBounds_toArray, List.set_cons_zero, List.set_cons_succ, i64_w, i32_w]
         rfl
        refine pure_ (i := 10) (N := some 55) (v := ?_) (a' := ?_) #[true, true, true, true, true, true, true, true, true, true, true, false, false, false, false, false, false, false, false, false, false, false, false, false, false, false, false] rfl rfl (any_of HT_.out zK) (fun _ _ _ h => h) (Or.inl ⟨by rfl, ?_⟩) ?_ ?_
        rotate_left
        ·intro w'
         go_simp
         with_reducible rfl
        rotate_left
        ·simp only [Act.put, List.setIfInBounds_toArray, List.set_cons_zero, List.set_cons_succ, i64_w, i32_w]
         rfl
        refine pure_ (i := 11) (N := some 56) (v := ?_) (a' := ?_) #[true, true, true, true, true, true, true, true, true, true, true, true, false, false, false, false, false, false, false, false, false, false, false, false, false, false, false] rfl rfl (any_of HT_.out zK) (fun _ _ _ h => h) (Or.inl ⟨by rfl, ?_⟩) ?_ ?_
        rotate_left
        ·intro w'
         go_simp
         with_reducible rfl
        rotate_left
        ·simp only [Act.put, List.setIfInBounds_toArray, List.set_cons_zero, List.set_cons_succ, i64_w, i32_w]
         rfl
        refine pure_ (i := 12) (N := some 57) (v := ?_) (a' := ?_) #[true, true, true, true, true, true, true, true, true, true, true, true, true, false, false, false, false, false, false, false, false, false, false, false, false, false, false] rfl rfl (any_of HT_.out zK) (fun _ _ _ h => h) (Or.inl ⟨by rfl, ?_⟩) ?_ ?_
        rotate_left
        ·intro w'
         go_simp
         with_reducible rfl
        rotate_left
        ·simp only [Act.put, List.setIfInBounds_toArray, List.set_cons_zero, List.set_cons_succ, i64_w, i32_w]
         rfl
        refine pure_ (i := 13) (N := some 58) (v := ?_) (a' := ?_) #[true, true, true, true, true, true, true, true, true, true, true, true, true, true, false, false, false, false, false, false, false, false, false, false, false, false, false] rfl rfl (any_of HT_.out zK) (fun _ _ _ h => h) (Or.inl ⟨by rfl, ?_⟩) ?_ ?_
        rotate_left
        ·intro w'
         go_simp
         with_reducible rfl
        rotate_left
        ·simp only [Act.put, List.setIfInBounds_toArray, List.set_cons_zero, List.set_cons_succ, i64_w, i32_w]
         rfl
        refine pure_ (i := 14) (N := some 59) (v := ?_) (a' := ?_) #[true, true, true, true, true, true, true, true, true, true, true, true, true, true, true, false, false, false, false, false, false, false, false, false, false, false, false] rfl rfl (any_of HT_.out zK) (fun _ _ _ h => h) (Or.inl ⟨by rfl, ?_⟩) ?_ ?_
        rotate_left
        ·intro w'
         go_simp
         with_reducible rfl
        rotate_left
        ·simp only [Act.put, List.setIfInBounds_toArray, List.set_cons_zero, List.set_cons_succ, i64_w, i32_w]
         rfl
        refine pure_ (i := 15) (N := some 60) (v := ?_) (a' := ?_) #[true, true, true, true, true, true, true, true, true, true, true, true, true, true, true, true, false, false, false, false, false, false, false, false, false, false, false] rfl rfl (any_of HT_.out zK) (fun _ _ _ h => h) (Or.inl ⟨by rfl, ?_⟩) ?_ ?_
        rotate_left
        ·intro w'
         go_simp
         with_reducible rfl
        rotate_left
        ·simp only [Act.put, List.setIfInBounds_toArray, List.set_cons_zero, List.set_cons_succ, i64_w, i32_w]
         rfl
        refine pure_ (i := 16) (N := some 61) (v := ?_) (a' := ?_) #[true, true, true, true, true, true, true, true, true, true, true, true, true, true, true, true, true, false, false, false, false, false, false, false, false, false, false] rfl rfl (any_of HT_.out zK) (fun _ _ _ h => h) (Or.inl ⟨by rfl, ?_⟩) ?_ ?_
        rotate_left
        ·intro w'
         go_simp
         with_reducible rfl
        rotate_left
        ·simp only [Act.put, List.setIfInBounds_toArray, List.set_cons_zero, List.set_cons_succ, i64_w, i32_w]
         rfl
        refine pure_ (i := 17) (N := some 62) (v := ?_) (a' := ?_) #[true, true, true, true, true, true, true, true, true, true, true, true, true, true, true, true, true, true, false, false, false, false, false, false, false, false, false] rfl rfl (any_of HT_.out zK) (fun _ _ _ h => h) (Or.inl ⟨by rfl, ?_⟩) ?_ ?_
        rotate_left
        ·intro w'
         go_simp
         with_reducible rfl
        rotate_left
        ·simp only [Act.put, List.setIfInBounds_toArray, List.set_cons_zero, List.set_cons_succ, i64_w, i32_w]
         rfl
        refine pure_ (i := 18) (N := some 63) (v := ?_) (a' := ?_) #[true, true, true, true, true, true, true, true, true, true, true, true, true, true, true, true, true, true, true, false, false, false, false, false, false, false, false] rfl rfl (any_of HT_.out zK) (fun _ _ _ h => h) (Or.inl ⟨by rfl, ?_⟩) ?_ ?_
        rotate_left
        ·intro w'
         go_simp
         with_reducible rfl
        rotate_left
        ·simp only [Act.put, List.setIfInBounds_toArray, List.set_cons_zero, List.set_cons_succ, i64_w, i32_w]
         rfl
        refine pure_ (i := 19) (N := some 64) (v := ?_) (a' := ?_) #[true, true, true, true, true, true, true, true, true, true, true, true, true, true, true, true, true, true, true, true, false, false, false, false, false, false, false] rfl rfl (any_of HT_.out zK) (fun _ _ _ h => h) (Or.inl ⟨by rfl, ?_⟩) ?_ ?_
        rotate_left
        ·intro w'
         go_simp
         with_reducible rfl
        rotate_left
        ·simp only [Act.put, List.setIfInBounds_toArray, List.set_cons_zero, List.set_cons_succ, i64_w, i32_w]
         rfl
        refine pure_ (i := 20) (N := some 65) (v := ?_) (a' := ?_) #[true, true, true, true, true, true, true, true, true, true, true, true, true, true, true, true, true, true, true, true, true, false, false, false, false, false, false] rfl rfl (any_of HT_.out zK) (fun _ _ _ h => h) (Or.inl ⟨by rfl, ?_⟩) ?_ ?_
        rotate_left
        ·intro w'
         go_simp
         with_reducible rfl
        rotate_left
        ·simp only [Act.put, List.setIfInBounds_toArray, List.set_cons_zero, List.set_cons_succ, i64_w, i32_w]
         rfl
        refine pure_ (i := 21) (N := some 66) (v := ?_) (a' := ?_) #[true, true, true, true, true, true, true, true, true, true, true, true, true, true, true, true, true, true, true, true, true, true, false, false, false, false, false] rfl rfl (any_of HT_.out zK) (fun _ _ _ h => h) (Or.inl ⟨by rfl, ?_⟩) ?_ ?_
        rotate_left
        ·intro w'
         go_simp
         with_reducible rfl
        rotate_left
        ·simp only [Act.put, List.setIfInBounds_toArray, List.set_cons_zero, List.set_cons_succ, i64_w, i32_w]
         rfl
        refine pure_ (i := 22) (N := some 67) (v := undef) (a' := ?_) #[true, true, true, true, true, true, true, true, true, true, true, true, true, true, true, true, true, true, true, true, true, true, true, false, false, false, false] rfl rfl (any_of HT_.out zK) (fun _ _ _ h => h) (Or.inr ⟨by rfl, rfl⟩) ?_ ?_
        rotate_left
        ·simp only [Act.put, List.setIfInBounds_toArray, List.set_cons_zero, List.set_cons_succ, i64_w, i32_w]
         rfl
        refine pure_ (i := 23) (N := some 68) (v := undef) (a' := ?_) #[true, true, true, true, true, true, true, true, true, true, true, true, true, true, true, true, true, true, true, true, true, true, true, true, false, false, false] rfl rfl (any_of HT_.out zK) (fun _ _ _ h => h) (Or.inr ⟨by rfl, rfl⟩) ?_ ?_
        rotate_left
        ·simp only [Act.put, List.setIfInBounds_toArray, List.set_cons_zero, List.set_cons_succ, i64_w, i32_w]
         rfl
        refine pure_ (i := 24) (N := some 69) (v := undef) (a' := ?_) #[true, true, true, true, true, true, true, true, true, true, true, true, true, true, true, true, true, true, true, true, true, true, true, true, true, false, false] rfl rfl (any_of HT_.out zK) (fun _ _ _ h => h) (Or.inr ⟨by rfl, rfl⟩) ?_ ?_
        rotate_left
        ·simp only [Act.put, List.setIfInBounds_toArray, List.set_cons_zero, List.set_cons_succ, i64_w, i32_w]
         rfl
        refine pure_ (i := 25) (N := some 70) (v := ?_) (a' := ?_) #[true, true, true, true, true, true, true, true, true, true, true, true, true, true, true, true, true, true, true, true, true, true, true, true, true, true, false] rfl rfl (any_of HT_.out zK) (fun _ _ _ h => h) (Or.inl ⟨by rfl, ?_⟩) ?_ ?_
        rotate_left
        ·intro w'
         go_simp
         with_reducible rfl
        rotate_left
        ·simp only [Act.put, List.setIfInBounds_toArray, List.set_cons_zero, List.set_cons_succ, i64_w, i32_w]
         rfl
        refine pure_ (i := 26) (N := some 4) (v := ?_) (a' := ?_) #[true, true, true, true, true, true, true, true, true, true, true, true, true, true, true, true, true, true, true, true, true, true, true, true, true, true, true] rfl rfl (any_of HT_.out zK) (fun _ _ _ h => h) (Or.inl ⟨by rfl, ?_⟩) ?_ ?_
        rotate_left
        ·intro w'
         go_simp
         with_reducible rfl
        rotate_left
        ·simp only [Act.put, List.setIfInBounds_toArray, List.set_cons_zero, List.set_cons_succ, i64_w, i32_w]
         rfl
        refine done_ (done_of HT_.out zK) ?_
        try go_wp2
        go_ret
        exact ⟨by first | rfl | (simp [errW_none, errW_some] <;> rfl) | (simp [*, errW_none, errW_some] <;> rfl), by repeat (first | (with_reducible first | exact HB.out | apply below_alloc | apply pw_below_drewN | apply below_drew1 | refine below_set ?_ GE497.out | refine below_set ?_ GE524.out | refine below_set ?_ GE532.out) | exact HB.out)⟩
      ·rw [if_neg c52] at H
       have c52b0 : (t508 == t510) = false := beq_eq_false_iff_ne.mpr c52
       have c52b1 : (t508 != t510) = true := bne_iff_ne.mpr c52
       obtain rfl := Option.some.inj H
       try go_wp2
       have n0_ : Aside0 (Kd.R (Kd.int .i64) 3 ((w41.setCell ⟨gb532, 0, none⟩ (.slice Ao42 t525.length co42)).setCell ⟨gb532, 1, none⟩ (.slice Ao46 t528.length co46)) w.heap.size (fun k_ => some k_ ≠ (.slice Ao25 t504.length co25 : Value).ownBlock ∧ some k_ ≠ (.slice Ao31 t511.length co31 : Value).ownBlock ∧ some k_ ≠ (.slice Ao32 t514.length co32 : Value).ownBlock ∧ some k_ ≠ (.slice Ao35 t517.length co35 : Value).ownBlock ∧ some k_ ≠ (.slice Ao38 t520.length co38 : Value).ownBlock ∧ some k_ ≠ (.slice Ao42 t525.length co42 : Value).ownBlock ∧ some k_ ≠ (.slice Ao46 t528.length co46 : Value).ownBlock) (.slice Ao24 t501.length co24) t501) := ⟨by (with_reducible repeat (first | apply Kd.R_alloc | apply Kd.R_drewN | apply Kd.R_drew)); exact Kd.R_mono (Kd.R_far (p := ⟨gb532, 1, none⟩) (Kd.R_far (p := ⟨gb532, 0, none⟩) (Kd.R_types HO503.out BK532.out (by decide)) (fun _ hk => hk.2) (.slice Ao42 t525.length co42)) (fun _ hk => hk.2) (.slice Ao46 t528.length co46)) (fun _ hk => ⟨hk.1.1.1.1.1.1.1, ⟨hk.1.1.1.1.1.1.2, ⟨hk.1.1.1.1.1.2, ⟨hk.1.1.1.1.2, ⟨hk.1.1.1.2, ⟨hk.1.1.2, hk.1.2⟩⟩⟩⟩⟩⟩)⟩
       have n1_ : Aside0 (Kd.R (Kd.int .i64) 3 ((w41.setCell ⟨gb532, 0, none⟩ (.slice Ao42 t525.length co42)).setCell ⟨gb532, 1, none⟩ (.slice Ao46 t528.length co46)) w.heap.size (fun k_ => some k_ ≠ (.slice Ao24 t501.length co24 : Value).ownBlock ∧ some k_ ≠ (.slice Ao31 t511.length co31 : Value).ownBlock ∧ some k_ ≠ (.slice Ao32 t514.length co32 : Value).ownBlock ∧ some k_ ≠ (.slice Ao35 t517.length co35 : Value).ownBlock ∧ some k_ ≠ (.slice Ao38 t520.length co38 : Value).ownBlock ∧ some k_ ≠ (.slice Ao42 t525.length co42 : Value).ownBlock ∧ some k_ ≠ (.slice Ao46 t528.length co46 : Value).ownBlock) (.slice Ao25 t504.length co25) t504) := ⟨by (with_reducible repeat (first | apply Kd.R_alloc | apply Kd.R_drewN | apply Kd.R_drew)); exact Kd.R_mono (Kd.R_far (p := ⟨gb532, 1, none⟩) (Kd.R_far (p := ⟨gb532, 0, none⟩) (Kd.R_types HO506.out BK532.out (by decide)) (fun _ hk => hk.2) (.slice Ao42 t525.length co42)) (fun _ hk => hk.2) (.slice Ao46 t528.length co46)) (fun _ hk => ⟨hk.1.1.1.1.1.1.1, ⟨hk.1.1.1.1.1.1.2, ⟨hk.1.1.1.1.1.2, ⟨hk.1.1.1.1.2, ⟨hk.1.1.1.2, ⟨hk.1.1.2, hk.1.2⟩⟩⟩⟩⟩⟩)⟩
       have n2_ : Aside0 (Kd.R (Kd.int .i64) 3 ((w41.setCell ⟨gb532, 0, none⟩ (.slice Ao42 t525.length co42)).setCell ⟨gb532, 1, none⟩ (.slice Ao46 t528.length co46)) w.heap.size (fun k_ => some k_ ≠ (.slice Ao24 t501.length co24 : Value).ownBlock ∧ some k_ ≠ (.slice Ao25 t504.length co25 : Value).ownBlock ∧ some k_ ≠ (.slice Ao32 t514.length co32 : Value).ownBlock ∧ some k_ ≠ (.slice Ao35 t517.length co35 : Value).ownBlock ∧ some k_ ≠ (.slice Ao38 t520.length co38 : Value).ownBlock ∧ some k_ ≠ (.slice Ao42 t525.length co42 : Value).ownBlock ∧ some k_ ≠ (.slice Ao46 t528.length co46 : Value).ownBlock) (.slice Ao31 t511.length co31) t511) := ⟨by (with_reducible repeat (first | apply Kd.R_alloc | apply Kd.R_drewN | apply Kd.R_drew)); exact Kd.R_mono (Kd.R_far (p := ⟨gb532, 1, none⟩) (Kd.R_far (p := ⟨gb532, 0, none⟩) (Kd.R_types HO513.out BK532.out (by decide)) (fun _ hk => hk.2) (.slice Ao42 t525.length co42)) (fun _ hk => hk.2) (.slice Ao46 t528.length co46)) (fun _ hk => ⟨hk.1.1.1.1.1.1.2, ⟨hk.1.1.1.1.1.2, ⟨hk.1.1.1.1.1.1.1, ⟨hk.1.1.1.1.2, ⟨hk.1.1.1.2, ⟨hk.1.1.2, hk.1.2⟩⟩⟩⟩⟩⟩)⟩
       have n3_ : Aside0 (Kd.R (Kd.int .i64) 3 ((w41.setCell ⟨gb532, 0, none⟩ (.slice Ao42 t525.length co42)).setCell ⟨gb532, 1, none⟩ (.slice Ao46 t528.length co46)) w.heap.size (fun k_ => some k_ ≠ (.slice Ao24 t501.length co24 : Value).ownBlock ∧ some k_ ≠ (.slice Ao25 t504.length co25 : Value).ownBlock ∧ some k_ ≠ (.slice Ao31 t511.length co31 : Value).ownBlock ∧ some k_ ≠ (.slice Ao35 t517.length co35 : Value).ownBlock ∧ some k_ ≠ (.slice Ao38 t520.length co38 : Value).ownBlock ∧ some k_ ≠ (.slice Ao42 t525.length co42 : Value).ownBlock ∧ some k_ ≠ (.slice Ao46 t528.length co46 : Value).ownBlock) (.slice Ao32 t514.length co32) t514) := ⟨by (with_reducible repeat (first | apply Kd.R_alloc | apply Kd.R_drewN | apply Kd.R_drew)); exact Kd.R_mono (Kd.R_far (p := ⟨gb532, 1, none⟩) (Kd.R_far (p := ⟨gb532, 0, none⟩) (Kd.R_types HO516.out BK532.out (by decide)) (fun _ hk => hk.2) (.slice Ao42 t525.length co42)) (fun _ hk => hk.2) (.slice Ao46 t528.length co46)) (fun _ hk => ⟨hk.1.1.1.1.1.1.2, ⟨hk.1.1.1.1.1.2, ⟨hk.1.1.1.1.1.1.1, ⟨hk.1.1.1.1.2, ⟨hk.1.1.1.2, ⟨hk.1.1.2, hk.1.2⟩⟩⟩⟩⟩⟩)⟩
       have n4_ : Aside0 (Kd.R (Kd.int .i64) 3 ((w41.setCell ⟨gb532, 0, none⟩ (.slice Ao42 t525.length co42)).setCell ⟨gb532, 1, none⟩ (.slice Ao46 t528.length co46)) w.heap.size (fun k_ => some k_ ≠ (.slice Ao24 t501.length co24 : Value).ownBlock ∧ some k_ ≠ (.slice Ao25 t504.length co25 : Value).ownBlock ∧ some k_ ≠ (.slice Ao31 t511.length co31 : Value).ownBlock ∧ some k_ ≠ (.slice Ao32 t514.length co32 : Value).ownBlock ∧ some k_ ≠ (.slice Ao38 t520.length co38 : Value).ownBlock ∧ some k_ ≠ (.slice Ao42 t525.length co42 : Value).ownBlock ∧ some k_ ≠ (.slice Ao46 t528.length co46 : Value).ownBlock) (.slice Ao35 t517.length co35) t517) := ⟨by (with_reducible repeat (first | apply Kd.R_alloc | apply Kd.R_drewN | apply Kd.R_drew)); exact Kd.R_mono (Kd.R_far (p := ⟨gb532, 1, none⟩) (Kd.R_far (p := ⟨gb532, 0, none⟩) (Kd.R_types HO519.out BK532.out (by decide)) (fun _ hk => hk.2) (.slice Ao42 t525.length co42)) (fun _ hk => hk.2) (.slice Ao46 t528.length co46)) (fun _ hk => ⟨hk.1.1.1.1.1.1.2, ⟨hk.1.1.1.1.1.2, ⟨hk.1.1.1.1.2, ⟨hk.1.1.1.2, ⟨hk.1.1.1.1.1.1.1, ⟨hk.1.1.2, hk.1.2⟩⟩⟩⟩⟩⟩)⟩
       have n5_ : Aside0 (Kd.R (Kd.int .i64) 3 ((w41.setCell ⟨gb532, 0, none⟩ (.slice Ao42 t525.length co42)).setCell ⟨gb532, 1, none⟩ (.slice Ao46 t528.length co46)) w.heap.size (fun k_ => some k_ ≠ (.slice Ao24 t501.length co24 : Value).ownBlock ∧ some k_ ≠ (.slice Ao25 t504.length co25 : Value).ownBlock ∧ some k_ ≠ (.slice Ao31 t511.length co31 : Value).ownBlock ∧ some k_ ≠ (.slice Ao32 t514.length co32 : Value).ownBlock ∧ some k_ ≠ (.slice Ao35 t517.length co35 : Value).ownBlock ∧ some k_ ≠ (.slice Ao42 t525.length co42 : Value).ownBlock ∧ some k_ ≠ (.slice Ao46 t528.length co46 : Value).ownBlock) (.slice Ao38 t520.length co38) t520) := ⟨by (with_reducible repeat (first | apply Kd.R_alloc | apply Kd.R_drewN | apply Kd.R_drew)); exact Kd.R_mono (Kd.R_far (p := ⟨gb532, 1, none⟩) (Kd.R_far (p := ⟨gb532, 0, none⟩) (Kd.R_types HO522.out BK532.out (by decide)) (fun _ hk => hk.2) (.slice Ao42 t525.length co42)) (fun _ hk => hk.2) (.slice Ao46 t528.length co46)) (fun _ hk => ⟨hk.1.1.1.1.1.1.2, ⟨hk.1.1.1.1.1.2, ⟨hk.1.1.1.1.2, ⟨hk.1.1.1.2, ⟨hk.1.1.1.1.1.1.1, ⟨hk.1.1.2, hk.1.2⟩⟩⟩⟩⟩⟩)⟩
       have n6_ : Aside0 (Kd.R (Kd.int .i64) 3 ((w41.setCell ⟨gb532, 0, none⟩ (.slice Ao42 t525.length co42)).setCell ⟨gb532, 1, none⟩ (.slice Ao46 t528.length co46)) w.heap.size (fun k_ => some k_ ≠ (.slice Ao24 t501.length co24 : Value).ownBlock ∧ some k_ ≠ (.slice Ao25 t504.length co25 : Value).ownBlock ∧ some k_ ≠ (.slice Ao31 t511.length co31 : Value).ownBlock ∧ some k_ ≠ (.slice Ao32 t514.length co32 : Value).ownBlock ∧ some k_ ≠ (.slice Ao35 t517.length co35 : Value).ownBlock ∧ some k_ ≠ (.slice Ao38 t520.length co38 : Value).ownBlock ∧ some k_ ≠ (.slice Ao46 t528.length co46 : Value).ownBlock) (.slice Ao42 t525.length co42) t525) := ⟨by (with_reducible repeat (first | apply Kd.R_alloc | apply Kd.R_drewN | apply Kd.R_drew)); exact Kd.R_mono (Kd.R_far (p := ⟨gb532, 1, none⟩) (Kd.R_far (p := ⟨gb532, 0, none⟩) (Kd.R_types HO527.out BK532.out (by decide)) (fun _ hk => hk.2) (.slice Ao42 t525.length co42)) (fun _ hk => hk.2) (.slice Ao46 t528.length co46)) (fun _ hk => ⟨hk.1.1.1.1.1.1.2, ⟨hk.1.1.1.1.1.2, ⟨hk.1.1.1.1.2, ⟨hk.1.1.1.2, ⟨hk.1.1.2, ⟨hk.1.2, hk.1.1.1.1.1.1.1⟩⟩⟩⟩⟩⟩)⟩
       have n7_ : Aside0 (Kd.R (Kd.int .i64) 3 ((w41.setCell ⟨gb532, 0, none⟩ (.slice Ao42 t525.length co42)).setCell ⟨gb532, 1, none⟩ (.slice Ao46 t528.length co46)) w.heap.size (fun k_ => some k_ ≠ (.slice Ao24 t501.length co24 : Value).ownBlock ∧ some k_ ≠ (.slice Ao25 t504.length co25 : Value).ownBlock ∧ some k_ ≠ (.slice Ao31 t511.length co31 : Value).ownBlock ∧ some k_ ≠ (.slice Ao32 t514.length co32 : Value).ownBlock ∧ some k_ ≠ (.slice Ao35 t517.length co35 : Value).ownBlock ∧ some k_ ≠ (.slice Ao38 t520.length co38 : Value).ownBlock ∧ some k_ ≠ (.slice Ao42 t525.length co42 : Value).ownBlock) (.slice Ao46 t528.length co46) t528) := ⟨by (with_reducible repeat (first | apply Kd.R_alloc | apply Kd.R_drewN | apply Kd.R_drew)); exact Kd.R_mono (Kd.R_far (p := ⟨gb532, 1, none⟩) (Kd.R_far (p := ⟨gb532, 0, none⟩) (Kd.R_types HO530.out BK532.out (by decide)) (fun _ hk => hk.2) (.slice Ao42 t525.length co42)) (fun _ hk => hk.2) (.slice Ao46 t528.length co46)) (fun _ hk => ⟨hk.1.1.1.1.1.1.2, ⟨hk.1.1.1.1.1.2, ⟨hk.1.1.1.1.2, ⟨hk.1.1.1.2, ⟨hk.1.1.2, ⟨hk.1.2, hk.1.1.1.1.1.1.1⟩⟩⟩⟩⟩⟩)⟩
       have n8_ : Aside0 (((w41.setCell ⟨gb532, 0, none⟩ (.slice Ao42 t525.length co42)).setCell ⟨gb532, 1, none⟩ (.slice Ao46 t528.length co46)).heap[gb497]? = some (.cells #[.slice A0_0 l0_0.length c0_0, .slice A0_1 l0_1.length c0_1] 29 (0, 0))) := ⟨by (with_reducible repeat (first | refine blk_drewN ?_ _ | refine blk_drew ?_ | refine blk_alloc ?_ _)); refine blk_far ?_ NB497_532.out _; (with_reducible repeat (first | refine blk_drewN ?_ _ | refine blk_drew ?_ | refine blk_alloc ?_ _)); refine blk_far ?_ NB497_532.out _; (with_reducible repeat (first | refine blk_drewN ?_ _ | refine blk_drew ?_ | refine blk_alloc ?_ _)); exact BK497.out⟩
       have n9_ : Aside0 (((w41.setCell ⟨gb532, 0, none⟩ (.slice Ao42 t525.length co42)).setCell ⟨gb532, 1, none⟩ (.slice Ao46 t528.length co46)).heap[gb524]? = some (.cells #[.slice Ao35 t517.length co35, .slice Ao38 t520.length co38] 29 (0, 0))) := ⟨by (with_reducible repeat (first | refine blk_drewN ?_ _ | refine blk_drew ?_ | refine blk_alloc ?_ _)); refine blk_far ?_ NB524_532.out _; (with_reducible repeat (first | refine blk_drewN ?_ _ | refine blk_drew ?_ | refine blk_alloc ?_ _)); refine blk_far ?_ NB524_532.out _; (with_reducible repeat (first | refine blk_drewN ?_ _ | refine blk_drew ?_ | refine blk_alloc ?_ _)); exact BK524.out⟩
       have n10_ : Aside0 (((w41.setCell ⟨gb532, 0, none⟩ (.slice Ao42 t525.length co42)).setCell ⟨gb532, 1, none⟩ (.slice Ao46 t528.length co46)).heap[gb532]? = some (.cells #[.slice Ao42 t525.length co42, .slice Ao46 t528.length co46] 29 (0, 0))) := ⟨by (with_reducible repeat (first | refine blk_drewN ?_ _ | refine blk_drew ?_ | refine blk_alloc ?_ _)); refine blk_put (cs := #[.slice Ao42 t525.length co42, .slice none 0 0]) ?_ 1 _ rfl; (with_reducible repeat (first | refine blk_drewN ?_ _ | refine blk_drew ?_ | refine blk_alloc ?_ _)); refine blk_put (cs := #[.slice none 0 0, .slice none 0 0]) ?_ 0 _ rfl; (with_reducible repeat (first | refine blk_drewN ?_ _ | refine blk_drew ?_ | refine blk_alloc ?_ _)); exact BK532.out⟩
       have n11_ : Aside0 (Below w.heap.size w ((w41.setCell ⟨gb532, 0, none⟩ (.slice Ao42 t525.length co42)).setCell ⟨gb532, 1, none⟩ (.slice Ao46 t528.length co46))) := ⟨by repeat (first | (with_reducible first | exact HB.out | apply below_alloc | apply pw_below_drewN | apply below_drew1 | refine below_set ?_ GE497.out | refine below_set ?_ GE524.out | refine below_set ?_ GE532.out) | exact HB.out)⟩
       (try clear HO503)
       (try clear HO506)
       (try clear HO513)
       (try clear HO516)
       (try clear HO519)
       (try clear HO522)
       (try clear HO527)
       (try clear HO530)
       (try clear BK497)
       (try clear BK524)
       (try clear BK532)
       (try clear HB)
       generalize ((w41.setCell ⟨gb532, 0, none⟩ (.slice Ao42 t525.length co42)).setCell ⟨gb532, 1, none⟩ (.slice Ao46 t528.length co46)) = w70 at n0_ n1_ n2_ n3_ n4_ n5_ n6_ n7_ n8_ n9_ n10_ n11_ ⊢
       have HO503 := n0_
       have HO506 := n1_
       have HO513 := n2_
       have HO516 := n3_
       have HO519 := n4_
       have HO522 := n5_
       have HO527 := n6_
       have HO530 := n7_
       have BK497 := n8_
       have BK524 := n9_
       have BK532 := n10_
       have HB := n11_
       clear n0_ n1_ n2_ n3_ n4_ n5_ n6_ n7_ n8_ n9_ n10_ n11_
       have n0_ := Aside0.mk (Kd.R_drew HO503.out)
       have n1_ := Aside0.mk (Kd.R_drew HO506.out)
       have n2_ := Aside0.mk (Kd.R_drew HO513.out)
       have n3_ := Aside0.mk (Kd.R_drew HO516.out)
       have n4_ := Aside0.mk (Kd.R_drew HO519.out)
       have n5_ := Aside0.mk (Kd.R_drew HO522.out)
       have n6_ := Aside0.mk (Kd.R_drew HO527.out)
       have n7_ := Aside0.mk (Kd.R_drew HO530.out)
       have n8_ := Aside0.mk (blk_drew BK497.out)
       have n9_ := Aside0.mk (blk_drew BK524.out)
       have n10_ := Aside0.mk (blk_drew BK532.out)
       have n11_ := Aside0.mk (below_drew1 HB.out)
       clear HO503
       clear HO506
       clear HO513
       clear HO516
       clear HO519
       clear HO522
       clear HO527
       clear HO530
       clear BK497
       clear BK524
       clear BK532
       clear HB
       have HO503 := n0_
       have HO506 := n1_
       have HO513 := n2_
       have HO516 := n3_
       have HO519 := n4_
       have HO522 := n5_
       have HO527 := n6_
       have HO530 := n7_
       have BK497 := n8_
       have BK524 := n9_
       have BK532 := n10_
       have HB := n11_
       clear n0_ n1_ n2_ n3_ n4_ n5_ n6_ n7_ n8_ n9_ n10_ n11_
       refine start_ (n := 27) (S := fun w' => w'.cell? ⟨gb497, 0, none⟩ = some (.slice A0_0 l0_0.length c0_0) ∧ w'.cell? ⟨gb497, 1, none⟩ = some (.slice A0_1 l0_1.length c0_1)) (ds := []) #[false, false, false, false, false, false, false, false, false, false, false, false, false, false, false, false, false, false, false, false, false, false, false, false, false, false, false] zK rfl rfl ⟨(blk_cell BK497.out 0).trans rfl, (blk_cell BK497.out 1).trans rfl⟩ (fun hHeld => ?_); refine with_tabW ancepslaw38_TableValid.tab7 ancepslaw38_TableValid.bits7 (fun HT_ HW_ => ?_)
       generalize w70.drew = w71 at HO503 HO506 HO513 HO516 HO519 HO522 HO527 HO530 BK497 BK524 BK532 HB hHeld ⊢
       refine take_ (i := 0) (N := some 45) (v := ?_) (a' := ?_) #[true, false, false, false, false, false, false, false, false, false, false, false, false, false, false, false, false, false, false, false, false, false, false, false, false, false, false] rfl rfl (take_ofW HT_.out HW_.out zK) (fun _ _ _ h => h) (Or.inl ⟨by rfl, ?_⟩) hHeld ?_ ?_
       rotate_left
       ·rintro w' ⟨s0, s1⟩
        go_simp
        with_reducible rfl
       rotate_left
       ·simp only [Act.put, List.setIfInBounds_toArray, List.set_cons_zero, List.set_cons_succ, i64_w, i32_w]
        rfl
       refine take_ (i := 3) (N := some 48) (v := ?_) (a' := ?_) #[true, false, false, true, false, false, false, false, false, false, false, false, false, false, false, false, false, false, false, false, false, false, false, false, false, false, false] rfl rfl (take_ofW HT_.out HW_.out zK) (fun _ _ _ h => h) (Or.inl ⟨by rfl, ?_⟩) hHeld ?_ ?_
       rotate_left
       ·rintro w' ⟨s0, s1⟩
        go_simp
        with_reducible rfl
       rotate_left
       ·simp only [Act.put, List.setIfInBounds_toArray, List.set_cons_zero, List.set_cons_succ, i64_w, i32_w]
        rfl
       refine one_ (i := 1) (N := some 46) #[true, true, false, true, false, false, false, false, false, false, false, false, false, false, false, false, false, false, false, false, false, false, false, false, false, false, false] rfl rfl (one_of HT_.out zK) (by decide) (fun K hK => ?_)
       refine goes_ Try.func21 zK rfl #[.agg #[.slice A0_0 l0_0.length c0_0, .slice A0_1 l0_1.length c0_1]] (by rfl) rfl rfl zM ?_
       with_reducible refine (ancepslaw38_own.calls _ _ l0_0 _ _ l0_1 t533 t536 _ ?side1 ?side2 ?side3 ?side4 A47.out).mono ?_
       (case side1 => repeat (first | exact (Kd.C_below HR0_0.out HB.out) | (with_reducible refine Kd.C_alloc ?_ _) | (with_reducible refine Kd.C_drewN ?_ _) | (with_reducible refine Kd.C_drew ?_)))
       (case side2 => exact HC0_0.out)
       (case side3 => repeat (first | exact (Kd.C_below HR0_1.out HB.out) | (with_reducible refine Kd.C_alloc ?_ _) | (with_reducible refine Kd.C_drewN ?_ _) | (with_reducible refine Kd.C_drew ?_)))
       (case side4 => exact HC0_1.out)
       rintro e w72 ⟨v534, v537, rfl, ho0, ho1, hb⟩
       refine ⟨_, rfl, ?_⟩
       have n0_ := Aside0.mk (Kd.R_mono (Kd.R_told (Kd.R_told (Kd.R_old (zR HO503) hb) (Kd.R_base ho0)) (Kd.R_base ho1)) (fun _ h_ => h_.1))
       have n1_ := Aside0.mk (Kd.R_mono (Kd.R_told (Kd.R_told (Kd.R_old (zR HO506) hb) (Kd.R_base ho0)) (Kd.R_base ho1)) (fun _ h_ => h_.1))
       have n2_ := Aside0.mk (Kd.R_mono (Kd.R_told (Kd.R_told (Kd.R_old (zR HO513) hb) (Kd.R_base ho0)) (Kd.R_base ho1)) (fun _ h_ => h_.1))
       have n3_ := Aside0.mk (Kd.R_mono (Kd.R_told (Kd.R_told (Kd.R_old (zR HO516) hb) (Kd.R_base ho0)) (Kd.R_base ho1)) (fun _ h_ => h_.1))
       have n4_ := Aside0.mk (Kd.R_mono (Kd.R_told (Kd.R_told (Kd.R_old (zR HO519) hb) (Kd.R_base ho0)) (Kd.R_base ho1)) (fun _ h_ => h_.1))
       have n5_ := Aside0.mk (Kd.R_mono (Kd.R_told (Kd.R_told (Kd.R_old (zR HO522) hb) (Kd.R_base ho0)) (Kd.R_base ho1)) (fun _ h_ => h_.1))
       have n6_ := Aside0.mk (Kd.R_mono (Kd.R_told (Kd.R_told (Kd.R_old (zR HO527) hb) (Kd.R_base ho0)) (Kd.R_base ho1)) (fun _ h_ => h_.1))
       have n7_ := Aside0.mk (Kd.R_mono (Kd.R_told (Kd.R_told (Kd.R_old (zR HO530) hb) (Kd.R_base ho0)) (Kd.R_base ho1)) (fun _ h_ => h_.1))
       have n8_ := Aside0.mk (Kd.R_lower (Kd.R_new' (Kd.R_new' (Kd.R_new' (Kd.R_new' (Kd.R_new' (Kd.R_new' (Kd.R_new' (Kd.R_new' ho0 (Kd.R_lt (zR HO503))) (Kd.R_lt (zR HO506))) (Kd.R_lt (zR HO513))) (Kd.R_lt (zR HO516))) (Kd.R_lt (zR HO519))) (Kd.R_lt (zR HO522))) (Kd.R_lt (zR HO527))) (Kd.R_lt (zR HO530))) (below_size zB))
       have n9_ := Aside0.mk (Kd.R_lower (Kd.R_new' (Kd.R_new' (Kd.R_new' (Kd.R_new' (Kd.R_new' (Kd.R_new' (Kd.R_new' (Kd.R_new' ho1 (Kd.R_lt (zR HO503))) (Kd.R_lt (zR HO506))) (Kd.R_lt (zR HO513))) (Kd.R_lt (zR HO516))) (Kd.R_lt (zR HO519))) (Kd.R_lt (zR HO522))) (Kd.R_lt (zR HO527))) (Kd.R_lt (zR HO530))) (below_size zB))
       have n10_ := Aside0.mk (blk_below (g := gb497) (o := .cells #[.slice A0_0 l0_0.length c0_0, .slice A0_1 l0_1.length c0_1] 29 (0, 0)) (zk BK497) hb)
       have n11_ := Aside0.mk (blk_below (g := gb524) (o := .cells #[.slice Ao35 t517.length co35, .slice Ao38 t520.length co38] 29 (0, 0)) (zk BK524) hb)
       have n12_ := Aside0.mk (blk_below (g := gb532) (o := .cells #[.slice Ao42 t525.length co42, .slice Ao46 t528.length co46] 29 (0, 0)) (zk BK532) hb)
       have n13_ := Aside0.mk (below_step zB hb)
       clear HO503
       clear HO506
       clear HO513
       clear HO516
       clear HO519
       clear HO522
       clear HO527
       clear HO530
       clear BK497
       clear BK524
       clear BK532
       clear HB
       have HO503 := n0_
       have HO506 := n1_
       have HO513 := n2_
       have HO516 := n3_
       have HO519 := n4_
       have HO522 := n5_
       have HO527 := n6_
       have HO530 := n7_
       have HO535 := n8_
       have HO538 := n9_
       have BK497 := n10_
       have BK524 := n11_
       have BK532 := n12_
       have HB := n13_
       clear n0_ n1_ n2_ n3_ n4_ n5_ n6_ n7_ n8_ n9_ n10_ n11_ n12_ n13_
       (try clear hb)
       (try clear hb2)
       (try clear hk)
       (try clear hi)
       (try clear ho0)
       (try clear ho1)
       obtain ⟨Ao73, co73, eo73⟩ := Kd.R_slice HO535.out
       (first | subst eo73 | (injection eo73 with f1_ f2_ f3_; have f4_ := f1_.symm; have f5_ := f3_.symm; clear f1_ f2_ f3_; subst f4_; subst f5_))
       obtain ⟨Ao74, co74, eo74⟩ := Kd.R_slice HO538.out
       (first | subst eo74 | (injection eo74 with f1_ f2_ f3_; have f4_ := f1_.symm; have f5_ := f3_.symm; clear f1_ f2_ f3_; subst f4_; subst f5_))
       refine hK.out _ _ ⟨(blk_cell BK497.out 0).trans rfl, (blk_cell BK497.out 1).trans rfl⟩ (fun hHeld => ?_)
       clear hK K
       refine norm_ (a' := ?_) ?_ ?_
       rotate_left
       ·show Act.put _ (some 46) _ = _
        simp only [Act.put, List.setIfInBounds_toArray, List.set_cons_zero, List.set_cons_succ, i64_w, i32_w]
        rfl
       refine one_ (i := 2) (N := some 47) #[true, true, true, true, false, false, false, false, false, false, false, false, false, false, false, false, false, false, false, false, false, false, false, false, false, false, false] rfl rfl (one_of HT_.out zK) (by decide) (fun K hK => ?_)
       refine goes_ Try.func25 zK rfl #[.agg #[.slice Ao73 t533.length co73, .slice Ao74 t536.length co74]] (by rfl) rfl rfl zM ?_
       with_reducible refine (table_Valid.calls kj2 _ _ t533 _ _ t536 t539 _ ?side1 ?side2 ?side3 ?side4 A48.out).mono ?_
       (case side1 => repeat (first | exact (Kd.R_reads' HO535.out).2.2 | (with_reducible refine Kd.C_alloc ?_ _) | (with_reducible refine Kd.C_drewN ?_ _) | (with_reducible refine Kd.C_drew ?_)))
       (case side2 => exact (Kd.R_reads' HO535.out).2.1)
       (case side3 => repeat (first | exact (Kd.R_reads' HO538.out).2.2 | (with_reducible refine Kd.C_alloc ?_ _) | (with_reducible refine Kd.C_drewN ?_ _) | (with_reducible refine Kd.C_drew ?_)))
       (case side4 => exact (Kd.R_reads' HO538.out).2.1)
       rintro e w75 ⟨rfl, hb⟩
       refine ⟨_, rfl, ?_⟩
       have n0_ := Aside0.mk (Kd.R_below (zR HO503) hb)
       have n1_ := Aside0.mk (Kd.R_below (zR HO506) hb)
       have n2_ := Aside0.mk (Kd.R_below (zR HO513) hb)
       have n3_ := Aside0.mk (Kd.R_below (zR HO516) hb)
       have n4_ := Aside0.mk (Kd.R_below (zR HO519) hb)
       have n5_ := Aside0.mk (Kd.R_below (zR HO522) hb)
       have n6_ := Aside0.mk (Kd.R_below (zR HO527) hb)
       have n7_ := Aside0.mk (Kd.R_below (zR HO530) hb)
       have n8_ := Aside0.mk (Kd.R_below (zR HO535) hb)
       have n9_ := Aside0.mk (Kd.R_below (zR HO538) hb)
       have n10_ := Aside0.mk (blk_below (g := gb497) (o := .cells #[.slice A0_0 l0_0.length c0_0, .slice A0_1 l0_1.length c0_1] 29 (0, 0)) (zk BK497) hb)
       have n11_ := Aside0.mk (blk_below (g := gb524) (o := .cells #[.slice Ao35 t517.length co35, .slice Ao38 t520.length co38] 29 (0, 0)) (zk BK524) hb)
       have n12_ := Aside0.mk (blk_below (g := gb532) (o := .cells #[.slice Ao42 t525.length co42, .slice Ao46 t528.length co46] 29 (0, 0)) (zk BK532) hb)
       have n13_ := Aside0.mk (below_step zB hb)
       clear HO503
       clear HO506
       clear HO513
       clear HO516
       clear HO519
       clear HO522
       clear HO527
       clear HO530
       clear HO535
       clear HO538
       clear BK497
       clear BK524
       clear BK532
       clear HB
       have HO503 := n0_
       have HO506 := n1_
       have HO513 := n2_
       have HO516 := n3_
       have HO519 := n4_
       have HO522 := n5_
       have HO527 := n6_
       have HO530 := n7_
       have HO535 := n8_
       have HO538 := n9_
       have BK497 := n10_
       have BK524 := n11_
       have BK532 := n12_
       have HB := n13_
       clear n0_ n1_ n2_ n3_ n4_ n5_ n6_ n7_ n8_ n9_ n10_ n11_ n12_ n13_
       (try clear hb)
       (try clear hb2)
       (try clear hk)
       (try clear hi)
       refine hK.out _ _ ⟨(blk_cell BK497.out 0).trans rfl, (blk_cell BK497.out 1).trans rfl⟩ (fun hHeld => ?_)
       clear hK K
       refine norm_ (a' := ?_) ?_ ?_
       rotate_left
       ·show Act.put _ (some 47) _ = _
        simp only [Act.put, List.setIfInBounds_toArray, List.set_cons_zero, List.set_cons_succ, i64_w, i32_w]
        rfl
       refine one_ (i := 4) (N := some 49) #[true, true, true, true, true, false, false, false, false, false, false, false, false, false, false, false, false, false, false, false, false, false, false, false, false, false, false] rfl rfl (one_of HT_.out zK) (by decide) (fun K hK => ?_)
       refine goes_ Try.func26 zK rfl #[.agg #[.slice A0_0 l0_0.length c0_0, .slice A0_1 l0_1.length c0_1]] (by rfl) rfl rfl zM ?_
       with_reducible refine (ancepsref38_Valid.calls kj2 _ _ l0_0 _ _ l0_1 t540 _ ?side1 ?side2 ?side3 ?side4 A49.out).mono ?_
       (case side1 => repeat (first | exact (Kd.C_below HR0_0.out HB.out) | (with_reducible refine Kd.C_alloc ?_ _) | (with_reducible refine Kd.C_drewN ?_ _) | (with_reducible refine Kd.C_drew ?_)))
       (case side2 => exact HC0_0.out)
       (case side3 => repeat (first | exact (Kd.C_below HR0_1.out HB.out) | (with_reducible refine Kd.C_alloc ?_ _) | (with_reducible refine Kd.C_drewN ?_ _) | (with_reducible refine Kd.C_drew ?_)))
       (case side4 => exact HC0_1.out)
       rintro e w76 ⟨rfl, hb⟩
       refine ⟨_, rfl, ?_⟩
       have n0_ := Aside0.mk (Kd.R_below (zR HO503) hb)
       have n1_ := Aside0.mk (Kd.R_below (zR HO506) hb)
       have n2_ := Aside0.mk (Kd.R_below (zR HO513) hb)
       have n3_ := Aside0.mk (Kd.R_below (zR HO516) hb)
       have n4_ := Aside0.mk (Kd.R_below (zR HO519) hb)
       have n5_ := Aside0.mk (Kd.R_below (zR HO522) hb)
       have n6_ := Aside0.mk (Kd.R_below (zR HO527) hb)
       have n7_ := Aside0.mk (Kd.R_below (zR HO530) hb)
       have n8_ := Aside0.mk (Kd.R_below (zR HO535) hb)
       have n9_ := Aside0.mk (Kd.R_below (zR HO538) hb)
       have n10_ := Aside0.mk (blk_below (g := gb497) (o := .cells #[.slice A0_0 l0_0.length c0_0, .slice A0_1 l0_1.length c0_1] 29 (0, 0)) (zk BK497) hb)
       have n11_ := Aside0.mk (blk_below (g := gb524) (o := .cells #[.slice Ao35 t517.length co35, .slice Ao38 t520.length co38] 29 (0, 0)) (zk BK524) hb)
       have n12_ := Aside0.mk (blk_below (g := gb532) (o := .cells #[.slice Ao42 t525.length co42, .slice Ao46 t528.length co46] 29 (0, 0)) (zk BK532) hb)
       have n13_ := Aside0.mk (below_step zB hb)
       clear HO503
       clear HO506
       clear HO513
       clear HO516
       clear HO519
       clear HO522
       clear HO527
       clear HO530
       clear HO535
       clear HO538
       clear BK497
       clear BK524
       clear BK532
       clear HB
       have HO503 := n0_
       have HO506 := n1_
       have HO513 := n2_
       have HO516 := n3_
       have HO519 := n4_
       have HO522 := n5_
       have HO527 := n6_
       have HO530 := n7_
       have HO535 := n8_
       have HO538 := n9_
       have BK497 := n10_
       have BK524 := n11_
       have BK532 := n12_
       have HB := n13_
       clear n0_ n1_ n2_ n3_ n4_ n5_ n6_ n7_ n8_ n9_ n10_ n11_ n12_ n13_
       (try clear hb)
       (try clear hb2)
       (try clear hk)
       (try clear hi)
       refine hK.out _ _ ⟨(blk_cell BK497.out 0).trans rfl, (blk_cell BK497.out 1).trans rfl⟩ (fun hHeld => ?_)
       clear hK K
       refine norm_ (a' := ?_) ?_ ?_
       rotate_left
       ·show Act.put _ (some 49) _ = _
        simp only [Act.put, List.setIfInBounds_toArray, List.set_cons_zero, List.set_cons_succ, i64_w, i32_w]
        rfl
       refine pure_ (i := 5) (N := some 50) (v := ?_) (a' := ?_) #[true, true, true, true, true, true, false, false, false, false, false, false, false, false, false, false, false, false, false, false, false, false, false, false, false, false, false] rfl rfl (any_of HT_.out zK) (fun _ _ _ h => h) (Or.inl ⟨by rfl, ?_⟩) ?_ ?_
       rotate_left
       ·intro w'
        go_simp
        with_reducible rfl
       rotate_left
       ·simp only [Act.put, List.setIfInBounds_toArray, List.set_cons_zero, List.set_cons_succ, i64_w, i32_w]
        rfl
       refine pure_ (i := 6) (N := some 51) (v := ?_) (a' := ?_) #[true, true, true, true, true, true, true, false, false, false, false, false, false, false, false, false, false, false, false, false, false, false, false, false, false, false, false] rfl rfl (any_of HT_.out zK) (fun _ _ _ h => h) (Or.inl ⟨by rfl, ?_⟩) ?_ ?_
       rotate_left
       ·intro w'
        go_simp
        with_reducible rfl
       rotate_left
       ·simp only [Act.put, List.setIfInBounds_toArray, List.set_cons_zero, List.set_cons_succ, i64_w, i32_w]
        rfl
       refine pure_ (i := 7) (N := some 52) (v := ?_) (a' := ?_) #[true, true, true, true, true, true, true, true, false, false, false, false, false, false, false, false, false, false, false, false, false, false, false, false, false, false, false] rfl rfl (any_of HT_.out zK) (fun _ _ _ h => h) (Or.inl ⟨by rfl, ?_⟩) ?_ ?_
       rotate_left
       ·intro w'
        go_simp
        with_reducible rfl
       rotate_left
       ·simp only [Act.put, List.setIfInBounds_toArray, List.set_cons_zero, List.set_cons_succ, i64_w, i32_w]
        rfl
       refine pure_ (i := 8) (N := some 53) (v := ?_) (a' := ?_) #[true, true, true, true, true, true, true, true, true, false, false, false, false, false, false, false, false, false, false, false, false, false, false, false, false, false, false] rfl rfl (any_of HT_.out zK) (fun _ _ _ h => h) (Or.inl ⟨by rfl, ?_⟩) ?_ ?_
       rotate_left
       ·intro w'
        go_simp
        with_reducible rfl
       rotate_left
       ·simp only [Act.put, List.setIfInBounds_toArray, List.set_cons_zero, List.set_cons_succ, i64_w, i32_w]
        rfl
       refine pure_ (i := 9) (N := some 54) (v := ?_) (a' := ?_) #[true, true, true, true, true, true, true, true, true, true, false, false, false, false, false, false, false, false, false, false, false, false, false, false, false, false, false] rfl rfl (any_of HT_.out zK) (fun _ _ _ h => h) (Or.inl ⟨by rfl, ?_⟩) ?_ ?_
       rotate_left
       ·intro w'
        go_simp
        with_reducible rfl
       rotate_left
       ·simp only [Act.put, List.setIfInBounds_toArray, List.set_cons_zero, List.set_cons_succ, i64_w, i32_w]
        rfl
       refine pure_ (i := 10) (N := some 55) (v := ?_) (a' := ?_) #[true, true, true, true, true, true, true, true, true, true, true, false, false, false, false, false, false, false, false, false, false, false, false, false, false, false, false] rfl rfl (any_of HT_.out zK) (fun _ _ _ h => h) (Or.inl ⟨by rfl, ?_⟩) ?_ ?_
       rotate_left
       ·intro w'
        go_simp
        with_reducible rfl
       rotate_left
       ·simp only [Act.put, List.setIfInBounds_toArray, List.set_cons_zero, List.set_cons_succ, i64_w, i32_w]
        rfl
       refine pure_ (i := 11) (N := some 56) (v := ?_) (a' := ?_) #[true, true, true, true, true, true, true, true, true, true, true, true, false, false, false, false, false, false, false, false, false, false, false, false, false, false, false] rfl rfl (any_of HT_.out zK) (fun _ _ _ h => h) (Or.inl ⟨by rfl, ?_⟩) ?_ ?_
       rotate_left
       ·intro w'
        go_simp
        with_reducible rfl
       rotate_left
       ·simp only [Act.put, List.setIfInBounds_toArray, List.set_cons_zero, List.set_cons_succ, i64_w, i32_w]
        rfl
       refine pure_ (i := 12) (N := some 57) (v := ?_) (a' := ?_) #[true, true, true, true, true, true, true, true, true, true, true, true, true, false, false, false, false, false, false, false, false, false, false, false, false, false, false] rfl rfl (any_of HT_.out zK) (fun _ _ _ h => h) (Or.inl ⟨by rfl, ?_⟩) ?_ ?_
       rotate_left
       ·intro w'
        go_simp
        with_reducible rfl
       rotate_left
       ·simp only [Act.put, List.setIfInBounds_toArray, List.set_cons_zero, List.set_cons_succ, i64_w, i32_w]
        rfl
       refine pure_ (i := 13) (N := some 58) (v := ?_) (a' := ?_) #[true, true, true, true, true, true, true, true, true, true, true, true, true, true, false, false, false, false, false, false, false, false, false, false, false, false, false] rfl rfl (any_of HT_.out zK) (fun _ _ _ h => h) (Or.inl ⟨by rfl, ?_⟩) ?_ ?_
       rotate_left
       ·intro w'
        go_simp
        with_reducible rfl
       rotate_left
       ·simp only [Act.put, List.setIfInBounds_toArray, List.set_cons_zero, List.set_cons_succ, i64_w, i32_w]
        rfl
       refine pure_ (i := 14) (N := some 59) (v := ?_) (a' := ?_) #[true, true, true, true, true, true, true, true, true, true, true, true, true, true, true, false, false, false, false, false, false, false, false, false, false, false, false] rfl rfl (any_of HT_.out zK) (fun _ _ _ h => h) (Or.inl ⟨by rfl, ?_⟩) ?_ ?_
       rotate_left
       ·intro w'
        go_simp
        with_reducible rfl
       rotate_left
       ·simp only [Act.put, List.setIfInBounds_toArray, List.set_cons_zero, List.set_cons_succ, i64_w, i32_w]
        rfl
       refine pure_ (i := 15) (N := some 60) (v := ?_) (a' := ?_) #[true, true, true, true, true, true, true, true, true, true, true, true, true, true, true, true, false, false, false, false, false, false, false, false, false, false, false] rfl rfl (any_of HT_.out zK) (fun _ _ _ h => h) (Or.inl ⟨by rfl, ?_⟩) ?_ ?_
       rotate_left
       ·intro w'
        go_simp
        with_reducible rfl
       rotate_left
       ·simp only [Act.put, List.setIfInBounds_toArray, List.set_cons_zero, List.set_cons_succ, i64_w, i32_w]
        rfl
       refine pure_ (i := 16) (N := some 61) (v := ?_) (a' := ?_) #[true, true, true, true, true, true, true, true, true, true, true, true, true, true, true, true, true, false, false, false, false, false, false, false, false, false, false] rfl rfl (any_of HT_.out zK) (fun _ _ _ h => h) (Or.inl ⟨by rfl, ?_⟩) ?_ ?_
       rotate_left
       ·intro w'
        go_simp
        with_reducible rfl
       rotate_left
       ·simp only [Act.put, List.setIfInBounds_toArray, List.set_cons_zero, List.set_cons_succ, i64_w, i32_w]
        rfl
       refine pure_ (i := 17) (N := some 62) (v := undef) (a' := ?_) #[true, true, true, true, true, true, true, true, true, true, true, true, true, true, true, true, true, true, false, false, false, false, false, false, false, false, false] rfl rfl (any_of HT_.out zK) (fun _ _ _ h => h) (Or.inr ⟨by rfl, rfl⟩) ?_ ?_
       rotate_left
       ·simp only [Act.put, List.setIfInBounds_toArray, List.set_cons_zero, List.set_cons_succ, i64_w, i32_w]
        rfl
       refine pure_ (i := 18) (N := some 63) (v := undef) (a' := ?_) #[true, true, true, true, true, true, true, true, true, true, true, true, true, true, true, true, true, true, true, false, false, false, false, false, false, false, false] rfl rfl (any_of HT_.out zK) (fun _ _ _ h => h) (Or.inr ⟨by rfl, rfl⟩) ?_ ?_
       rotate_left
       ·simp only [Act.put, List.setIfInBounds_toArray, List.set_cons_zero, List.set_cons_succ, i64_w, i32_w]
        rfl
       refine pure_ (i := 19) (N := some 64) (v := undef) (a' := ?_) #[true, true, true, true, true, true, true, true, true, true, true, true, true, true, true, true, true, true, true, true, false, false, false, false, false, false, false] rfl rfl (any_of HT_.out zK) (fun _ _ _ h => h) (Or.inr ⟨by rfl, rfl⟩) ?_ ?_
       rotate_left
       ·simp only [Act.put, List.setIfInBounds_toArray, List.set_cons_zero, List.set_cons_succ, i64_w, i32_w]
        rfl
       refine pure_ (i := 20) (N := some 65) (v := ?_) (a' := ?_) #[true, true, true, true, true, true, true, true, true, true, true, true, true, true, true, true, true, true, true, true, true, false, false, false, false, false, false] rfl rfl (any_of HT_.out zK) (fun _ _ _ h => h) (Or.inl ⟨by rfl, ?_⟩) ?_ ?_
       rotate_left
       ·intro w'
        go_simp
        with_reducible rfl
       rotate_left
       ·simp only [Act.put, List.setIfInBounds_toArray, List.set_cons_zero, List.set_cons_succ, i64_w, i32_w]
        rfl
       refine pure_ (i := 21) (N := some 66) (v := ?_) (a' := ?_) #[true, true, true, true, true, true, true, true, true, true, true, true, true, true, true, true, true, true, true, true, true, true, false, false, false, false, false] rfl rfl (any_of HT_.out zK) (fun _ _ _ h => h) (Or.inl ⟨by rfl, ?_⟩) ?_ ?_
       rotate_left
       ·intro w'
        go_simp
        with_reducible rfl
       rotate_left
       ·simp only [Act.put, List.setIfInBounds_toArray, List.set_cons_zero, List.set_cons_succ, i64_w, i32_w]
        rfl
       refine pure_ (i := 22) (N := some 67) (v := undef) (a' := ?_) #[true, true, true, true, true, true, true, true, true, true, true, true, true, true, true, true, true, true, true, true, true, true, true, false, false, false, false] rfl rfl (any_of HT_.out zK) (fun _ _ _ h => h) (Or.inr ⟨by rfl, rfl⟩) ?_ ?_
       rotate_left
       ·simp only [Act.put, List.setIfInBounds_toArray, List.set_cons_zero, List.set_cons_succ, i64_w, i32_w]
        rfl
       refine pure_ (i := 23) (N := some 68) (v := undef) (a' := ?_) #[true, true, true, true, true, true, true, true, true, true, true, true, true, true, true, true, true, true, true, true, true, true, true, true, false, false, false] rfl rfl (any_of HT_.out zK) (fun _ _ _ h => h) (Or.inr ⟨by rfl, rfl⟩) ?_ ?_
       rotate_left
       ·simp only [Act.put, List.setIfInBounds_toArray, List.set_cons_zero, List.set_cons_succ, i64_w, i32_w]
        rfl
       refine pure_ (i := 24) (N := some 69) (v := undef) (a' := ?_) #[true, true, true, true, true, true, true, true, true, true, true, true, true, true, true, true, true, true, true, true, true, true, true, true, true, false, false] rfl rfl (any_of HT_.out zK) (fun _ _ _ h => h) (Or.inr ⟨by rfl, rfl⟩) ?_ ?_
       rotate_left
       ·simp only [Act.put, List.setIfInBounds_toArray, List.set_cons_zero, List.set_cons_succ, i64_w, i32_w]
        rfl
       refine pure_ (i := 25) (N := some 70) (v := ?_) (a' := ?_) #[true, true, true, true, true, true, true, true, true, true, true, true, true, true, true, true, true, true, true, true, true, true, true, true, true, true, false] rfl rfl (any_of HT_.out zK) (fun _ _ _ h => h) (Or.inl ⟨by rfl, ?_⟩) ?_ ?_
       rotate_left
       ·intro w'
        go_simp
        with_reducible rfl
       rotate_left
       ·simp only [Act.put, List.setIfInBounds_toArray, List.set_cons_zero, List.set_cons_succ, i64_w, i32_w]
        rfl
       refine pure_ (i := 26) (N := some 4) (v := ?_) (a' := ?_) #[true, true, true, true, true, true, true, true, true, true, true, true, true, true, true, true, true, true, true, true, true, true, true, true, true, true, true] rfl rfl (any_of HT_.out zK) (fun _ _ _ h => h) (Or.inl ⟨by rfl, ?_⟩) ?_ ?_
       rotate_left
       ·intro w'
        go_simp
        with_reducible rfl
       rotate_left
       ·simp only [Act.put, List.setIfInBounds_toArray, List.set_cons_zero, List.set_cons_succ, i64_w, i32_w]
        rfl
       refine done_ (done_of HT_.out zK) ?_
       try go_wp2
       go_ret
       exact ⟨by first | rfl | (simp [errW_none, errW_some] <;> rfl) | (simp [*, errW_none, errW_some] <;> rfl), by repeat (first | (with_reducible first | exact HB.out | apply below_alloc | apply pw_below_drewN | apply below_drew1 | refine below_set ?_ GE497.out | refine below_set ?_ GE524.out | refine below_set ?_ GE532.out) | exact HB.out)⟩
     ·rw [if_neg c51] at H
      have c51b0 : (t507 == t509) = false := by simpa using c51
      (try (have c51b1 : decide (t507 = t509) = false := by simpa using c51))
      (try (have c51b2 : (t507 == t509) = false := by simpa using c51))
      (try (have c51b3 : ¬ (t507 = t509) := by simpa using c51))
      clear c51
      obtain rfl := Option.some.inj H
      try go_wp2
      have n0_ : Aside0 (Kd.R (Kd.int .i64) 3 ((w41.setCell ⟨gb532, 0, none⟩ (.slice Ao42 t525.length co42)).setCell ⟨gb532, 1, none⟩ (.slice Ao46 t528.length co46)) w.heap.size (fun k_ => some k_ ≠ (.slice Ao25 t504.length co25 : Value).ownBlock ∧ some k_ ≠ (.slice Ao31 t511.length co31 : Value).ownBlock ∧ some k_ ≠ (.slice Ao32 t514.length co32 : Value).ownBlock ∧ some k_ ≠ (.slice Ao35 t517.length co35 : Value).ownBlock ∧ some k_ ≠ (.slice Ao38 t520.length co38 : Value).ownBlock ∧ some k_ ≠ (.slice Ao42 t525.length co42 : Value).ownBlock ∧ some k_ ≠ (.slice Ao46 t528.length co46 : Value).ownBlock) (.slice Ao24 t501.length co24) t501) := ⟨by (with_reducible repeat (first | apply Kd.R_alloc | apply Kd.R_drewN | apply Kd.R_drew)); exact Kd.R_mono (Kd.R_far (p := ⟨gb532, 1, none⟩) (Kd.R_far (p := ⟨gb532, 0, none⟩) (Kd.R_types HO503.out BK532.out (by decide)) (fun _ hk => hk.2) (.slice Ao42 t525.length co42)) (fun _ hk => hk.2) (.slice Ao46 t528.length co46)) (fun _ hk => ⟨hk.1.1.1.1.1.1.1, ⟨hk.1.1.1.1.1.1.2, ⟨hk.1.1.1.1.1.2, ⟨hk.1.1.1.1.2, ⟨hk.1.1.1.2, ⟨hk.1.1.2, hk.1.2⟩⟩⟩⟩⟩⟩)⟩
      have n1_ : Aside0 (Kd.R (Kd.int .i64) 3 ((w41.setCell ⟨gb532, 0, none⟩ (.slice Ao42 t525.length co42)).setCell ⟨gb532, 1, none⟩ (.slice Ao46 t528.length co46)) w.heap.size (fun k_ => some k_ ≠ (.slice Ao24 t501.length co24 : Value).ownBlock ∧ some k_ ≠ (.slice Ao31 t511.length co31 : Value).ownBlock ∧ some k_ ≠ (.slice Ao32 t514.length co32 : Value).ownBlock ∧ some k_ ≠ (.slice Ao35 t517.length co35 : Value).ownBlock ∧ some k_ ≠ (.slice Ao38 t520.length co38 : Value).ownBlock ∧ some k_ ≠ (.slice Ao42 t525.length co42 : Value).ownBlock ∧ some k_ ≠ (.slice Ao46 t528.length co46 : Value).ownBlock) (.slice Ao25 t504.length co25) t504) := ⟨by (with_reducible repeat (first | apply Kd.R_alloc | apply Kd.R_drewN | apply Kd.R_drew)); exact Kd.R_mono (Kd.R_far (p := ⟨gb532, 1, none⟩) (Kd.R_far (p := ⟨gb532, 0, none⟩) (Kd.R_types HO506.out BK532.out (by decide)) (fun _ hk => hk.2) (.slice Ao42 t525.length co42)) (fun _ hk => hk.2) (.slice Ao46 t528.length co46)) (fun _ hk => ⟨hk.1.1.1.1.1.1.1, ⟨hk.1.1.1.1.1.1.2, ⟨hk.1.1.1.1.1.2, ⟨hk.1.1.1.1.2, ⟨hk.1.1.1.2, ⟨hk.1.1.2, hk.1.2⟩⟩⟩⟩⟩⟩)⟩
      have n2_ : Aside0 (Kd.R (Kd.int .i64) 3 ((w41.setCell ⟨gb532, 0, none⟩ (.slice Ao42 t525.length co42)).setCell ⟨gb532, 1, none⟩ (.slice Ao46 t528.length co46)) w.heap.size (fun k_ => some k_ ≠ (.slice Ao24 t501.length co24 : Value).ownBlock ∧ some k_ ≠ (.slice Ao25 t504.length co25 : Value).ownBlock ∧ some k_ ≠ (.slice Ao32 t514.length co32 : Value).ownBlock ∧ some k_ ≠ (.slice Ao35 t517.length co35 : Value).ownBlock ∧ some k_ ≠ (.slice Ao38 t520.length co38 : Value).ownBlock ∧ some k_ ≠ (.slice Ao42 t525.length co42 : Value).ownBlock ∧ some k_ ≠ (.slice Ao46 t528.length co46 : Value).ownBlock) (.slice Ao31 t511.length co31) t511) := ⟨by (with_reducible repeat (first | apply Kd.R_alloc | apply Kd.R_drewN | apply Kd.R_drew)); exact Kd.R_mono (Kd.R_far (p := ⟨gb532, 1, none⟩) (Kd.R_far (p := ⟨gb532, 0, none⟩) (Kd.R_types HO513.out BK532.out (by decide)) (fun _ hk => hk.2) (.slice Ao42 t525.length co42)) (fun _ hk => hk.2) (.slice Ao46 t528.length co46)) (fun _ hk => ⟨hk.1.1.1.1.1.1.2, ⟨hk.1.1.1.1.1.2, ⟨hk.1.1.1.1.1.1.1, ⟨hk.1.1.1.1.2, ⟨hk.1.1.1.2, ⟨hk.1.1.2, hk.1.2⟩⟩⟩⟩⟩⟩)⟩
      have n3_ : Aside0 (Kd.R (Kd.int .i64) 3 ((w41.setCell ⟨gb532, 0, none⟩ (.slice Ao42 t525.length co42)).setCell ⟨gb532, 1, none⟩ (.slice Ao46 t528.length co46)) w.heap.size (fun k_ => some k_ ≠ (.slice Ao24 t501.length co24 : Value).ownBlock ∧ some k_ ≠ (.slice Ao25 t504.length co25 : Value).ownBlock ∧ some k_ ≠ (.slice Ao31 t511.length co31 : Value).ownBlock ∧ some k_ ≠ (.slice Ao35 t517.length co35 : Value).ownBlock ∧ some k_ ≠ (.slice Ao38 t520.length co38 : Value).ownBlock ∧ some k_ ≠ (.slice Ao42 t525.length co42 : Value).ownBlock ∧ some k_ ≠ (.slice Ao46 t528.length co46 : Value).ownBlock) (.slice Ao32 t514.length co32) t514) := ⟨by (with_reducible repeat (first | apply Kd.R_alloc | apply Kd.R_drewN | apply Kd.R_drew)); exact Kd.R_mono (Kd.R_far (p := ⟨gb532, 1, none⟩) (Kd.R_far (p := ⟨gb532, 0, none⟩) (Kd.R_types HO516.out BK532.out (by decide)) (fun _ hk => hk.2) (.slice Ao42 t525.length co42)) (fun _ hk => hk.2) (.slice Ao46 t528.length co46)) (fun _ hk => ⟨hk.1.1.1.1.1.1.2, ⟨hk.1.1.1.1.1.2, ⟨hk.1.1.1.1.1.1.1, ⟨hk.1.1.1.1.2, ⟨hk.1.1.1.2, ⟨hk.1.1.2, hk.1.2⟩⟩⟩⟩⟩⟩)⟩
      have n4_ : Aside0 (Kd.R (Kd.int .i64) 3 ((w41.setCell ⟨gb532, 0, none⟩ (.slice Ao42 t525.length co42)).setCell ⟨gb532, 1, none⟩ (.slice Ao46 t528.length co46)) w.heap.size (fun k_ => some k_ ≠ (.slice Ao24 t501.length co24 : Value).ownBlock ∧ some k_ ≠ (.slice Ao25 t504.length co25 : Value).ownBlock ∧ some k_ ≠ (.slice Ao31 t511.length co31 : Value).ownBlock ∧ some k_ ≠ (.slice Ao32 t514.length co32 : Value).ownBlock ∧ some k_ ≠ (.slice Ao38 t520.length co38 : Value).ownBlock ∧ some k_ ≠ (.slice Ao42 t525.length co42 : Value).ownBlock ∧ some k_ ≠ (.slice Ao46 t528.length co46 : Value).ownBlock) (.slice Ao35 t517.length co35) t517) := ⟨by (with_reducible repeat (first | apply Kd.R_alloc | apply Kd.R_drewN | apply Kd.R_drew)); exact Kd.R_mono (Kd.R_far (p := ⟨gb532, 1, none⟩) (Kd.R_far (p := ⟨gb532, 0, none⟩) (Kd.R_types HO519.out BK532.out (by decide)) (fun _ hk => hk.2) (.slice Ao42 t525.length co42)) (fun _ hk => hk.2) (.slice Ao46 t528.length co46)) (fun _ hk => ⟨hk.1.1.1.1.1.1.2, ⟨hk.1.1.1.1.1.2, ⟨hk.1.1.1.1.2, ⟨hk.1.1.1.2, ⟨hk.1.1.1.1.1.1.1, ⟨hk.1.1.2, hk.1.2⟩⟩⟩⟩⟩⟩)⟩
      have n5_ : Aside0 (Kd.R (Kd.int .i64) 3 ((w41.setCell ⟨gb532, 0, none⟩ (.slice Ao42 t525.length co42)).setCell ⟨gb532, 1, none⟩ (.slice Ao46 t528.length co46)) w.heap.size (fun k_ => some k_ ≠ (.slice Ao24 t501.length co24 : Value).ownBlock ∧ some k_ ≠ (.slice Ao25 t504.length co25 : Value).ownBlock ∧ some k_ ≠ (.slice Ao31 t511.length co31 : Value).ownBlock ∧ some k_ ≠ (.slice Ao32 t514.length co32 : Value).ownBlock ∧ some k_ ≠ (.slice Ao35 t517.length co35 : Value).ownBlock ∧ some k_ ≠ (.slice Ao42 t525.length co42 : Value).ownBlock ∧ some k_ ≠ (.slice Ao46 t528.length co46 : Value).ownBlock) (.slice Ao38 t520.length co38) t520) := ⟨by (with_reducible repeat (first | apply Kd.R_alloc | apply Kd.R_drewN | apply Kd.R_drew)); exact Kd.R_mono (Kd.R_far (p := ⟨gb532, 1, none⟩) (Kd.R_far (p := ⟨gb532, 0, none⟩) (Kd.R_types HO522.out BK532.out (by decide)) (fun _ hk => hk.2) (.slice Ao42 t525.length co42)) (fun _ hk => hk.2) (.slice Ao46 t528.length co46)) (fun _ hk => ⟨hk.1.1.1.1.1.1.2, ⟨hk.1.1.1.1.1.2, ⟨hk.1.1.1.1.2, ⟨hk.1.1.1.2, ⟨hk.1.1.1.1.1.1.1, ⟨hk.1.1.2, hk.1.2⟩⟩⟩⟩⟩⟩)⟩
      have n6_ : Aside0 (Kd.R (Kd.int .i64) 3 ((w41.setCell ⟨gb532, 0, none⟩ (.slice Ao42 t525.length co42)).setCell ⟨gb532, 1, none⟩ (.slice Ao46 t528.length co46)) w.heap.size (fun k_ => some k_ ≠ (.slice Ao24 t501.length co24 : Value).ownBlock ∧ some k_ ≠ (.slice Ao25 t504.length co25 : Value).ownBlock ∧ some k_ ≠ (.slice Ao31 t511.length co31 : Value).ownBlock ∧ some k_ ≠ (.slice Ao32 t514.length co32 : Value).ownBlock ∧ some k_ ≠ (.slice Ao35 t517.length co35 : Value).ownBlock ∧ some k_ ≠ (.slice Ao38 t520.length co38 : Value).ownBlock ∧ some k_ ≠ (.slice Ao46 t528.length co46 : Value).ownBlock) (.slice Ao42 t525.length co42) t525) := ⟨by (with_reducible repeat (first | apply Kd.R_alloc | apply Kd.R_drewN | apply Kd.R_drew)); exact Kd.R_mono (Kd.R_far (p := ⟨gb532, 1, none⟩) (Kd.R_far (p := ⟨gb532, 0, none⟩) (Kd.R_types HO527.out BK532.out (by decide)) (fun _ hk => hk.2) (.slice Ao42 t525.length co42)) (fun _ hk => hk.2) (.slice Ao46 t528.length co46)) (fun _ hk => ⟨hk.1.1.1.1.1.1.2, ⟨hk.1.1.1.1.1.2, ⟨hk.1.1.1.1.2, ⟨hk.1.1.1.2, ⟨hk.1.1.2, ⟨hk.1.2, hk.1.1.1.1.1.1.1⟩⟩⟩⟩⟩⟩)⟩
      have n7_ : Aside0 (Kd.R (Kd.int .i64) 3 ((w41.setCell ⟨gb532, 0, none⟩ (.slice Ao42 t525.length co42)).setCell ⟨gb532, 1, none⟩ (.slice Ao46 t528.length co46)) w.heap.size (fun k_ => some k_ ≠ (.slice Ao24 t501.length co24 : Value).ownBlock ∧ some k_ ≠ (.slice Ao25 t504.length co25 : Value).ownBlock ∧ some k_ ≠ (.slice Ao31 t511.length co31 : Value).ownBlock ∧ some k_ ≠ (.slice Ao32 t514.length co32 : Value).ownBlock ∧ some k_ ≠ (.slice Ao35 t517.length co35 : Value).ownBlock ∧ some k_ ≠ (.slice Ao38 t520.length co38 : Value).ownBlock ∧ some k_ ≠ (.slice Ao42 t525.length co42 : Value).ownBlock) (.slice Ao46 t528.length co46) t528) := ⟨by (with_reducible repeat (first | apply Kd.R_alloc | apply Kd.R_drewN | apply Kd.R_drew)); exact Kd.R_mono (Kd.R_far (p := ⟨gb532, 1, none⟩) (Kd.R_far (p := ⟨gb532, 0, none⟩) (Kd.R_types HO530.out BK532.out (by decide)) (fun _ hk => hk.2) (.slice Ao42 t525.length co42)) (fun _ hk => hk.2) (.slice Ao46 t528.length co46)) (fun _ hk => ⟨hk.1.1.1.1.1.1.2, ⟨hk.1.1.1.1.1.2, ⟨hk.1.1.1.1.2, ⟨hk.1.1.1.2, ⟨hk.1.1.2, ⟨hk.1.2, hk.1.1.1.1.1.1.1⟩⟩⟩⟩⟩⟩)⟩
      have n8_ : Aside0 (((w41.setCell ⟨gb532, 0, none⟩ (.slice Ao42 t525.length co42)).setCell ⟨gb532, 1, none⟩ (.slice Ao46 t528.length co46)).heap[gb497]? = some (.cells #[.slice A0_0 l0_0.length c0_0, .slice A0_1 l0_1.length c0_1] 29 (0, 0))) := ⟨by (with_reducible repeat (first | refine blk_drewN ?_ _ | refine blk_drew ?_ | refine blk_alloc ?_ _)); refine blk_far ?_ NB497_532.out _; (with_reducible repeat (first | refine blk_drewN ?_ _ | refine blk_drew ?_ | refine blk_alloc ?_ _)); refine blk_far ?_ NB497_532.out _; (with_reducible repeat (first | refine blk_drewN ?_ _ | refine blk_drew ?_ | refine blk_alloc ?_ _)); exact BK497.out⟩
      have n9_ : Aside0 (((w41.setCell ⟨gb532, 0, none⟩ (.slice Ao42 t525.length co42)).setCell ⟨gb532, 1, none⟩ (.slice Ao46 t528.length co46)).heap[gb524]? = some (.cells #[.slice Ao35 t517.length co35, .slice Ao38 t520.length co38] 29 (0, 0))) := ⟨by (with_reducible repeat (first | refine blk_drewN ?_ _ | refine blk_drew ?_ | refine blk_alloc ?_ _)); refine blk_far ?_ NB524_532.out _; (with_reducible repeat (first | refine blk_drewN ?_ _ | refine blk_drew ?_ | refine blk_alloc ?_ _)); refine blk_far ?_ NB524_532.out _; (with_reducible repeat (first | refine blk_drewN ?_ _ | refine blk_drew ?_ | refine blk_alloc ?_ _)); exact BK524.out⟩
      have n10_ : Aside0 (((w41.setCell ⟨gb532, 0, none⟩ (.slice Ao42 t525.length co42)).setCell ⟨gb532, 1, none⟩ (.slice Ao46 t528.length co46)).heap[gb532]? = some (.cells #[.slice Ao42 t525.length co42, .slice Ao46 t528.length co46] 29 (0, 0))) := ⟨by (with_reducible repeat (first | refine blk_drewN ?_ _ | refine blk_drew ?_ | refine blk_alloc ?_ _)); refine blk_put (cs := #[.slice Ao42 t525.length co42, .slice none 0 0]) ?_ 1 _ rfl; (with_reducible repeat (first | refine blk_drewN ?_ _ | refine blk_drew ?_ | refine blk_alloc ?_ _)); refine blk_put (cs := #[.slice none 0 0, .slice none 0 0]) ?_ 0 _ rfl; (with_reducible repeat (first | refine blk_drewN ?_ _ | refine blk_drew ?_ | refine blk_alloc ?_ _)); exact BK532.out⟩
      have n11_ : Aside0 (Below w.heap.size w ((w41.setCell ⟨gb532, 0, none⟩ (.slice Ao42 t525.length co42)).setCell ⟨gb532, 1, none⟩ (.slice Ao46 t528.length co46))) := ⟨by repeat (first | (with_reducible first | exact HB.out | apply below_alloc | apply pw_below_drewN | apply below_drew1 | refine below_set ?_ GE497.out | refine below_set ?_ GE524.out | refine below_set ?_ GE532.out) | exact HB.out)⟩
      (try clear HO503)
      (try clear HO506)
      (try clear HO513)
      (try clear HO516)
      (try clear HO519)
      (try clear HO522)
      (try clear HO527)
      (try clear HO530)
      (try clear BK497)
      (try clear BK524)
      (try clear BK532)
      (try clear HB)
      generalize ((w41.setCell ⟨gb532, 0, none⟩ (.slice Ao42 t525.length co42)).setCell ⟨gb532, 1, none⟩ (.slice Ao46 t528.length co46)) = w77 at n0_ n1_ n2_ n3_ n4_ n5_ n6_ n7_ n8_ n9_ n10_ n11_ ⊢
      have HO503 := n0_
      have HO506 := n1_
      have HO513 := n2_
      have HO516 := n3_
      have HO519 := n4_
      have HO522 := n5_
      have HO527 := n6_
      have HO530 := n7_
      have BK497 := n8_
      have BK524 := n9_
      have BK532 := n10_
      have HB := n11_
      clear n0_ n1_ n2_ n3_ n4_ n5_ n6_ n7_ n8_ n9_ n10_ n11_
      have n0_ := Aside0.mk (Kd.R_drew HO503.out)
      have n1_ := Aside0.mk (Kd.R_drew HO506.out)
      have n2_ := Aside0.mk (Kd.R_drew HO513.out)
      have n3_ := Aside0.mk (Kd.R_drew HO516.out)
      have n4_ := Aside0.mk (Kd.R_drew HO519.out)
      have n5_ := Aside0.mk (Kd.R_drew HO522.out)
      have n6_ := Aside0.mk (Kd.R_drew HO527.out)
      have n7_ := Aside0.mk (Kd.R_drew HO530.out)
      have n8_ := Aside0.mk (blk_drew BK497.out)
      have n9_ := Aside0.mk (blk_drew BK524.out)
      have n10_ := Aside0.mk (blk_drew BK532.out)
      have n11_ := Aside0.mk (below_drew1 HB.out)
      clear HO503
      clear HO506
      clear HO513
      clear HO516
      clear HO519
      clear HO522
      clear HO527
      clear HO530
      clear BK497
      clear BK524
      clear BK532
      clear HB
      have HO503 := n0_
      have HO506 := n1_
      have HO513 := n2_
      have HO516 := n3_
      have HO519 := n4_
      have HO522 := n5_
      have HO527 := n6_
      have HO530 := n7_
      have BK497 := n8_
      have BK524 := n9_
      have BK532 := n10_
      have HB := n11_
      clear n0_ n1_ n2_ n3_ n4_ n5_ n6_ n7_ n8_ n9_ n10_ n11_
      refine start_ (n := 27) (S := fun w' => w'.cell? ⟨gb497, 0, none⟩ = some (.slice A0_0 l0_0.length c0_0) ∧ w'.cell? ⟨gb497, 1, none⟩ = some (.slice A0_1 l0_1.length c0_1)) (ds := []) #[false, false, false, false, false, false, false, false, false, false, false, false, false, false, false, false, false, false, false, false, false, false, false, false, false, false, false] zK rfl rfl ⟨(blk_cell BK497.out 0).trans rfl, (blk_cell BK497.out 1).trans rfl⟩ (fun hHeld => ?_); refine with_tabW ancepslaw38_TableValid.tab7 ancepslaw38_TableValid.bits7 (fun HT_ HW_ => ?_)
      generalize w77.drew = w78 at HO503 HO506 HO513 HO516 HO519 HO522 HO527 HO530 BK497 BK524 BK532 HB hHeld ⊢
      refine take_ (i := 0) (N := some 45) (v := ?_) (a' := ?_) #[true, false, false, false, false, false, false, false, false, false, false, false, false, false, false, false, false, false, false, false, false, false, false, false, false, false, false] rfl rfl (take_ofW HT_.out HW_.out zK) (fun _ _ _ h => h) (Or.inl ⟨by rfl, ?_⟩) hHeld ?_ ?_
      rotate_left
      ·rintro w' ⟨s0, s1⟩
       go_simp
       with_reducible rfl
      rotate_left
      ·simp only [Act.put, List.setIfInBounds_toArray, List.set_cons_zero, List.set_cons_succ, i64_w, i32_w]
       rfl
      refine take_ (i := 3) (N := some 48) (v := ?_) (a' := ?_) #[true, false, false, true, false, false, false, false, false, false, false, false, false, false, false, false, false, false, false, false, false, false, false, false, false, false, false] rfl rfl (take_ofW HT_.out HW_.out zK) (fun _ _ _ h => h) (Or.inl ⟨by rfl, ?_⟩) hHeld ?_ ?_
      rotate_left
      ·rintro w' ⟨s0, s1⟩
       go_simp
       with_reducible rfl
      rotate_left
      ·simp only [Act.put, List.setIfInBounds_toArray, List.set_cons_zero, List.set_cons_succ, i64_w, i32_w]
       rfl
      refine one_ (i := 1) (N := some 46) #[true, true, false, true, false, false, false, false, false, false, false, false, false, false, false, false, false, false, false, false, false, false, false, false, false, false, false] rfl rfl (one_of HT_.out zK) (by decide) (fun K hK => ?_)
      refine goes_ Try.func21 zK rfl #[.agg #[.slice A0_0 l0_0.length c0_0, .slice A0_1 l0_1.length c0_1]] (by rfl) rfl rfl zM ?_
      with_reducible refine (ancepslaw38_own.calls _ _ l0_0 _ _ l0_1 t533 t536 _ ?side1 ?side2 ?side3 ?side4 A47.out).mono ?_
      (case side1 => repeat (first | exact (Kd.C_below HR0_0.out HB.out) | (with_reducible refine Kd.C_alloc ?_ _) | (with_reducible refine Kd.C_drewN ?_ _) | (with_reducible refine Kd.C_drew ?_)))
      (case side2 => exact HC0_0.out)
      (case side3 => repeat (first | exact (Kd.C_below HR0_1.out HB.out) | (with_reducible refine Kd.C_alloc ?_ _) | (with_reducible refine Kd.C_drewN ?_ _) | (with_reducible refine Kd.C_drew ?_)))
      (case side4 => exact HC0_1.out)
      rintro e w79 ⟨v534, v537, rfl, ho0, ho1, hb⟩
      refine ⟨_, rfl, ?_⟩
      have n0_ := Aside0.mk (Kd.R_mono (Kd.R_told (Kd.R_told (Kd.R_old (zR HO503) hb) (Kd.R_base ho0)) (Kd.R_base ho1)) (fun _ h_ => h_.1))
      have n1_ := Aside0.mk (Kd.R_mono (Kd.R_told (Kd.R_told (Kd.R_old (zR HO506) hb) (Kd.R_base ho0)) (Kd.R_base ho1)) (fun _ h_ => h_.1))
      have n2_ := Aside0.mk (Kd.R_mono (Kd.R_told (Kd.R_told (Kd.R_old (zR HO513) hb) (Kd.R_base ho0)) (Kd.R_base ho1)) (fun _ h_ => h_.1))
      have n3_ := Aside0.mk (Kd.R_mono (Kd.R_told (Kd.R_told (Kd.R_old (zR HO516) hb) (Kd.R_base ho0)) (Kd.R_base ho1)) (fun _ h_ => h_.1))
      have n4_ := Aside0.mk (Kd.R_mono (Kd.R_told (Kd.R_told (Kd.R_old (zR HO519) hb) (Kd.R_base ho0)) (Kd.R_base ho1)) (fun _ h_ => h_.1))
      have n5_ := Aside0.mk (Kd.R_mono (Kd.R_told (Kd.R_told (Kd.R_old (zR HO522) hb) (Kd.R_base ho0)) (Kd.R_base ho1)) (fun _ h_ => h_.1))
      have n6_ := Aside0.mk (Kd.R_mono (Kd.R_told (Kd.R_told (Kd.R_old (zR HO527) hb) (Kd.R_base ho0)) (Kd.R_base ho1)) (fun _ h_ => h_.1))
      have n7_ := Aside0.mk (Kd.R_mono (Kd.R_told (Kd.R_told (Kd.R_old (zR HO530) hb) (Kd.R_base ho0)) (Kd.R_base ho1)) (fun _ h_ => h_.1))
      have n8_ := Aside0.mk (Kd.R_lower (Kd.R_new' (Kd.R_new' (Kd.R_new' (Kd.R_new' (Kd.R_new' (Kd.R_new' (Kd.R_new' (Kd.R_new' ho0 (Kd.R_lt (zR HO503))) (Kd.R_lt (zR HO506))) (Kd.R_lt (zR HO513))) (Kd.R_lt (zR HO516))) (Kd.R_lt (zR HO519))) (Kd.R_lt (zR HO522))) (Kd.R_lt (zR HO527))) (Kd.R_lt (zR HO530))) (below_size zB))
      have n9_ := Aside0.mk (Kd.R_lower (Kd.R_new' (Kd.R_new' (Kd.R_new' (Kd.R_new' (Kd.R_new' (Kd.R_new' (Kd.R_new' (Kd.R_new' ho1 (Kd.R_lt (zR HO503))) (Kd.R_lt (zR HO506))) (Kd.R_lt (zR HO513))) (Kd.R_lt (zR HO516))) (Kd.R_lt (zR HO519))) (Kd.R_lt (zR HO522))) (Kd.R_lt (zR HO527))) (Kd.R_lt (zR HO530))) (below_size zB))
      have n10_ := Aside0.mk (blk_below (g := gb497) (o := .cells #[.slice A0_0 l0_0.length c0_0, .slice A0_1 l0_1.length c0_1] 29 (0, 0)) (zk BK497) hb)
      have n11_ := Aside0.mk (blk_below (g := gb524) (o := .cells #[.slice Ao35 t517.length co35, .slice Ao38 t520.length co38] 29 (0, 0)) (zk BK524) hb)
      have n12_ := Aside0.mk (blk_below (g := gb532) (o := .cells #[.slice Ao42 t525.length co42, .slice Ao46 t528.length co46] 29 (0, 0)) (zk BK532) hb)
      have n13_ := Aside0.mk (below_step zB hb)
      clear HO503
      clear HO506
      clear HO513
      clear HO516
      clear HO519
      clear HO522
      clear HO527
      clear HO530
      clear BK497
      clear BK524
      clear BK532
      clear HB
      have HO503 := n0_
      have HO506 := n1_
      have HO513 := n2_
      have HO516 := n3_
      have HO519 := n4_
      have HO522 := n5_
      have HO527 := n6_
      have HO530 := n7_
      have HO535 := n8_
      have HO538 := n9_
      have BK497 := n10_
      have BK524 := n11_
      have BK532 := n12_
      have HB := n13_
      clear n0_ n1_ n2_ n3_ n4_ n5_ n6_ n7_ n8_ n9_ n10_ n11_ n12_ n13_
      (try clear hb)
      (try clear hb2)
      (try clear hk)
      (try clear hi)
      (try clear ho0)
      (try clear ho1)
      obtain ⟨Ao80, co80, eo80⟩ := Kd.R_slice HO535.out
      (first | subst eo80 | (injection eo80 with f1_ f2_ f3_; have f4_ := f1_.symm; have f5_ := f3_.symm; clear f1_ f2_ f3_; subst f4_; subst f5_))
      obtain ⟨Ao81, co81, eo81⟩ := Kd.R_slice HO538.out
      (first | subst eo81 | (injection eo81 with f1_ f2_ f3_; have f4_ := f1_.symm; have f5_ := f3_.symm; clear f1_ f2_ f3_; subst f4_; subst f5_))
      refine hK.out _ _ ⟨(blk_cell BK497.out 0).trans rfl, (blk_cell BK497.out 1).trans rfl⟩ (fun hHeld => ?_)
      clear hK K
      refine norm_ (a' := ?_) ?_ ?_
      rotate_left
      ·show Act.put _ (some 46) _ = _
       simp only [Act.put, List.setIfInBounds_toArray, List.set_cons_zero, List.set_cons_succ, i64_w, i32_w]
       rfl
      refine one_ (i := 2) (N := some 47) #[true, true, true, true, false, false, false, false, false, false, false, false, false, false, false, false, false, false, false, false, false, false, false, false, false, false, false] rfl rfl (one_of HT_.out zK) (by decide) (fun K hK => ?_)
      refine goes_ Try.func25 zK rfl #[.agg #[.slice Ao80 t533.length co80, .slice Ao81 t536.length co81]] (by rfl) rfl rfl zM ?_
      with_reducible refine (table_Valid.calls kj2 _ _ t533 _ _ t536 t539 _ ?side1 ?side2 ?side3 ?side4 A48.out).mono ?_
      (case side1 => repeat (first | exact (Kd.R_reads' HO535.out).2.2 | (with_reducible refine Kd.C_alloc ?_ _) | (with_reducible refine Kd.C_drewN ?_ _) | (with_reducible refine Kd.C_drew ?_)))
      (case side2 => exact (Kd.R_reads' HO535.out).2.1)
      (case side3 => repeat (first | exact (Kd.R_reads' HO538.out).2.2 | (with_reducible refine Kd.C_alloc ?_ _) | (with_reducible refine Kd.C_drewN ?_ _) | (with_reducible refine Kd.C_drew ?_)))
      (case side4 => exact (Kd.R_reads' HO538.out).2.1)
      rintro e w82 ⟨rfl, hb⟩
      refine ⟨_, rfl, ?_⟩
      have n0_ := Aside0.mk (Kd.R_below (zR HO503) hb)
      have n1_ := Aside0.mk (Kd.R_below (zR HO506) hb)
      have n2_ := Aside0.mk (Kd.R_below (zR HO513) hb)
      have n3_ := Aside0.mk (Kd.R_below (zR HO516) hb)
      have n4_ := Aside0.mk (Kd.R_below (zR HO519) hb)
      have n5_ := Aside0.mk (Kd.R_below (zR HO522) hb)
      have n6_ := Aside0.mk (Kd.R_below (zR HO527) hb)
      have n7_ := Aside0.mk (Kd.R_below (zR HO530) hb)
      have n8_ := Aside0.mk (Kd.R_below (zR HO535) hb)
      have n9_ := Aside0.mk (Kd.R_below (zR HO538) hb)
      have n10_ := Aside0.mk (blk_below (g := gb497) (o := .cells #[.slice A0_0 l0_0.length c0_0, .slice A0_1 l0_1.length c0_1] 29 (0, 0)) (zk BK497) hb)
      have n11_ := Aside0.mk (blk_below (g := gb524) (o := .cells #[.slice Ao35 t517.length co35, .slice Ao38 t520.length co38] 29 (0, 0)) (zk BK524) hb)
      have n12_ := Aside0.mk (blk_below (g := gb532) (o := .cells #[.slice Ao42 t525.length co42, .slice Ao46 t528.length co46] 29 (0, 0)) (zk BK532) hb)
      have n13_ := Aside0.mk (below_step zB hb)
      clear HO503
      clear HO506
      clear HO513
      clear HO516
      clear HO519
      clear HO522
      clear HO527
      clear HO530
      clear HO535
      clear HO538
      clear BK497
      clear BK524
      clear BK532
      clear HB
      have HO503 := n0_
      have HO506 := n1_
      have HO513 := n2_
      have HO516 := n3_
      have HO519 := n4_
      have HO522 := n5_
      have HO527 := n6_
      have HO530 := n7_
      have HO535 := n8_
      have HO538 := n9_
      have BK497 := n10_
      have BK524 := n11_
      have BK532 := n12_
      have HB := n13_
      clear n0_ n1_ n2_ n3_ n4_ n5_ n6_ n7_ n8_ n9_ n10_ n11_ n12_ n13_
      (try clear hb)
      (try clear hb2)
      (try clear hk)
      (try clear hi)
      refine hK.out _ _ ⟨(blk_cell BK497.out 0).trans rfl, (blk_cell BK497.out 1).trans rfl⟩ (fun hHeld => ?_)
      clear hK K
      refine norm_ (a' := ?_) ?_ ?_
      rotate_left
      ·show Act.put _ (some 47) _ = _
       simp only [Act.put, List.setIfInBounds_toArray, List.set_cons_zero, List.set_cons_succ, i64_w, i32_w]
       rfl
      refine one_ (i := 4) (N := some 49) #[true, true, true, true, true, false, false, false, false, false, false, false, false, false, false, false, false, false, false, false, false, false, false, false, false, false, false] rfl rfl (one_of HT_.out zK) (by decide) (fun K hK => ?_)
      refine goes_ Try.func26 zK rfl #[.agg #[.slice A0_0 l0_0.length c0_0, .slice A0_1 l0_1.length c0_1]] (by rfl) rfl rfl zM ?_
      with_reducible refine (ancepsref38_Valid.calls kj2 _ _ l0_0 _ _ l0_1 t540 _ ?side1 ?side2 ?side3 ?side4 A49.out).mono ?_
      (case side1 => repeat (first | exact (Kd.C_below HR0_0.out HB.out) | (with_reducible refine Kd.C_alloc ?_ _) | (with_reducible refine Kd.C_drewN ?_ _) | (with_reducible refine Kd.C_drew ?_)))
      (case side2 => exact HC0_0.out)
      (case side3 => repeat (first | exact (Kd.C_below HR0_1.out HB.out) | (with_reducible refine Kd.C_alloc ?_ _) | (with_reducible refine Kd.C_drewN ?_ _) | (with_reducible refine Kd.C_drew ?_)))
      (case side4 => exact HC0_1.out)
      rintro e w83 ⟨rfl, hb⟩
      refine ⟨_, rfl, ?_⟩
      have n0_ := Aside0.mk (Kd.R_below (zR HO503) hb)
      have n1_ := Aside0.mk (Kd.R_below (zR HO506) hb)
      have n2_ := Aside0.mk (Kd.R_below (zR HO513) hb)
      have n3_ := Aside0.mk (Kd.R_below (zR HO516) hb)
      have n4_ := Aside0.mk (Kd.R_below (zR HO519) hb)
      have n5_ := Aside0.mk (Kd.R_below (zR HO522) hb)
      have n6_ := Aside0.mk (Kd.R_below (zR HO527) hb)
      have n7_ := Aside0.mk (Kd.R_below (zR HO530) hb)
      have n8_ := Aside0.mk (Kd.R_below (zR HO535) hb)
      have n9_ := Aside0.mk (Kd.R_below (zR HO538) hb)
      have n10_ := Aside0.mk (blk_below (g := gb497) (o := .cells #[.slice A0_0 l0_0.length c0_0, .slice A0_1 l0_1.length c0_1] 29 (0, 0)) (zk BK497) hb)
      have n11_ := Aside0.mk (blk_below (g := gb524) (o := .cells #[.slice Ao35 t517.length co35, .slice Ao38 t520.length co38] 29 (0, 0)) (zk BK524) hb)
      have n12_ := Aside0.mk (blk_below (g := gb532) (o := .cells #[.slice Ao42 t525.length co42, .slice Ao46 t528.length co46] 29 (0, 0)) (zk BK532) hb)
      have n13_ := Aside0.mk (below_step zB hb)
      clear HO503
      clear HO506
      clear HO513
      clear HO516
      clear HO519
      clear HO522
      clear HO527
      clear HO530
      clear HO535
      clear HO538
      clear BK497
      clear BK524
      clear BK532
      clear HB
      have HO503 := n0_
      have HO506 := n1_
      have HO513 := n2_
      have HO516 := n3_
      have HO519 := n4_
      have HO522 := n5_
      have HO527 := n6_
      have HO530 := n7_
      have HO535 := n8_
      have HO538 := n9_
      have BK497 := n10_
      have BK524 := n11_
      have BK532 := n12_
      have HB := n13_
      clear n0_ n1_ n2_ n3_ n4_ n5_ n6_ n7_ n8_ n9_ n10_ n11_ n12_ n13_
      (try clear hb)
      (try clear hb2)
      (try clear hk)
      (try clear hi)
      refine hK.out _ _ ⟨(blk_cell BK497.out 0).trans rfl, (blk_cell BK497.out 1).trans rfl⟩ (fun hHeld => ?_)
      clear hK K
      refine norm_ (a' := ?_) ?_ ?_
      rotate_left
      ·show Act.put _ (some 49) _ = _
       simp only [Act.put, List.setIfInBounds_toArray, List.set_cons_zero, List.set_cons_succ, i64_w, i32_w]
       rfl
      refine pure_ (i := 5) (N := some 50) (v := ?_) (a' := ?_) #[true, true, true, true, true, true, false, false, false, false, false, false, false, false, false, false, false, false, false, false, false, false, false, false, false, false, false] rfl rfl (any_of HT_.out zK) (fun _ _ _ h => h) (Or.inl ⟨by rfl, ?_⟩) ?_ ?_
      rotate_left
      ·intro w'
       go_simp
       with_reducible rfl
      rotate_left
      ·simp only [Act.put, List.setIfInBounds_toArray, List.set_cons_zero, List.set_cons_succ, i64_w, i32_w]
       rfl
      refine pure_ (i := 6) (N := some 51) (v := ?_) (a' := ?_) #[true, true, true, true, true, true, true, false, false, false, false, false, false, false, false, false, false, false, false, false, false, false, false, false, false, false, false] rfl rfl (any_of HT_.out zK) (fun _ _ _ h => h) (Or.inl ⟨by rfl, ?_⟩) ?_ ?_
      rotate_left
      ·intro w'
       go_simp
       with_reducible rfl
      rotate_left
      ·simp only [Act.put, List.setIfInBounds_toArray, List.set_cons_zero, List.set_cons_succ, i64_w, i32_w]
       rfl
      refine pure_ (i := 7) (N := some 52) (v := ?_) (a' := ?_) #[true, true, true, true, true, true, true, true, false, false, false, false, false, false, false, false, false, false, false, false, false, false, false, false, false, false, false] rfl rfl (any_of HT_.out zK) (fun _ _ _ h => h) (Or.inl ⟨by rfl, ?_⟩) ?_ ?_
      rotate_left
      ·intro w'
       go_simp
       with_reducible rfl
      rotate_left
      ·simp only [Act.put, List.setIfInBounds_toArray, List.set_cons_zero, List.set_cons_succ, i64_w, i32_w]
       rfl
      refine pure_ (i := 8) (N := some 53) (v := ?_) (a' := ?_) #[true, true, true, true, true, true, true, true, true, false, false, false, false, false, false, false, false, false, false, false, false, false, false, false, false, false, false] rfl rfl (any_of HT_.out zK) (fun _ _ _ h => h) (Or.inl ⟨by rfl, ?_⟩) ?_ ?_
      rotate_left
      ·intro w'
       go_simp
       with_reducible rfl
      rotate_left
      ·simp only [Act.put, List.setIfInBounds_toArray, List.set_cons_zero, List.set_cons_succ, i64_w, i32_w]
       rfl
      refine pure_ (i := 9) (N := some 54) (v := ?_) (a' := ?_) #[true, true, true, true, true, true, true, true, true, true, false, false, false, false, false, false, false, false, false, false, false, false, false, false, false, false, false] rfl rfl (any_of HT_.out zK) (fun _ _ _ h => h) (Or.inl ⟨by rfl, ?_⟩) ?_ ?_
      rotate_left
      ·intro w'
       go_simp
       with_reducible rfl
      rotate_left
      ·simp only [Act.put, List.setIfInBounds_toArray, List.set_cons_zero, List.set_cons_succ, i64_w, i32_w]
       rfl
      refine pure_ (i := 10) (N := some 55) (v := ?_) (a' := ?_) #[true, true, true, true, true, true, true, true, true, true, true, false, false, false, false, false, false, false, false, false, false, false, false, false, false, false, false] rfl rfl (any_of HT_.out zK) (fun _ _ _ h => h) (Or.inl ⟨by rfl, ?_⟩) ?_ ?_
      rotate_left
      ·intro w'
       go_simp
       with_reducible rfl
      rotate_left
      ·simp only [Act.put, List.setIfInBounds_toArray, List.set_cons_zero, List.set_cons_succ, i64_w, i32_w]
       rfl
      refine pure_ (i := 11) (N := some 56) (v := ?_) (a' := ?_) #[true, true, true, true, true, true, true, true, true, true, true, true, false, false, false, false, false, false, false, false, false, false, false, false, false, false, false] rfl rfl (any_of HT_.out zK) (fun _ _ _ h => h) (Or.inl ⟨by rfl, ?_⟩) ?_ ?_
      rotate_left
      ·intro w'
       go_simp
       with_reducible rfl
      rotate_left
      ·simp only [Act.put, List.setIfInBounds_toArray, List.set_cons_zero, List.set_cons_succ, i64_w, i32_w]
       rfl
      refine pure_ (i := 12) (N := some 57) (v := undef) (a' := ?_) #[true, true, true, true, true, true, true, true, true, true, true, true, true, false, false, false, false, false, false, false, false, false, false, false, false, false, false] rfl rfl (any_of HT_.out zK) (fun _ _ _ h => h) (Or.inr ⟨by rfl, rfl⟩) ?_ ?_
      rotate_left
      ·simp only [Act.put, List.setIfInBounds_toArray, List.set_cons_zero, List.set_cons_succ, i64_w, i32_w]
       rfl
      refine pure_ (i := 13) (N := some 58) (v := undef) (a' := ?_) #[true, true, true, true, true, true, true, true, true, true, true, true, true, true, false, false, false, false, false, false, false, false, false, false, false, false, false] rfl rfl (any_of HT_.out zK) (fun _ _ _ h => h) (Or.inr ⟨by rfl, rfl⟩) ?_ ?_
      rotate_left
      ·simp only [Act.put, List.setIfInBounds_toArray, List.set_cons_zero, List.set_cons_succ, i64_w, i32_w]
       rfl
      refine pure_ (i := 14) (N := some 59) (v := undef) (a' := ?_) #[true, true, true, true, true, true, true, true, true, true, true, true, true, true, true, false, false, false, false, false, false, false, false, false, false, false, false] rfl rfl (any_of HT_.out zK) (fun _ _ _ h => h) (Or.inr ⟨by rfl, rfl⟩) ?_ ?_
      rotate_left
      ·simp only [Act.put, List.setIfInBounds_toArray, List.set_cons_zero, List.set_cons_succ, i64_w, i32_w]
       rfl
      refine pure_ (i := 15) (N := some 60) (v := ?_) (a' := ?_) #[true, true, true, true, true, true, true, true, true, true, true, true, true, true, true, true, false, false, false, false, false, false, false, false, false, false, false] rfl rfl (any_of HT_.out zK) (fun _ _ _ h => h) (Or.inl ⟨by rfl, ?_⟩) ?_ ?_
      rotate_left
      ·intro w'
       go_simp
       with_reducible rfl
      rotate_left
      ·simp only [Act.put, List.setIfInBounds_toArray, List.set_cons_zero, List.set_cons_succ, i64_w, i32_w]
       rfl
      refine pure_ (i := 16) (N := some 61) (v := ?_) (a' := ?_) #[true, true, true, true, true, true, true, true, true, true, true, true, true, true, true, true, true, false, false, false, false, false, false, false, false, false, false] rfl rfl (any_of HT_.out zK) (fun _ _ _ h => h) (Or.inl ⟨by rfl, ?_⟩) ?_ ?_
      rotate_left
      ·intro w'
       go_simp
       with_reducible rfl
      rotate_left
      ·simp only [Act.put, List.setIfInBounds_toArray, List.set_cons_zero, List.set_cons_succ, i64_w, i32_w]
       rfl
      refine pure_ (i := 17) (N := some 62) (v := undef) (a' := ?_) #[true, true, true, true, true, true, true, true, true, true, true, true, true, true, true, true, true, true, false, false, false, false, false, false, false, false, false] rfl rfl (any_of HT_.out zK) (fun _ _ _ h => h) (Or.inr ⟨by rfl, rfl⟩) ?_ ?_
      rotate_left
      ·simp only [Act.put, List.setIfInBounds_toArray, List.set_cons_zero, List.set_cons_succ, i64_w, i32_w]
       rfl
      refine pure_ (i := 18) (N := some 63) (v := undef) (a' := ?_) #[true, true, true, true, true, true, true, true, true, true, true, true, true, true, true, true, true, true, true, false, false, false, false, false, false, false, false] rfl rfl (any_of HT_.out zK) (fun _ _ _ h => h) (Or.inr ⟨by rfl, rfl⟩) ?_ ?_
      rotate_left
      ·simp only [Act.put, List.setIfInBounds_toArray, List.set_cons_zero, List.set_cons_succ, i64_w, i32_w]
       rfl
      refine pure_ (i := 19) (N := some 64) (v := undef) (a' := ?_) #[true, true, true, true, true, true, true, true, true, true, true, true, true, true, true, true, true, true, true, true, false, false, false, false, false, false, false] rfl rfl (any_of HT_.out zK) (fun _ _ _ h => h) (Or.inr ⟨by rfl, rfl⟩) ?_ ?_
      rotate_left
      ·simp only [Act.put, List.setIfInBounds_toArray, List.set_cons_zero, List.set_cons_succ, i64_w, i32_w]
       rfl
      refine pure_ (i := 20) (N := some 65) (v := ?_) (a' := ?_) #[true, true, true, true, true, true, true, true, true, true, true, true, true, true, true, true, true, true, true, true, true, false, false, false, false, false, false] rfl rfl (any_of HT_.out zK) (fun _ _ _ h => h) (Or.inl ⟨by rfl, ?_⟩) ?_ ?_
      rotate_left
      ·intro w'
       go_simp
       with_reducible rfl
      rotate_left
      ·simp only [Act.put, List.setIfInBounds_toArray, List.set_cons_zero, List.set_cons_succ, i64_w, i32_w]
       rfl
      refine pure_ (i := 21) (N := some 66) (v := ?_) (a' := ?_) #[true, true, true, true, true, true, true, true, true, true, true, true, true, true, true, true, true, true, true, true, true, true, false, false, false, false, false] rfl rfl (any_of HT_.out zK) (fun _ _ _ h => h) (Or.inl ⟨by rfl, ?_⟩) ?_ ?_
      rotate_left
      ·intro w'
       go_simp
       with_reducible rfl
      rotate_left
      ·simp only [Act.put, List.setIfInBounds_toArray, List.set_cons_zero, List.set_cons_succ, i64_w, i32_w]
       rfl
      refine pure_ (i := 22) (N := some 67) (v := undef) (a' := ?_) #[true, true, true, true, true, true, true, true, true, true, true, true, true, true, true, true, true, true, true, true, true, true, true, false, false, false, false] rfl rfl (any_of HT_.out zK) (fun _ _ _ h => h) (Or.inr ⟨by rfl, rfl⟩) ?_ ?_
      rotate_left
      ·simp only [Act.put, List.setIfInBounds_toArray, List.set_cons_zero, List.set_cons_succ, i64_w, i32_w]
       rfl
      refine pure_ (i := 23) (N := some 68) (v := undef) (a' := ?_) #[true, true, true, true, true, true, true, true, true, true, true, true, true, true, true, true, true, true, true, true, true, true, true, true, false, false, false] rfl rfl (any_of HT_.out zK) (fun _ _ _ h => h) (Or.inr ⟨by rfl, rfl⟩) ?_ ?_
      rotate_left
      ·simp only [Act.put, List.setIfInBounds_toArray, List.set_cons_zero, List.set_cons_succ, i64_w, i32_w]
       rfl
      refine pure_ (i := 24) (N := some 69) (v := undef) (a' := ?_) #[true, true, true, true, true, true, true, true, true, true, true, true, true, true, true, true, true, true, true, true, true, true, true, true, true, false, false] rfl rfl (any_of HT_.out zK) (fun _ _ _ h => h) (Or.inr ⟨by rfl, rfl⟩) ?_ ?_
      rotate_left
      ·simp only [Act.put, List.setIfInBounds_toArray, List.set_cons_zero, List.set_cons_succ, i64_w, i32_w]
       rfl
      refine pure_ (i := 25) (N := some 70) (v := ?_) (a' := ?_) #[true, true, true, true, true, true, true, true, true, true, true, true, true, true, true, true, true, true, true, true, true, true, true, true, true, true, false] rfl rfl (any_of HT_.out zK) (fun _ _ _ h => h) (Or.inl ⟨by rfl, ?_⟩) ?_ ?_
      rotate_left
      ·intro w'
       go_simp
       with_reducible rfl
      rotate_left
      ·simp only [Act.put, List.setIfInBounds_toArray, List.set_cons_zero, List.set_cons_succ, i64_w, i32_w]
       rfl
      refine pure_ (i := 26) (N := some 4) (v := ?_) (a' := ?_) #[true, true, true, true, true, true, true, true, true, true, true, true, true, true, true, true, true, true, true, true, true, true, true, true, true, true, true] rfl rfl (any_of HT_.out zK) (fun _ _ _ h => h) (Or.inl ⟨by rfl, ?_⟩) ?_ ?_
      rotate_left
      ·intro w'
       go_simp
       with_reducible rfl
      rotate_left
      ·simp only [Act.put, List.setIfInBounds_toArray, List.set_cons_zero, List.set_cons_succ, i64_w, i32_w]
       rfl
      refine done_ (done_of HT_.out zK) ?_
      try go_wp2
      go_ret
      exact ⟨by first | rfl | (simp [errW_none, errW_some] <;> rfl) | (simp [*, errW_none, errW_some] <;> rfl), by repeat (first | (with_reducible first | exact HB.out | apply below_alloc | apply pw_below_drewN | apply below_drew1 | refine below_set ?_ GE497.out | refine below_set ?_ GE524.out | refine below_set ?_ GE532.out) | exact HB.out)⟩
    ·rw [if_neg c50] at H
     have c50b0 : (t539 == t540) = false := beq_eq_false_iff_ne.mpr c50
     have c50b1 : (t539 != t540) = true := bne_iff_ne.mpr c50
     (first | rw [c50b0] | (simp only [i64_w, i32_w]; rw [c50b0]) | skip)
     (try rw [c50b1])
     obtain rfl := Option.some.inj H
     try go_wp2
     have n0_ : Aside0 (Kd.R (Kd.int .i64) 3 ((w41.setCell ⟨gb532, 0, none⟩ (.slice Ao42 t525.length co42)).setCell ⟨gb532, 1, none⟩ (.slice Ao46 t528.length co46)) w.heap.size (fun k_ => some k_ ≠ (.slice Ao25 t504.length co25 : Value).ownBlock ∧ some k_ ≠ (.slice Ao31 t511.length co31 : Value).ownBlock ∧ some k_ ≠ (.slice Ao32 t514.length co32 : Value).ownBlock ∧ some k_ ≠ (.slice Ao35 t517.length co35 : Value).ownBlock ∧ some k_ ≠ (.slice Ao38 t520.length co38 : Value).ownBlock ∧ some k_ ≠ (.slice Ao42 t525.length co42 : Value).ownBlock ∧ some k_ ≠ (.slice Ao46 t528.length co46 : Value).ownBlock) (.slice Ao24 t501.length co24) t501) := ⟨by (with_reducible repeat (first | apply Kd.R_alloc | apply Kd.R_drewN | apply Kd.R_drew)); exact Kd.R_mono (Kd.R_far (p := ⟨gb532, 1, none⟩) (Kd.R_far (p := ⟨gb532, 0, none⟩) (Kd.R_types HO503.out BK532.out (by decide)) (fun _ hk => hk.2) (.slice Ao42 t525.length co42)) (fun _ hk => hk.2) (.slice Ao46 t528.length co46)) (fun _ hk => ⟨hk.1.1.1.1.1.1.1, ⟨hk.1.1.1.1.1.1.2, ⟨hk.1.1.1.1.1.2, ⟨hk.1.1.1.1.2, ⟨hk.1.1.1.2, ⟨hk.1.1.2, hk.1.2⟩⟩⟩⟩⟩⟩)⟩
     have n1_ : Aside0 (Kd.R (Kd.int .i64) 3 ((w41.setCell ⟨gb532, 0, none⟩ (.slice Ao42 t525.length co42)).setCell ⟨gb532, 1, none⟩ (.slice Ao46 t528.length co46)) w.heap.size (fun k_ => some k_ ≠ (.slice Ao24 t501.length co24 : Value).ownBlock ∧ some k_ ≠ (.slice Ao31 t511.length co31 : Value).ownBlock ∧ some k_ ≠ (.slice Ao32 t514.length co32 : Value).ownBlock ∧ some k_ ≠ (.slice Ao35 t517.length co35 : Value).ownBlock ∧ some k_ ≠ (.slice Ao38 t520.length co38 : Value).ownBlock ∧ some k_ ≠ (.slice Ao42 t525.length co42 : Value).ownBlock ∧ some k_ ≠ (.slice Ao46 t528.length co46 : Value).ownBlock) (.slice Ao25 t504.length co25) t504) := ⟨by (with_reducible repeat (first | apply Kd.R_alloc | apply Kd.R_drewN | apply Kd.R_drew)); exact Kd.R_mono (Kd.R_far (p := ⟨gb532, 1, none⟩) (Kd.R_far (p := ⟨gb532, 0, none⟩) (Kd.R_types HO506.out BK532.out (by decide)) (fun _ hk => hk.2) (.slice Ao42 t525.length co42)) (fun _ hk => hk.2) (.slice Ao46 t528.length co46)) (fun _ hk => ⟨hk.1.1.1.1.1.1.1, ⟨hk.1.1.1.1.1.1.2, ⟨hk.1.1.1.1.1.2, ⟨hk.1.1.1.1.2, ⟨hk.1.1.1.2, ⟨hk.1.1.2, hk.1.2⟩⟩⟩⟩⟩⟩)⟩
     have n2_ : Aside0 (Kd.R (Kd.int .i64) 3 ((w41.setCell ⟨gb532, 0, none⟩ (.slice Ao42 t525.length co42)).setCell ⟨gb532, 1, none⟩ (.slice Ao46 t528.length co46)) w.heap.size (fun k_ => some k_ ≠ (.slice Ao24 t501.length co24 : Value).ownBlock ∧ some k_ ≠ (.slice Ao25 t504.length co25 : Value).ownBlock ∧ some k_ ≠ (.slice Ao32 t514.length co32 : Value).ownBlock ∧ some k_ ≠ (.slice Ao35 t517.length co35 : Value).ownBlock ∧ some k_ ≠ (.slice Ao38 t520.length co38 : Value).ownBlock ∧ some k_ ≠ (.slice Ao42 t525.length co42 : Value).ownBlock ∧ some k_ ≠ (.slice Ao46 t528.length co46 : Value).ownBlock) (.slice Ao31 t511.length co31) t511) := ⟨by (with_reducible repeat (first | apply Kd.R_alloc | apply Kd.R_drewN | apply Kd.R_drew)); exact Kd.R_mono (Kd.R_far (p := ⟨gb532, 1, none⟩) (Kd.R_far (p := ⟨gb532, 0, none⟩) (Kd.R_types HO513.out BK532.out (by decide)) (fun _ hk => hk.2) (.slice Ao42 t525.length co42)) (fun _ hk => hk.2) (.slice Ao46 t528.length co46)) (fun _ hk => ⟨hk.1.1.1.1.1.1.2, ⟨hk.1.1.1.1.1.2, ⟨hk.1.1.1.1.1.1.1, ⟨hk.1.1.1.1.2, ⟨hk.1.1.1.2, ⟨hk.1.1.2, hk.1.2⟩⟩⟩⟩⟩⟩)⟩
     have n3_ : Aside0 (Kd.R (Kd.int .i64) 3 ((w41.setCell ⟨gb532, 0, none⟩ (.slice Ao42 t525.length co42)).setCell ⟨gb532, 1, none⟩ (.slice Ao46 t528.length co46)) w.heap.size (fun k_ => some k_ ≠ (.slice Ao24 t501.length co24 : Value).ownBlock ∧ some k_ ≠ (.slice Ao25 t504.length co25 : Value).ownBlock ∧ some k_ ≠ (.slice Ao31 t511.length co31 : Value).ownBlock ∧ some k_ ≠ (.slice Ao35 t517.length co35 : Value).ownBlock ∧ some k_ ≠ (.slice Ao38 t520.length co38 : Value).ownBlock ∧ some k_ ≠ (.slice Ao42 t525.length co42 : Value).ownBlock ∧ some k_ ≠ (.slice Ao46 t528.length co46 : Value).ownBlock) (.slice Ao32 t514.length co32) t514) := ⟨by (with_reducible repeat (first | apply Kd.R_alloc | apply Kd.R_drewN | apply Kd.R_drew)); exact Kd.R_mono (Kd.R_far (p := ⟨gb532, 1, none⟩) (Kd.R_far (p := ⟨gb532, 0, none⟩) (Kd.R_types HO516.out BK532.out (by decide)) (fun _ hk => hk.2) (.slice Ao42 t525.length co42)) (fun _ hk => hk.2) (.slice Ao46 t528.length co46)) (fun _ hk => ⟨hk.1.1.1.1.1.1.2, ⟨hk.1.1.1.1.1.2, ⟨hk.1.1.1.1.1.1.1, ⟨hk.1.1.1.1.2, ⟨hk.1.1.1.2, ⟨hk.1.1.2, hk.1.2⟩⟩⟩⟩⟩⟩)⟩
     have n4_ : Aside0 (Kd.R (Kd.int .i64) 3 ((w41.setCell ⟨gb532, 0, none⟩ (.slice Ao42 t525.length co42)).setCell ⟨gb532, 1, none⟩ (.slice Ao46 t528.length co46)) w.heap.size (fun k_ => some k_ ≠ (.slice Ao24 t501.length co24 : Value).ownBlock ∧ some k_ ≠ (.slice Ao25 t504.length co25 : Value).ownBlock ∧ some k_ ≠ (.slice Ao31 t511.length co31 : Value).ownBlock ∧ some k_ ≠ (.slice Ao32 t514.length co32 : Value).ownBlock ∧ some k_ ≠ (.slice Ao38 t520.length co38 : Value).ownBlock ∧ some k_ ≠ (.slice Ao42 t525.length co42 : Value).ownBlock ∧ some k_ ≠ (.slice Ao46 t528.length co46 : Value).ownBlock) (.slice Ao35 t517.length co35) t517) := ⟨by (with_reducible repeat (first | apply Kd.R_alloc | apply Kd.R_drewN | apply Kd.R_drew)); exact Kd.R_mono (Kd.R_far (p := ⟨gb532, 1, none⟩) (Kd.R_far (p := ⟨gb532, 0, none⟩) (Kd.R_types HO519.out BK532.out (by decide)) (fun _ hk => hk.2) (.slice Ao42 t525.length co42)) (fun _ hk => hk.2) (.slice Ao46 t528.length co46)) (fun _ hk => ⟨hk.1.1.1.1.1.1.2, ⟨hk.1.1.1.1.1.2, ⟨hk.1.1.1.1.2, ⟨hk.1.1.1.2, ⟨hk.1.1.1.1.1.1.1, ⟨hk.1.1.2, hk.1.2⟩⟩⟩⟩⟩⟩)⟩
     have n5_ : Aside0 (Kd.R (Kd.int .i64) 3 ((w41.setCell ⟨gb532, 0, none⟩ (.slice Ao42 t525.length co42)).setCell ⟨gb532, 1, none⟩ (.slice Ao46 t528.length co46)) w.heap.size (fun k_ => some k_ ≠ (.slice Ao24 t501.length co24 : Value).ownBlock ∧ some k_ ≠ (.slice Ao25 t504.length co25 : Value).ownBlock ∧ some k_ ≠ (.slice Ao31 t511.length co31 : Value).ownBlock ∧ some k_ ≠ (.slice Ao32 t514.length co32 : Value).ownBlock ∧ some k_ ≠ (.slice Ao35 t517.length co35 : Value).ownBlock ∧ some k_ ≠ (.slice Ao42 t525.length co42 : Value).ownBlock ∧ some k_ ≠ (.slice Ao46 t528.length co46 : Value).ownBlock) (.slice Ao38 t520.length co38) t520) := ⟨by (with_reducible repeat (first | apply Kd.R_alloc | apply Kd.R_drewN | apply Kd.R_drew)); exact Kd.R_mono (Kd.R_far (p := ⟨gb532, 1, none⟩) (Kd.R_far (p := ⟨gb532, 0, none⟩) (Kd.R_types HO522.out BK532.out (by decide)) (fun _ hk => hk.2) (.slice Ao42 t525.length co42)) (fun _ hk => hk.2) (.slice Ao46 t528.length co46)) (fun _ hk => ⟨hk.1.1.1.1.1.1.2, ⟨hk.1.1.1.1.1.2, ⟨hk.1.1.1.1.2, ⟨hk.1.1.1.2, ⟨hk.1.1.1.1.1.1.1, ⟨hk.1.1.2, hk.1.2⟩⟩⟩⟩⟩⟩)⟩
     have n6_ : Aside0 (Kd.R (Kd.int .i64) 3 ((w41.setCell ⟨gb532, 0, none⟩ (.slice Ao42 t525.length co42)).setCell ⟨gb532, 1, none⟩ (.slice Ao46 t528.length co46)) w.heap.size (fun k_ => some k_ ≠ (.slice Ao24 t501.length co24 : Value).ownBlock ∧ some k_ ≠ (.slice Ao25 t504.length co25 : Value).ownBlock ∧ some k_ ≠ (.slice Ao31 t511.length co31 : Value).ownBlock ∧ some k_ ≠ (.slice Ao32 t514.length co32 : Value).ownBlock ∧ some k_ ≠ (.slice Ao35 t517.length co35 : Value).ownBlock ∧ some k_ ≠ (.slice Ao38 t520.length co38 : Value).ownBlock ∧ some k_ ≠ (.slice Ao46 t528.length co46 : Value).ownBlock) (.slice Ao42 t525.length co42) t525) := ⟨by (with_reducible repeat (first | apply Kd.R_alloc | apply Kd.R_drewN | apply Kd.R_drew)); exact Kd.R_mono (Kd.R_far (p := ⟨gb532, 1, none⟩) (Kd.R_far (p := ⟨gb532, 0, none⟩) (Kd.R_types HO527.out BK532.out (by decide)) (fun _ hk => hk.2) (.slice Ao42 t525.length co42)) (fun _ hk => hk.2) (.slice Ao46 t528.length co46)) (fun _ hk => ⟨hk.1.1.1.1.1.1.2, ⟨hk.1.1.1.1.1.2, ⟨hk.1.1.1.1.2, ⟨hk.1.1.1.2, ⟨hk.1.1.2, ⟨hk.1.2, hk.1.1.1.1.1.1.1⟩⟩⟩⟩⟩⟩)⟩
     have n7_ : Aside0 (Kd.R (Kd.int .i64) 3 ((w41.setCell ⟨gb532, 0, none⟩ (.slice Ao42 t525.length co42)).setCell ⟨gb532, 1, none⟩ (.slice Ao46 t528.length co46)) w.heap.size (fun k_ => some k_ ≠ (.slice Ao24 t501.length co24 : Value).ownBlock ∧ some k_ ≠ (.slice Ao25 t504.length co25 : Value).ownBlock ∧ some k_ ≠ (.slice Ao31 t511.length co31 : Value).ownBlock ∧ some k_ ≠ (.slice Ao32 t514.length co32 : Value).ownBlock ∧ some k_ ≠ (.slice Ao35 t517.length co35 : Value).ownBlock ∧ some k_ ≠ (.slice Ao38 t520.length co38 : Value).ownBlock ∧ some k_ ≠ (.slice Ao42 t525.length co42 : Value).ownBlock) (.slice Ao46 t528.length co46) t528) := ⟨by (with_reducible repeat (first | apply Kd.R_alloc | apply Kd.R_drewN | apply Kd.R_drew)); exact Kd.R_mono (Kd.R_far (p := ⟨gb532, 1, none⟩) (Kd.R_far (p := ⟨gb532, 0, none⟩) (Kd.R_types HO530.out BK532.out (by decide)) (fun _ hk => hk.2) (.slice Ao42 t525.length co42)) (fun _ hk => hk.2) (.slice Ao46 t528.length co46)) (fun _ hk => ⟨hk.1.1.1.1.1.1.2, ⟨hk.1.1.1.1.1.2, ⟨hk.1.1.1.1.2, ⟨hk.1.1.1.2, ⟨hk.1.1.2, ⟨hk.1.2, hk.1.1.1.1.1.1.1⟩⟩⟩⟩⟩⟩)⟩
     have n8_ : Aside0 (((w41.setCell ⟨gb532, 0, none⟩ (.slice Ao42 t525.length co42)).setCell ⟨gb532, 1, none⟩ (.slice Ao46 t528.length co46)).heap[gb497]? = some (.cells #[.slice A0_0 l0_0.length c0_0, .slice A0_1 l0_1.length c0_1] 29 (0, 0))) := ⟨by (with_reducible repeat (first | refine blk_drewN ?_ _ | refine blk_drew ?_ | refine blk_alloc ?_ _)); refine blk_far ?_ NB497_532.out _; (with_reducible repeat (first | refine blk_drewN ?_ _ | refine blk_drew ?_ | refine blk_alloc ?_ _)); refine blk_far ?_ NB497_532.out _; (with_reducible repeat (first | refine blk_drewN ?_ _ | refine blk_drew ?_ | refine blk_alloc ?_ _)); exact BK497.out⟩
     have n9_ : Aside0 (((w41.setCell ⟨gb532, 0, none⟩ (.slice Ao42 t525.length co42)).setCell ⟨gb532, 1, none⟩ (.slice Ao46 t528.length co46)).heap[gb524]? = some (.cells #[.slice Ao35 t517.length co35, .slice Ao38 t520.length co38] 29 (0, 0))) := ⟨by (with_reducible repeat (first | refine blk_drewN ?_ _ | refine blk_drew ?_ | refine blk_alloc ?_ _)); refine blk_far ?_ NB524_532.out _; (with_reducible repeat (first | refine blk_drewN ?_ _ | refine blk_drew ?_ | refine blk_alloc ?_ _)); refine blk_far ?_ NB524_532.out _; (with_reducible repeat (first | refine blk_drewN ?_ _ | refine blk_drew ?_ | refine blk_alloc ?_ _)); exact BK524.out⟩
     have n10_ : Aside0 (((w41.setCell ⟨gb532, 0, none⟩ (.slice Ao42 t525.length co42)).setCell ⟨gb532, 1, none⟩ (.slice Ao46 t528.length co46)).heap[gb532]? = some (.cells #[.slice Ao42 t525.length co42, .slice Ao46 t528.length co46] 29 (0, 0))) := ⟨by (with_reducible repeat (first | refine blk_drewN ?_ _ | refine blk_drew ?_ | refine blk_alloc ?_ _)); refine blk_put (cs := #[.slice Ao42 t525.length co42, .slice none 0 0]) ?_ 1 _ rfl; (with_reducible repeat (first | refine blk_drewN ?_ _ | refine blk_drew ?_ | refine blk_alloc ?_ _)); refine blk_put (cs := #[.slice none 0 0, .slice none 0 0]) ?_ 0 _ rfl; (with_reducible repeat (first | refine blk_drewN ?_ _ | refine blk_drew ?_ | refine blk_alloc ?_ _)); exact BK532.out⟩
     have n11_ : Aside0 (Below w.heap.size w ((w41.setCell ⟨gb532, 0, none⟩ (.slice Ao42 t525.length co42)).setCell ⟨gb532, 1, none⟩ (.slice Ao46 t528.length co46))) := ⟨by repeat (first | (with_reducible first | exact HB.out | apply below_alloc | apply pw_below_drewN | apply below_drew1 | refine below_set ?_ GE497.out | refine below_set ?_ GE524.out | refine below_set ?_ GE532.out) | exact HB.out)⟩
     (try clear HO503)
     (try clear HO506)
     (try clear HO513)
     (try clear HO516)
     (try clear HO519)
     (try clear HO522)
     (try clear HO527)
     (try clear HO530)
     (try clear BK497)
     (try clear BK524)
     (try clear BK532)
     (try clear HB)
     generalize ((w41.setCell ⟨gb532, 0, none⟩ (.slice Ao42 t525.length co42)).setCell ⟨gb532, 1, none⟩ (.slice Ao46 t528.length co46)) = w84 at n0_ n1_ n2_ n3_ n4_ n5_ n6_ n7_ n8_ n9_ n10_ n11_ ⊢
     have HO503 := n0_
     have HO506 := n1_
     have HO513 := n2_
     have HO516 := n3_
     have HO519 := n4_
     have HO522 := n5_
     have HO527 := n6_
     have HO530 := n7_
     have BK497 := n8_
     have BK524 := n9_
     have BK532 := n10_
     have HB := n11_
     clear n0_ n1_ n2_ n3_ n4_ n5_ n6_ n7_ n8_ n9_ n10_ n11_
     have n0_ := Aside0.mk (Kd.R_drew HO503.out)
     have n1_ := Aside0.mk (Kd.R_drew HO506.out)
     have n2_ := Aside0.mk (Kd.R_drew HO513.out)
     have n3_ := Aside0.mk (Kd.R_drew HO516.out)
     have n4_ := Aside0.mk (Kd.R_drew HO519.out)
     have n5_ := Aside0.mk (Kd.R_drew HO522.out)
     have n6_ := Aside0.mk (Kd.R_drew HO527.out)
     have n7_ := Aside0.mk (Kd.R_drew HO530.out)
     have n8_ := Aside0.mk (blk_drew BK497.out)
     have n9_ := Aside0.mk (blk_drew BK524.out)
     have n10_ := Aside0.mk (blk_drew BK532.out)
     have n11_ := Aside0.mk (below_drew1 HB.out)
     clear HO503
     clear HO506
     clear HO513
     clear HO516
     clear HO519
     clear HO522
     clear HO527
     clear HO530
     clear BK497
     clear BK524
     clear BK532
     clear HB
     have HO503 := n0_
     have HO506 := n1_
     have HO513 := n2_
     have HO516 := n3_
     have HO519 := n4_
     have HO522 := n5_
     have HO527 := n6_
     have HO530 := n7_
     have BK497 := n8_
     have BK524 := n9_
     have BK532 := n10_
     have HB := n11_
     clear n0_ n1_ n2_ n3_ n4_ n5_ n6_ n7_ n8_ n9_ n10_ n11_
     refine start_ (n := 27) (S := fun w' => w'.cell? ⟨gb497, 0, none⟩ = some (.slice A0_0 l0_0.length c0_0) ∧ w'.cell? ⟨gb497, 1, none⟩ = some (.slice A0_1 l0_1.length c0_1)) (ds := []) #[false, false, false, false, false, false, false, false, false, false, false, false, false, false, false, false, false, false, false, false, false, false, false, false, false, false, false] zK rfl rfl ⟨(blk_cell BK497.out 0).trans rfl, (blk_cell BK497.out 1).trans rfl⟩ (fun hHeld => ?_); refine with_tabW ancepslaw38_TableValid.tab7 ancepslaw38_TableValid.bits7 (fun HT_ HW_ => ?_)
     generalize w84.drew = w85 at HO503 HO506 HO513 HO516 HO519 HO522 HO527 HO530 BK497 BK524 BK532 HB hHeld ⊢
     refine take_ (i := 0) (N := some 45) (v := ?_) (a' := ?_) #[true, false, false, false, false, false, false, false, false, false, false, false, false, false, false, false, false, false, false, false, false, false, false, false, false, false, false] rfl rfl (take_ofW HT_.out HW_.out zK) (fun _ _ _ h => h) (Or.inl ⟨by rfl, ?_⟩) hHeld ?_ ?_
     rotate_left
     ·rintro w' ⟨s0, s1⟩
      go_simp
      with_reducible rfl
     rotate_left
     ·simp only [Act.put, List.setIfInBounds_toArray, List.set_cons_zero, List.set_cons_succ, i64_w, i32_w]
      rfl
     refine take_ (i := 3) (N := some 48) (v := ?_) (a' := ?_) #[true, false, false, true, false, false, false, false, false, false, false, false, false, false, false, false, false, false, false, false, false, false, false, false, false, false, false] rfl rfl (take_ofW HT_.out HW_.out zK) (fun _ _ _ h => h) (Or.inl ⟨by rfl, ?_⟩) hHeld ?_ ?_
     rotate_left
     ·rintro w' ⟨s0, s1⟩
      go_simp
      with_reducible rfl
     rotate_left
     ·simp only [Act.put, List.setIfInBounds_toArray, List.set_cons_zero, List.set_cons_succ, i64_w, i32_w]
      rfl
     refine one_ (i := 1) (N := some 46) #[true, true, false, true, false, false, false, false, false, false, false, false, false, false, false, false, false, false, false, false, false, false, false, false, false, false, false] rfl rfl (one_of HT_.out zK) (by decide) (fun K hK => ?_)
     refine goes_ Try.func21 zK rfl #[.agg #[.slice A0_0 l0_0.length c0_0, .slice A0_1 l0_1.length c0_1]] (by rfl) rfl rfl zM ?_
     with_reducible refine (ancepslaw38_own.calls _ _ l0_0 _ _ l0_1 t533 t536 _ ?side1 ?side2 ?side3 ?side4 A47.out).mono ?_
     (case side1 => repeat (first | exact (Kd.C_below HR0_0.out HB.out) | (with_reducible refine Kd.C_alloc ?_ _) | (with_reducible refine Kd.C_drewN ?_ _) | (with_reducible refine Kd.C_drew ?_)))
     (case side2 => exact HC0_0.out)
     (case side3 => repeat (first | exact (Kd.C_below HR0_1.out HB.out) | (with_reducible refine Kd.C_alloc ?_ _) | (with_reducible refine Kd.C_drewN ?_ _) | (with_reducible refine Kd.C_drew ?_)))
     (case side4 => exact HC0_1.out)
     rintro e w86 ⟨v534, v537, rfl, ho0, ho1, hb⟩
     refine ⟨_, rfl, ?_⟩
     have n0_ := Aside0.mk (Kd.R_mono (Kd.R_told (Kd.R_told (Kd.R_old (zR HO503) hb) (Kd.R_base ho0)) (Kd.R_base ho1)) (fun _ h_ => h_.1))
     have n1_ := Aside0.mk (Kd.R_mono (Kd.R_told (Kd.R_told (Kd.R_old (zR HO506) hb) (Kd.R_base ho0)) (Kd.R_base ho1)) (fun _ h_ => h_.1))
     have n2_ := Aside0.mk (Kd.R_mono (Kd.R_told (Kd.R_told (Kd.R_old (zR HO513) hb) (Kd.R_base ho0)) (Kd.R_base ho1)) (fun _ h_ => h_.1))
     have n3_ := Aside0.mk (Kd.R_mono (Kd.R_told (Kd.R_told (Kd.R_old (zR HO516) hb) (Kd.R_base ho0)) (Kd.R_base ho1)) (fun _ h_ => h_.1))
     have n4_ := Aside0.mk (Kd.R_mono (Kd.R_told (Kd.R_told (Kd.R_old (zR HO519) hb) (Kd.R_base ho0)) (Kd.R_base ho1)) (fun _ h_ => h_.1))
     have n5_ := Aside0.mk (Kd.R_mono (Kd.R_told (Kd.R_told (Kd.R_old (zR HO522) hb) (Kd.R_base ho0)) (Kd.R_base ho1)) (fun _ h_ => h_.1))
     have n6_ := Aside0.mk (Kd.R_mono (Kd.R_told (Kd.R_told (Kd.R_old (zR HO527) hb) (Kd.R_base ho0)) (Kd.R_base ho1)) (fun _ h_ => h_.1))
     have n7_ := Aside0.mk (Kd.R_mono (Kd.R_told (Kd.R_told (Kd.R_old (zR HO530) hb) (Kd.R_base ho0)) (Kd.R_base ho1)) (fun _ h_ => h_.1))
     have n8_ := Aside0.mk (Kd.R_lower (Kd.R_new' (Kd.R_new' (Kd.R_new' (Kd.R_new' (Kd.R_new' (Kd.R_new' (Kd.R_new' (Kd.R_new' ho0 (Kd.R_lt (zR HO503))) (Kd.R_lt (zR HO506))) (Kd.R_lt (zR HO513))) (Kd.R_lt (zR HO516))) (Kd.R_lt (zR HO519))) (Kd.R_lt (zR HO522))) (Kd.R_lt (zR HO527))) (Kd.R_lt (zR HO530))) (below_size zB))
     have n9_ := Aside0.mk (Kd.R_lower (Kd.R_new' (Kd.R_new' (Kd.R_new' (Kd.R_new' (Kd.R_new' (Kd.R_new' (Kd.R_new' (Kd.R_new' ho1 (Kd.R_lt (zR HO503))) (Kd.R_lt (zR HO506))) (Kd.R_lt (zR HO513))) (Kd.R_lt (zR HO516))) (Kd.R_lt (zR HO519))) (Kd.R_lt (zR HO522))) (Kd.R_lt (zR HO527))) (Kd.R_lt (zR HO530))) (below_size zB))
     have n10_ := Aside0.mk (blk_below (g := gb497) (o := .cells #[.slice A0_0 l0_0.length c0_0, .slice A0_1 l0_1.length c0_1] 29 (0, 0)) (zk BK497) hb)
     have n11_ := Aside0.mk (blk_below (g := gb524) (o := .cells #[.slice Ao35 t517.length co35, .slice Ao38 t520.length co38] 29 (0, 0)) (zk BK524) hb)
     have n12_ := Aside0.mk (blk_below (g := gb532) (o := .cells #[.slice Ao42 t525.length co42, .slice Ao46 t528.length co46] 29 (0, 0)) (zk BK532) hb)
     have n13_ := Aside0.mk (below_step zB hb)
     clear HO503
     clear HO506
     clear HO513
     clear HO516
     clear HO519
     clear HO522
     clear HO527
     clear HO530
     clear BK497
     clear BK524
     clear BK532
     clear HB
     have HO503 := n0_
     have HO506 := n1_
     have HO513 := n2_
     have HO516 := n3_
     have HO519 := n4_
     have HO522 := n5_
     have HO527 := n6_
     have HO530 := n7_
     have HO535 := n8_
     have HO538 := n9_
     have BK497 := n10_
     have BK524 := n11_
     have BK532 := n12_
     have HB := n13_
     clear n0_ n1_ n2_ n3_ n4_ n5_ n6_ n7_ n8_ n9_ n10_ n11_ n12_ n13_
     (try clear hb)
     (try clear hb2)
     (try clear hk)
     (try clear hi)
     (try clear ho0)
     (try clear ho1)
     obtain ⟨Ao87, co87, eo87⟩ := Kd.R_slice HO535.out
     (first | subst eo87 | (injection eo87 with f1_ f2_ f3_; have f4_ := f1_.symm; have f5_ := f3_.symm; clear f1_ f2_ f3_; subst f4_; subst f5_))
     obtain ⟨Ao88, co88, eo88⟩ := Kd.R_slice HO538.out
     (first | subst eo88 | (injection eo88 with f1_ f2_ f3_; have f4_ := f1_.symm; have f5_ := f3_.symm; clear f1_ f2_ f3_; subst f4_; subst f5_))
     refine hK.out _ _ ⟨(blk_cell BK497.out 0).trans rfl, (blk_cell BK497.out 1).trans rfl⟩ (fun hHeld => ?_)
     clear hK K
     refine norm_ (a' := ?_) ?_ ?_
     rotate_left
     ·show Act.put _ (some 46) _ = _
      simp only [Act.put, List.setIfInBounds_toArray, List.set_cons_zero, List.set_cons_succ, i64_w, i32_w]
      rfl
     refine one_ (i := 2) (N := some 47) #[true, true, true, true, false, false, false, false, false, false, false, false, false, false, false, false, false, false, false, false, false, false, false, false, false, false, false] rfl rfl (one_of HT_.out zK) (by decide) (fun K hK => ?_)
     refine goes_ Try.func25 zK rfl #[.agg #[.slice Ao87 t533.length co87, .slice Ao88 t536.length co88]] (by rfl) rfl rfl zM ?_
     with_reducible refine (table_Valid.calls kj2 _ _ t533 _ _ t536 t539 _ ?side1 ?side2 ?side3 ?side4 A48.out).mono ?_
     (case side1 => repeat (first | exact (Kd.R_reads' HO535.out).2.2 | (with_reducible refine Kd.C_alloc ?_ _) | (with_reducible refine Kd.C_drewN ?_ _) | (with_reducible refine Kd.C_drew ?_)))
     (case side2 => exact (Kd.R_reads' HO535.out).2.1)
     (case side3 => repeat (first | exact (Kd.R_reads' HO538.out).2.2 | (with_reducible refine Kd.C_alloc ?_ _) | (with_reducible refine Kd.C_drewN ?_ _) | (with_reducible refine Kd.C_drew ?_)))
     (case side4 => exact (Kd.R_reads' HO538.out).2.1)
     rintro e w89 ⟨rfl, hb⟩
     refine ⟨_, rfl, ?_⟩
     have n0_ := Aside0.mk (Kd.R_below (zR HO503) hb)
     have n1_ := Aside0.mk (Kd.R_below (zR HO506) hb)
     have n2_ := Aside0.mk (Kd.R_below (zR HO513) hb)
     have n3_ := Aside0.mk (Kd.R_below (zR HO516) hb)
     have n4_ := Aside0.mk (Kd.R_below (zR HO519) hb)
     have n5_ := Aside0.mk (Kd.R_below (zR HO522) hb)
     have n6_ := Aside0.mk (Kd.R_below (zR HO527) hb)
     have n7_ := Aside0.mk (Kd.R_below (zR HO530) hb)
     have n8_ := Aside0.mk (Kd.R_below (zR HO535) hb)
     have n9_ := Aside0.mk (Kd.R_below (zR HO538) hb)
     have n10_ := Aside0.mk (blk_below (g := gb497) (o := .cells #[.slice A0_0 l0_0.length c0_0, .slice A0_1 l0_1.length c0_1] 29 (0, 0)) (zk BK497) hb)
     have n11_ := Aside0.mk (blk_below (g := gb524) (o := .cells #[.slice Ao35 t517.length co35, .slice Ao38 t520.length co38] 29 (0, 0)) (zk BK524) hb)
     have n12_ := Aside0.mk (blk_below (g := gb532) (o := .cells #[.slice Ao42 t525.length co42, .slice Ao46 t528.length co46] 29 (0, 0)) (zk BK532) hb)
     have n13_ := Aside0.mk (below_step zB hb)
     clear HO503
     clear HO506
     clear HO513
     clear HO516
     clear HO519
     clear HO522
     clear HO527
     clear HO530
     clear HO535
     clear HO538
     clear BK497
     clear BK524
     clear BK532
     clear HB
     have HO503 := n0_
     have HO506 := n1_
     have HO513 := n2_
     have HO516 := n3_
     have HO519 := n4_
     have HO522 := n5_
     have HO527 := n6_
     have HO530 := n7_
     have HO535 := n8_
     have HO538 := n9_
     have BK497 := n10_
     have BK524 := n11_
     have BK532 := n12_
     have HB := n13_
     clear n0_ n1_ n2_ n3_ n4_ n5_ n6_ n7_ n8_ n9_ n10_ n11_ n12_ n13_
     (try clear hb)
     (try clear hb2)
     (try clear hk)
     (try clear hi)
     refine hK.out _ _ ⟨(blk_cell BK497.out 0).trans rfl, (blk_cell BK497.out 1).trans rfl⟩ (fun hHeld => ?_)
     clear hK K
     refine norm_ (a' := ?_) ?_ ?_
     rotate_left
     ·show Act.put _ (some 47) _ = _
      simp only [Act.put, List.setIfInBounds_toArray, List.set_cons_zero, List.set_cons_succ, i64_w, i32_w]
      rfl
     refine one_ (i := 4) (N := some 49) #[true, true, true, true, true, false, false, false, false, false, false, false, false, false, false, false, false, false, false, false, false, false, false, false, false, false, false] rfl rfl (one_of HT_.out zK) (by decide) (fun K hK => ?_)
     refine goes_ Try.func26 zK rfl #[.agg #[.slice A0_0 l0_0.length c0_0, .slice A0_1 l0_1.length c0_1]] (by rfl) rfl rfl zM ?_
     with_reducible refine (ancepsref38_Valid.calls kj2 _ _ l0_0 _ _ l0_1 t540 _ ?side1 ?side2 ?side3 ?side4 A49.out).mono ?_
     (case side1 => repeat (first | exact (Kd.C_below HR0_0.out HB.out) | (with_reducible refine Kd.C_alloc ?_ _) | (with_reducible refine Kd.C_drewN ?_ _) | (with_reducible refine Kd.C_drew ?_)))
     (case side2 => exact HC0_0.out)
     (case side3 => repeat (first | exact (Kd.C_below HR0_1.out HB.out) | (with_reducible refine Kd.C_alloc ?_ _) | (with_reducible refine Kd.C_drewN ?_ _) | (with_reducible refine Kd.C_drew ?_)))
     (case side4 => exact HC0_1.out)
     rintro e w90 ⟨rfl, hb⟩
     refine ⟨_, rfl, ?_⟩
     have n0_ := Aside0.mk (Kd.R_below (zR HO503) hb)
     have n1_ := Aside0.mk (Kd.R_below (zR HO506) hb)
     have n2_ := Aside0.mk (Kd.R_below (zR HO513) hb)
     have n3_ := Aside0.mk (Kd.R_below (zR HO516) hb)
     have n4_ := Aside0.mk (Kd.R_below (zR HO519) hb)
     have n5_ := Aside0.mk (Kd.R_below (zR HO522) hb)
     have n6_ := Aside0.mk (Kd.R_below (zR HO527) hb)
     have n7_ := Aside0.mk (Kd.R_below (zR HO530) hb)
     have n8_ := Aside0.mk (Kd.R_below (zR HO535) hb)
     have n9_ := Aside0.mk (Kd.R_below (zR HO538) hb)
     have n10_ := Aside0.mk (blk_below (g := gb497) (o := .cells #[.slice A0_0 l0_0.length c0_0, .slice A0_1 l0_1.length c0_1] 29 (0, 0)) (zk BK497) hb)
     have n11_ := Aside0.mk (blk_below (g := gb524) (o := .cells #[.slice Ao35 t517.length co35, .slice Ao38 t520.length co38] 29 (0, 0)) (zk BK524) hb)
     have n12_ := Aside0.mk (blk_below (g := gb532) (o := .cells #[.slice Ao42 t525.length co42, .slice Ao46 t528.length co46] 29 (0, 0)) (zk BK532) hb)
     have n13_ := Aside0.mk (below_step zB hb)
     clear HO503
     clear HO506
     clear HO513
     clear HO516
     clear HO519
     clear HO522
     clear HO527
     clear HO530
     clear HO535
     clear HO538
     clear BK497
     clear BK524
     clear BK532
     clear HB
     have HO503 := n0_
     have HO506 := n1_
     have HO513 := n2_
     have HO516 := n3_
     have HO519 := n4_
     have HO522 := n5_
     have HO527 := n6_
     have HO530 := n7_
     have HO535 := n8_
     have HO538 := n9_
     have BK497 := n10_
     have BK524 := n11_
     have BK532 := n12_
     have HB := n13_
     clear n0_ n1_ n2_ n3_ n4_ n5_ n6_ n7_ n8_ n9_ n10_ n11_ n12_ n13_
     (try clear hb)
     (try clear hb2)
     (try clear hk)
     (try clear hi)
     refine hK.out _ _ ⟨(blk_cell BK497.out 0).trans rfl, (blk_cell BK497.out 1).trans rfl⟩ (fun hHeld => ?_)
     clear hK K
     refine norm_ (a' := ?_) ?_ ?_
     rotate_left
     ·show Act.put _ (some 49) _ = _
      simp only [Act.put, List.setIfInBounds_toArray, List.set_cons_zero, List.set_cons_succ, i64_w, i32_w]
      rfl
     refine pure_ (i := 5) (N := some 50) (v := ?_) (a' := ?_) #[true, true, true, true, true, true, false, false, false, false, false, false, false, false, false, false, false, false, false, false, false, false, false, false, false, false, false] rfl rfl (any_of HT_.out zK) (fun _ _ _ h => h) (Or.inl ⟨by rfl, ?_⟩) ?_ ?_
     rotate_left
     ·intro w'
      go_simp
      with_reducible rfl
     rotate_left
     ·simp only [Act.put, List.setIfInBounds_toArray, List.set_cons_zero, List.set_cons_succ, i64_w, i32_w]
      rfl
     refine pure_ (i := 6) (N := some 51) (v := ?_) (a' := ?_) #[true, true, true, true, true, true, true, false, false, false, false, false, false, false, false, false, false, false, false, false, false, false, false, false, false, false, false] rfl rfl (any_of HT_.out zK) (fun _ _ _ h => h) (Or.inl ⟨by rfl, ?_⟩) ?_ ?_
     rotate_left
     ·intro w'
      go_simp
      with_reducible rfl
     rotate_left
     ·simp only [Act.put, List.setIfInBounds_toArray, List.set_cons_zero, List.set_cons_succ, i64_w, i32_w]
      rfl
     refine pure_ (i := 7) (N := some 52) (v := undef) (a' := ?_) #[true, true, true, true, true, true, true, true, false, false, false, false, false, false, false, false, false, false, false, false, false, false, false, false, false, false, false] rfl rfl (any_of HT_.out zK) (fun _ _ _ h => h) (Or.inr ⟨by rfl, rfl⟩) ?_ ?_
     rotate_left
     ·simp only [Act.put, List.setIfInBounds_toArray, List.set_cons_zero, List.set_cons_succ, i64_w, i32_w]
      rfl
     refine pure_ (i := 8) (N := some 53) (v := undef) (a' := ?_) #[true, true, true, true, true, true, true, true, true, false, false, false, false, false, false, false, false, false, false, false, false, false, false, false, false, false, false] rfl rfl (any_of HT_.out zK) (fun _ _ _ h => h) (Or.inr ⟨by rfl, rfl⟩) ?_ ?_
     rotate_left
     ·simp only [Act.put, List.setIfInBounds_toArray, List.set_cons_zero, List.set_cons_succ, i64_w, i32_w]
      rfl
     refine pure_ (i := 9) (N := some 54) (v := undef) (a' := ?_) #[true, true, true, true, true, true, true, true, true, true, false, false, false, false, false, false, false, false, false, false, false, false, false, false, false, false, false] rfl rfl (any_of HT_.out zK) (fun _ _ _ h => h) (Or.inr ⟨by rfl, rfl⟩) ?_ ?_
     rotate_left
     ·simp only [Act.put, List.setIfInBounds_toArray, List.set_cons_zero, List.set_cons_succ, i64_w, i32_w]
      rfl
     refine pure_ (i := 10) (N := some 55) (v := ?_) (a' := ?_) #[true, true, true, true, true, true, true, true, true, true, true, false, false, false, false, false, false, false, false, false, false, false, false, false, false, false, false] rfl rfl (any_of HT_.out zK) (fun _ _ _ h => h) (Or.inl ⟨by rfl, ?_⟩) ?_ ?_
     rotate_left
     ·intro w'
      go_simp
      with_reducible rfl
     rotate_left
     ·simp only [Act.put, List.setIfInBounds_toArray, List.set_cons_zero, List.set_cons_succ, i64_w, i32_w]
      rfl
     refine pure_ (i := 11) (N := some 56) (v := ?_) (a' := ?_) #[true, true, true, true, true, true, true, true, true, true, true, true, false, false, false, false, false, false, false, false, false, false, false, false, false, false, false] rfl rfl (any_of HT_.out zK) (fun _ _ _ h => h) (Or.inl ⟨by rfl, ?_⟩) ?_ ?_
     rotate_left
     ·intro w'
      go_simp
      with_reducible rfl
     rotate_left
     ·simp only [Act.put, List.setIfInBounds_toArray, List.set_cons_zero, List.set_cons_succ, i64_w, i32_w]
      rfl
     refine pure_ (i := 12) (N := some 57) (v := undef) (a' := ?_) #[true, true, true, true, true, true, true, true, true, true, true, true, true, false, false, false, false, false, false, false, false, false, false, false, false, false, false] rfl rfl (any_of HT_.out zK) (fun _ _ _ h => h) (Or.inr ⟨by rfl, rfl⟩) ?_ ?_
     rotate_left
     ·simp only [Act.put, List.setIfInBounds_toArray, List.set_cons_zero, List.set_cons_succ, i64_w, i32_w]
      rfl
     refine pure_ (i := 13) (N := some 58) (v := undef) (a' := ?_) #[true, true, true, true, true, true, true, true, true, true, true, true, true, true, false, false, false, false, false, false, false, false, false, false, false, false, false] rfl rfl (any_of HT_.out zK) (fun _ _ _ h => h) (Or.inr ⟨by rfl, rfl⟩) ?_ ?_
     rotate_left
     ·simp only [Act.put, List.setIfInBounds_toArray, List.set_cons_zero, List.set_cons_succ, i64_w, i32_w]
      rfl
     refine pure_ (i := 14) (N := some 59) (v := undef) (a' := ?_) #[true, true, true, true, true, true, true, true, true, true, true, true, true, true, true, false, false, false, false, false, false, false, false, false, false, false, false] rfl rfl (any_of HT_.out zK) (fun _ _ _ h => h) (Or.inr ⟨by rfl, rfl⟩) ?_ ?_
     rotate_left
     ·simp only [Act.put, List.setIfInBounds_toArray, List.set_cons_zero, List.set_cons_succ, i64_w, i32_w]
      rfl
     refine pure_ (i := 15) (N := some 60) (v := ?_) (a' := ?_) #[true, true, true, true, true, true, true, true, true, true, true, true, true, true, true, true, false, false, false, false, false, false, false, false, false, false, false] rfl rfl (any_of HT_.out zK) (fun _ _ _ h => h) (Or.inl ⟨by rfl, ?_⟩) ?_ ?_
     rotate_left
     ·intro w'
      go_simp
      with_reducible rfl
     rotate_left
     ·simp only [Act.put, List.setIfInBounds_toArray, List.set_cons_zero, List.set_cons_succ, i64_w, i32_w]
      rfl
     refine pure_ (i := 16) (N := some 61) (v := ?_) (a' := ?_) #[true, true, true, true, true, true, true, true, true, true, true, true, true, true, true, true, true, false, false, false, false, false, false, false, false, false, false] rfl rfl (any_of HT_.out zK) (fun _ _ _ h => h) (Or.inl ⟨by rfl, ?_⟩) ?_ ?_
     rotate_left
     ·intro w'
      go_simp
      with_reducible rfl
     rotate_left
     ·simp only [Act.put, List.setIfInBounds_toArray, List.set_cons_zero, List.set_cons_succ, i64_w, i32_w]
      rfl
     refine pure_ (i := 17) (N := some 62) (v := undef) (a' := ?_) #[true, true, true, true, true, true, true, true, true, true, true, true, true, true, true, true, true, true, false, false, false, false, false, false, false, false, false] rfl rfl (any_of HT_.out zK) (fun _ _ _ h => h) (Or.inr ⟨by rfl, rfl⟩) ?_ ?_
     rotate_left
     ·simp only [Act.put, List.setIfInBounds_toArray, List.set_cons_zero, List.set_cons_succ, i64_w, i32_w]
      rfl
     refine pure_ (i := 18) (N := some 63) (v := undef) (a' := ?_) #[true, true, true, true, true, true, true, true, true, true, true, true, true, true, true, true, true, true, true, false, false, false, false, false, false, false, false] rfl rfl (any_of HT_.out zK) (fun _ _ _ h => h) (Or.inr ⟨by rfl, rfl⟩) ?_ ?_
     rotate_left
     ·simp only [Act.put, List.setIfInBounds_toArray, List.set_cons_zero, List.set_cons_succ, i64_w, i32_w]
      rfl
     refine pure_ (i := 19) (N := some 64) (v := undef) (a' := ?_) #[true, true, true, true, true, true, true, true, true, true, true, true, true, true, true, true, true, true, true, true, false, false, false, false, false, false, false] rfl rfl (any_of HT_.out zK) (fun _ _ _ h => h) (Or.inr ⟨by rfl, rfl⟩) ?_ ?_
     rotate_left
     ·simp only [Act.put, List.setIfInBounds_toArray, List.set_cons_zero, List.set_cons_succ, i64_w, i32_w]
      rfl
     refine pure_ (i := 20) (N := some 65) (v := ?_) (a' := ?_) #[true, true, true, true, true, true, true, true, true, true, true, true, true, true, true, true, true, true, true, true, true, false, false, false, false, false, false] rfl rfl (any_of HT_.out zK) (fun _ _ _ h => h) (Or.inl ⟨by rfl, ?_⟩) ?_ ?_
     rotate_left
     ·intro w'
      go_simp
      with_reducible rfl
     rotate_left
     ·simp only [Act.put, List.setIfInBounds_toArray, List.set_cons_zero, List.set_cons_succ, i64_w, i32_w]
      rfl
     refine pure_ (i := 21) (N := some 66) (v := ?_) (a' := ?_) #[true, true, true, true, true, true, true, true, true, true, true, true, true, true, true, true, true, true, true, true, true, true, false, false, false, false, false] rfl rfl (any_of HT_.out zK) (fun _ _ _ h => h) (Or.inl ⟨by rfl, ?_⟩) ?_ ?_
     rotate_left
     ·intro w'
      go_simp
      with_reducible rfl
     rotate_left
     ·simp only [Act.put, List.setIfInBounds_toArray, List.set_cons_zero, List.set_cons_succ, i64_w, i32_w]
      rfl
     refine pure_ (i := 22) (N := some 67) (v := undef) (a' := ?_) #[true, true, true, true, true, true, true, true, true, true, true, true, true, true, true, true, true, true, true, true, true, true, true, false, false, false, false] rfl rfl (any_of HT_.out zK) (fun _ _ _ h => h) (Or.inr ⟨by rfl, rfl⟩) ?_ ?_
     rotate_left
     ·simp only [Act.put, List.setIfInBounds_toArray, List.set_cons_zero, List.set_cons_succ, i64_w, i32_w]
      rfl
     refine pure_ (i := 23) (N := some 68) (v := undef) (a' := ?_) #[true, true, true, true, true, true, true, true, true, true, true, true, true, true, true, true, true, true, true, true, true, true, true, true, false, false, false] rfl rfl (any_of HT_.out zK) (fun _ _ _ h => h) (Or.inr ⟨by rfl, rfl⟩) ?_ ?_
     rotate_left
     ·simp only [Act.put, List.setIfInBounds_toArray, List.set_cons_zero, List.set_cons_succ, i64_w, i32_w]
      rfl
     refine pure_ (i := 24) (N := some 69) (v := undef) (a' := ?_) #[true, true, true, true, true, true, true, true, true, true, true, true, true, true, true, true, true, true, true, true, true, true, true, true, true, false, false] rfl rfl (any_of HT_.out zK) (fun _ _ _ h => h) (Or.inr ⟨by rfl, rfl⟩) ?_ ?_
     rotate_left
     ·simp only [Act.put, List.setIfInBounds_toArray, List.set_cons_zero, List.set_cons_succ, i64_w, i32_w]
      rfl
     refine pure_ (i := 25) (N := some 70) (v := ?_) (a' := ?_) #[true, true, true, true, true, true, true, true, true, true, true, true, true, true, true, true, true, true, true, true, true, true, true, true, true, true, false] rfl rfl (any_of HT_.out zK) (fun _ _ _ h => h) (Or.inl ⟨by rfl, ?_⟩) ?_ ?_
     rotate_left
     ·intro w'
      go_simp
      with_reducible rfl
     rotate_left
     ·simp only [Act.put, List.setIfInBounds_toArray, List.set_cons_zero, List.set_cons_succ, i64_w, i32_w]
      rfl
     refine pure_ (i := 26) (N := some 4) (v := ?_) (a' := ?_) #[true, true, true, true, true, true, true, true, true, true, true, true, true, true, true, true, true, true, true, true, true, true, true, true, true, true, true] rfl rfl (any_of HT_.out zK) (fun _ _ _ h => h) (Or.inl ⟨by rfl, ?_⟩) ?_ ?_
     rotate_left
     ·intro w'
      go_simp
      with_reducible rfl
     rotate_left
     ·simp only [Act.put, List.setIfInBounds_toArray, List.set_cons_zero, List.set_cons_succ, i64_w, i32_w]
      rfl
     refine done_ (done_of HT_.out zK) ?_
     try go_wp2
     go_ret
     exact ⟨by first | rfl | (simp [errW_none, errW_some] <;> rfl) | (simp [*, errW_none, errW_some] <;> rfl), by repeat (first | (with_reducible first | exact HB.out | apply below_alloc | apply pw_below_drewN | apply below_drew1 | refine below_set ?_ GE497.out | refine below_set ?_ GE524.out | refine below_set ?_ GE532.out) | exact HB.out)⟩
end Go.Proofs.Ythcfmdkhkikbcaa.T
