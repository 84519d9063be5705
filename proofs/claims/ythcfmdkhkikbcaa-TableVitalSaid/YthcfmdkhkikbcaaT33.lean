-- Written by wip/tools/myprint.py, a program of this session's.
import Derived.Test.YthcfmdkhkikbcaaT0
import Derived.Test.YthcfmdkhkikbcaaT2
import Derived.Test.YthcfmdkhkikbcaaT4
import Derived.Test.YthcfmdkhkikbcaaT5
import Derived.Test.YthcfmdkhkikbcaaT9
import Derived.Test.YthcfmdkhkikbcaaT10
import Derived.Test.YthcfmdkhkikbcaaT13
import Derived.Test.YthcfmdkhkikbcaaT15
import Derived.Test.YthcfmdkhkikbcaaT26
import Derived.Test.YthcfmdkhkikbcaaT30
namespace Go.Proofs.Ythcfmdkhkikbcaa.T
open Go.RowKit Go.Proofs.YthcfmdkhkikbcaaW.PrintWords Go.Proofs.YthcfmdkhkikbcaaW.PrintLast Go.Proofs.YthcfmdkhkikbcaaW.PrintMore
attribute [local go_sem] max2_int min2_int max_two min_two max_three min_three max_four min_four   -- for this text's walks alone
set_option linter.unusedVariables false
set_option linter.unusedSimpArgs false
/-! ### ancepslaw38_TableVital: function 8 -/
mutual
def ancepslaw38_TableVital.j0 : Nat → Int → Bool → List Int → List Int → List Int → List Int → Option (Bool)
 | 0, _, _, _, _, _, _ => none
 | k + 1, x1, x33, x1106000, x1106001, x1114000, x1114001 => if x33 = true then (some false) else (ancepslaw38_TableVital.l0 k x1 x1114000 (x1114000.length : Int) 0 x1106000 x1106001 x1114000 x1114001)
def ancepslaw38_TableVital.l0 : Nat → Int → List Int → Int → Int → List Int → List Int → List Int → List Int → Option (Bool)
 | 0, _, _, _, _, _, _, _, _ => none
 | k + 1, x1, x35, x36, x37, x1106000, x1106001, x1114000, x1114001 => if x37 < x36 then (if 0 ≤ x37 then (if x37 < (x35.length : Int) then ((ancepsref38_Matters.f k x1114000 x1114001 (rd x35 x37)).bind fun t1116 => (if t1116 = true then ((slices_Contains_int_int.f k x1106000 (rd x35 x37)).bind fun t1117 => (if t1117 = true then (ancepslaw38_TableVital.l0 k x1 x35 x36 (wrap64 (x37 + 1)) x1106000 x1106001 x1114000 x1114001) else (some false))) else (some false))) else (none)) else (none)) else (ancepslaw38_TableVital.l1 k x1 (shl .i64 1 (x1106000.length : Int)) 0 x1106000 x1106001 x1114000 x1114001)
def ancepslaw38_TableVital.l1 : Nat → Int → Int → Int → List Int → List Int → List Int → List Int → Option (Bool)
 | 0, _, _, _, _, _, _, _ => none
 | k + 1, x1, x56, x57, x1106000, x1106001, x1114000, x1114001 => if x57 < x56 then ((ancepsref38_Assignment.f k x1106000 x57).bind fun t1118 => ((ancepsref38_Holds.f k x1114000 x1114001 t1118).bind fun t1119 => ((ancepsref38_Holds.f k x1106000 x1106001 t1118).bind fun t1120 => (if (t1119 != t1120) = true then (some false) else (ancepslaw38_TableVital.l1 k x1 x56 (wrap64 (x57 + 1)) x1106000 x1106001 x1114000 x1114001))))) else (ancepslaw38_TableVital.l2 k x1 ([] : List Int) 0 x1106000 x1106001 x1114000 x1114001)
def ancepslaw38_TableVital.l2 : Nat → Int → List Int → Int → List Int → List Int → List Int → List Int → Option (Bool)
 | 0, _, _, _, _, _, _, _ => none
 | k + 1, x1, x12, x72, x1106000, x1106001, x1114000, x1114001 => if x72 < 24 then (if 0 ≤ x72 then (if (Go.bits .and .u32 (shr .u32 x1 x72) 1) = 1 then (if (x12.length : Int) < 4 then (if x12.length < 17592186044416 then (ancepslaw38_TableVital.l2 k x1 (x12 ++ [x72]) (wrap64 (x72 + 1)) x1106000 x1106001 x1114000 x1114001) else (none)) else (ancepslaw38_TableVital.l2 k x1 x12 (wrap64 (x72 + 1)) x1106000 x1106001 x1114000 x1114001)) else (ancepslaw38_TableVital.l2 k x1 x12 (wrap64 (x72 + 1)) x1106000 x1106001 x1114000 x1114001)) else (none)) else ((table_Extend.f k x1106000 x1106001 x12).bind fun bt1124 => ((table_Vital.f k bt1124.1 bt1124.2.1).bind fun bt1132 => (if bt1124.2.2 = 0 then (if bt1132.2.2 = 0 then ((ancepsref38_Equal.f k x1114000 x1114001 bt1132.1 bt1132.2.1).bind fun t1140 => (some t1140)) else (some false)) else (some false))))
end
def ancepslaw38_TableVital.f (k : Nat) (a0_0 : Int) (a0_1 : Int) (a1 : Int) : Option (Bool) := (ancepslaw38_awake.f k).bind fun t1098 => (if t1098 = true then ((ancepsref38_Made.f k a0_0 a0_1).bind fun bt1099 => ((table_Vital.f k bt1099.1 bt1099.2).bind fun bt1106 => (if bt1106.2.2 = 0 then ((ancepsref38_Valid.f k bt1106.1 bt1106.2.1).bind fun t1114 => (ancepslaw38_TableVital.j0 k a1 (t1114 != 0) bt1099.1 bt1099.2 bt1106.1 bt1106.2.1)) else (ancepslaw38_TableVital.j0 k a1 true bt1099.1 bt1099.2 bt1106.1 bt1106.2.1)))) else (some false))
theorem ancepslaw38_TableVital.mono_l : ∀ k, (∀ y0 y1 y2 y3 y4 y5, LeO (ancepslaw38_TableVital.j0 k y0 y1 y2 y3 y4 y5) (ancepslaw38_TableVital.j0 (k + 1) y0 y1 y2 y3 y4 y5)) ∧ (∀ y0 y1 y2 y3 y4 y5 y6 y7, LeO (ancepslaw38_TableVital.l0 k y0 y1 y2 y3 y4 y5 y6 y7) (ancepslaw38_TableVital.l0 (k + 1) y0 y1 y2 y3 y4 y5 y6 y7)) ∧ (∀ y0 y1 y2 y3 y4 y5 y6, LeO (ancepslaw38_TableVital.l1 k y0 y1 y2 y3 y4 y5 y6) (ancepslaw38_TableVital.l1 (k + 1) y0 y1 y2 y3 y4 y5 y6)) ∧ (∀ y0 y1 y2 y3 y4 y5 y6, LeO (ancepslaw38_TableVital.l2 k y0 y1 y2 y3 y4 y5 y6) (ancepslaw38_TableVital.l2 (k + 1) y0 y1 y2 y3 y4 y5 y6))
 | 0 => ⟨fun _ _ _ _ _ _ r h => by simp [ancepslaw38_TableVital.j0] at h, fun _ _ _ _ _ _ _ _ r h => by simp [ancepslaw38_TableVital.l0] at h, fun _ _ _ _ _ _ _ r h => by simp [ancepslaw38_TableVital.l1] at h, fun _ _ _ _ _ _ _ r h => by simp [ancepslaw38_TableVital.l2] at h⟩
 | k + 1 => by
  obtain ⟨ih0, ih1, ih2, ih3⟩ := ancepslaw38_TableVital.mono_l k
  refine ⟨?_, ?_, ?_, ?_⟩
  ·intro y0 y1 y2 y3 y4 y5
   unfold ancepslaw38_TableVital.j0
   repeat' first
   | (with_reducible exact ih0 _ _ _ _ _ _)
   | (with_reducible exact ih1 _ _ _ _ _ _ _ _)
   | (with_reducible exact ih2 _ _ _ _ _ _ _)
   | (with_reducible exact ih3 _ _ _ _ _ _ _)
   | (with_reducible exact ancepslaw38_awake.mono _)
   | (with_reducible exact ancepsref38_Assignment.mono _ _ _)
   | (with_reducible exact ancepsref38_Equal.mono _ _ _ _ _)
   | (with_reducible exact ancepsref38_Holds.mono _ _ _ _)
   | (with_reducible exact ancepsref38_Made.mono _ _ _)
   | (with_reducible exact ancepsref38_Matters.mono _ _ _ _)
   | (with_reducible exact ancepsref38_Valid.mono _ _ _)
   | (with_reducible exact slices_Contains_int_int.mono _ _ _)
   | (with_reducible exact table_Extend.mono _ _ _ _)
   | (with_reducible exact table_Vital.mono _ _ _)
   | (with_reducible exact LeO.refl _)
   | (with_reducible exact LeO.none _)
   | (with_reducible refine LeO.ite ?_ ?_)
   | (with_reducible refine LeO.bind ?_ (fun _ => ?_))
   | exact ih0 _ _ _ _ _ _
   | exact ih1 _ _ _ _ _ _ _ _
   | exact ih2 _ _ _ _ _ _ _
   | exact ih3 _ _ _ _ _ _ _
   | exact ancepslaw38_awake.mono _
   | exact ancepsref38_Assignment.mono _ _ _
   | exact ancepsref38_Equal.mono _ _ _ _ _
   | exact ancepsref38_Holds.mono _ _ _ _
   | exact ancepsref38_Made.mono _ _ _
   | exact ancepsref38_Matters.mono _ _ _ _
   | exact ancepsref38_Valid.mono _ _ _
   | exact slices_Contains_int_int.mono _ _ _
   | exact table_Extend.mono _ _ _ _
   | exact table_Vital.mono _ _ _
   | exact LeO.none _
   | refine LeO.ite ?_ ?_
   | refine LeO.bind ?_ (fun _ => ?_)
  ·intro y0 y1 y2 y3 y4 y5 y6 y7
   unfold ancepslaw38_TableVital.l0
   repeat' first
   | (with_reducible exact ih0 _ _ _ _ _ _)
   | (with_reducible exact ih1 _ _ _ _ _ _ _ _)
   | (with_reducible exact ih2 _ _ _ _ _ _ _)
   | (with_reducible exact ih3 _ _ _ _ _ _ _)
   | (with_reducible exact ancepslaw38_awake.mono _)
   | (with_reducible exact ancepsref38_Assignment.mono _ _ _)
   | (with_reducible exact ancepsref38_Equal.mono _ _ _ _ _)
   | (with_reducible exact ancepsref38_Holds.mono _ _ _ _)
   | (with_reducible exact ancepsref38_Made.mono _ _ _)
   | (with_reducible exact ancepsref38_Matters.mono _ _ _ _)
   | (with_reducible exact ancepsref38_Valid.mono _ _ _)
   | (with_reducible exact slices_Contains_int_int.mono _ _ _)
   | (with_reducible exact table_Extend.mono _ _ _ _)
   | (with_reducible exact table_Vital.mono _ _ _)
   | (with_reducible exact LeO.refl _)
   | (with_reducible exact LeO.none _)
   | (with_reducible refine LeO.ite ?_ ?_)
   | (with_reducible refine LeO.bind ?_ (fun _ => ?_))
   | exact ih0 _ _ _ _ _ _
   | exact ih1 _ _ _ _ _ _ _ _
   | exact ih2 _ _ _ _ _ _ _
   | exact ih3 _ _ _ _ _ _ _
   | exact ancepslaw38_awake.mono _
   | exact ancepsref38_Assignment.mono _ _ _
   | exact ancepsref38_Equal.mono _ _ _ _ _
   | exact ancepsref38_Holds.mono _ _ _ _
   | exact ancepsref38_Made.mono _ _ _
   | exact ancepsref38_Matters.mono _ _ _ _
   | exact ancepsref38_Valid.mono _ _ _
   | exact slices_Contains_int_int.mono _ _ _
   | exact table_Extend.mono _ _ _ _
   | exact table_Vital.mono _ _ _
   | exact LeO.none _
   | refine LeO.ite ?_ ?_
   | refine LeO.bind ?_ (fun _ => ?_)
  ·intro y0 y1 y2 y3 y4 y5 y6
   unfold ancepslaw38_TableVital.l1
   repeat' first
   | (with_reducible exact ih0 _ _ _ _ _ _)
   | (with_reducible exact ih1 _ _ _ _ _ _ _ _)
   | (with_reducible exact ih2 _ _ _ _ _ _ _)
   | (with_reducible exact ih3 _ _ _ _ _ _ _)
   | (with_reducible exact ancepslaw38_awake.mono _)
   | (with_reducible exact ancepsref38_Assignment.mono _ _ _)
   | (with_reducible exact ancepsref38_Equal.mono _ _ _ _ _)
   | (with_reducible exact ancepsref38_Holds.mono _ _ _ _)
   | (with_reducible exact ancepsref38_Made.mono _ _ _)
   | (with_reducible exact ancepsref38_Matters.mono _ _ _ _)
   | (with_reducible exact ancepsref38_Valid.mono _ _ _)
   | (with_reducible exact slices_Contains_int_int.mono _ _ _)
   | (with_reducible exact table_Extend.mono _ _ _ _)
   | (with_reducible exact table_Vital.mono _ _ _)
   | (with_reducible exact LeO.refl _)
   | (with_reducible exact LeO.none _)
   | (with_reducible refine LeO.ite ?_ ?_)
   | (with_reducible refine LeO.bind ?_ (fun _ => ?_))
   | exact ih0 _ _ _ _ _ _
   | exact ih1 _ _ _ _ _ _ _ _
   | exact ih2 _ _ _ _ _ _ _
   | exact ih3 _ _ _ _ _ _ _
   | exact ancepslaw38_awake.mono _
   | exact ancepsref38_Assignment.mono _ _ _
   | exact ancepsref38_Equal.mono _ _ _ _ _
   | exact ancepsref38_Holds.mono _ _ _ _
   | exact ancepsref38_Made.mono _ _ _
   | exact ancepsref38_Matters.mono _ _ _ _
   | exact ancepsref38_Valid.mono _ _ _
   | exact slices_Contains_int_int.mono _ _ _
   | exact table_Extend.mono _ _ _ _
   | exact table_Vital.mono _ _ _
   | exact LeO.none _
   | refine LeO.ite ?_ ?_
   | refine LeO.bind ?_ (fun _ => ?_)
  ·intro y0 y1 y2 y3 y4 y5 y6
   unfold ancepslaw38_TableVital.l2
   repeat' first
   | (with_reducible exact ih0 _ _ _ _ _ _)
   | (with_reducible exact ih1 _ _ _ _ _ _ _ _)
   | (with_reducible exact ih2 _ _ _ _ _ _ _)
   | (with_reducible exact ih3 _ _ _ _ _ _ _)
   | (with_reducible exact ancepslaw38_awake.mono _)
   | (with_reducible exact ancepsref38_Assignment.mono _ _ _)
   | (with_reducible exact ancepsref38_Equal.mono _ _ _ _ _)
   | (with_reducible exact ancepsref38_Holds.mono _ _ _ _)
   | (with_reducible exact ancepsref38_Made.mono _ _ _)
   | (with_reducible exact ancepsref38_Matters.mono _ _ _ _)
   | (with_reducible exact ancepsref38_Valid.mono _ _ _)
   | (with_reducible exact slices_Contains_int_int.mono _ _ _)
   | (with_reducible exact table_Extend.mono _ _ _ _)
   | (with_reducible exact table_Vital.mono _ _ _)
   | (with_reducible exact LeO.refl _)
   | (with_reducible exact LeO.none _)
   | (with_reducible refine LeO.ite ?_ ?_)
   | (with_reducible refine LeO.bind ?_ (fun _ => ?_))
   | exact ih0 _ _ _ _ _ _
   | exact ih1 _ _ _ _ _ _ _ _
   | exact ih2 _ _ _ _ _ _ _
   | exact ih3 _ _ _ _ _ _ _
   | exact ancepslaw38_awake.mono _
   | exact ancepsref38_Assignment.mono _ _ _
   | exact ancepsref38_Equal.mono _ _ _ _ _
   | exact ancepsref38_Holds.mono _ _ _ _
   | exact ancepsref38_Made.mono _ _ _
   | exact ancepsref38_Matters.mono _ _ _ _
   | exact ancepsref38_Valid.mono _ _ _
   | exact slices_Contains_int_int.mono _ _ _
   | exact table_Extend.mono _ _ _ _
   | exact table_Vital.mono _ _ _
   | exact LeO.none _
   | refine LeO.ite ?_ ?_
   | refine LeO.bind ?_ (fun _ => ?_)
theorem ancepslaw38_TableVital.mono : ∀ a0 a1 a2 k, LeO (ancepslaw38_TableVital.f k a0 a1 a2) (ancepslaw38_TableVital.f (k + 1) a0 a1 a2) := by
 intro a0 a1 a2 k
 obtain ⟨ih0, ih1, ih2, ih3⟩ := ancepslaw38_TableVital.mono_l k
 unfold ancepslaw38_TableVital.f
 repeat' first
   | (with_reducible exact ih0 _ _ _ _ _ _)
   | (with_reducible exact ih1 _ _ _ _ _ _ _ _)
   | (with_reducible exact ih2 _ _ _ _ _ _ _)
   | (with_reducible exact ih3 _ _ _ _ _ _ _)
   | (with_reducible exact ancepslaw38_awake.mono _)
   | (with_reducible exact ancepsref38_Assignment.mono _ _ _)
   | (with_reducible exact ancepsref38_Equal.mono _ _ _ _ _)
   | (with_reducible exact ancepsref38_Holds.mono _ _ _ _)
   | (with_reducible exact ancepsref38_Made.mono _ _ _)
   | (with_reducible exact ancepsref38_Matters.mono _ _ _ _)
   | (with_reducible exact ancepsref38_Valid.mono _ _ _)
   | (with_reducible exact slices_Contains_int_int.mono _ _ _)
   | (with_reducible exact table_Extend.mono _ _ _ _)
   | (with_reducible exact table_Vital.mono _ _ _)
   | (with_reducible exact LeO.refl _)
   | (with_reducible exact LeO.none _)
   | (with_reducible refine LeO.ite ?_ ?_)
   | (with_reducible refine LeO.bind ?_ (fun _ => ?_))
   | exact ih0 _ _ _ _ _ _
   | exact ih1 _ _ _ _ _ _ _ _
   | exact ih2 _ _ _ _ _ _ _
   | exact ih3 _ _ _ _ _ _ _
   | exact ancepslaw38_awake.mono _
   | exact ancepsref38_Assignment.mono _ _ _
   | exact ancepsref38_Equal.mono _ _ _ _ _
   | exact ancepsref38_Holds.mono _ _ _ _
   | exact ancepsref38_Made.mono _ _ _
   | exact ancepsref38_Matters.mono _ _ _ _
   | exact ancepsref38_Valid.mono _ _ _
   | exact slices_Contains_int_int.mono _ _ _
   | exact table_Extend.mono _ _ _ _
   | exact table_Vital.mono _ _ _
   | exact LeO.none _
   | refine LeO.ite ?_ ?_
   | refine LeO.bind ?_ (fun _ => ?_)
set_option maxHeartbeats 8000000 in
set_option maxRecDepth 100000 in
theorem ancepslaw38_TableVital.calls (k : Nat) (a0_0 : Int) (a0_1 : Int) (a1 : Int) (r : Bool) (w : World) (h : ancepslaw38_TableVital.f k a0_0 a0_1 a1 = some r) :
  Calls Try.prog 8 #[.agg #[.int .u32 a0_0, .int .u64 a0_1], .int .u32 a1] w fun e w' => e = .returned (.bool r) ∧ Below w.heap.size w w' := by
 have hu25 := Try.underlying25
 have hu29 := Try.underlying29
 have hu27 := Try.underlying27
 have hu3 := Try.underlying3
 have HB := Aside0.mk (Below.refl w.heap.size w)
 have H : ((ancepslaw38_awake.f k).bind fun t1098 => (if t1098 = true then ((ancepsref38_Made.f k a0_0 a0_1).bind fun bt1099 => ((table_Vital.f k bt1099.1 bt1099.2).bind fun bt1106 => (if bt1106.2.2 = 0 then ((ancepsref38_Valid.f k bt1106.1 bt1106.2.1).bind fun t1114 => (ancepslaw38_TableVital.j0 k a1 (t1114 != 0) bt1099.1 bt1099.2 bt1106.1 bt1106.2.1)) else (ancepslaw38_TableVital.j0 k a1 true bt1099.1 bt1099.2 bt1106.1 bt1106.2.1)))) else (some false))) = some r := h
 clear h
 replace H := Option.bind_eq_some_iff.mp H
 obtain ⟨t1098, A30, H⟩ := H
 replace H : (if t1098 = true then ((ancepsref38_Made.f k a0_0 a0_1).bind fun bt1099 => ((table_Vital.f k bt1099.1 bt1099.2).bind fun bt1106 => (if bt1106.2.2 = 0 then ((ancepsref38_Valid.f k bt1106.1 bt1106.2.1).bind fun t1114 => (ancepslaw38_TableVital.j0 k a1 (t1114 != 0) bt1099.1 bt1099.2 bt1106.1 bt1106.2.1)) else (ancepslaw38_TableVital.j0 k a1 true bt1099.1 bt1099.2 bt1106.1 bt1106.2.1)))) else (some false)) = some r := H
 have A3 := Aside0.mk A30
 clear A30
 have HC4 := Aside0.mk H
 clear H
 go_enter Try.func8, Try.ntmps8
 go_upto_if 19 with (first | ((with_reducible refine gate_dst (N := 2) rfl ?_); (try (refine gate_guard (by rfl) ?_; dsimp only)); refine box_event ?hg (N := 2) ?hd (cs := #[.int .u32 a0_0, .int .u64 a0_1]) (t := 25) ?hr ?_; (case hd => rfl); (case hg => rfl); (case hr => first | (go_simp; done) | (go_simp; rfl)); intro gb1097 hg w5 hbox hb; have n0_ := Aside0.mk (below_step zB hb); have n1_ := Aside0.mk (hbox); have n2_ := Aside0.mk ((by rw [hg]; exact (below_size zB) : w.heap.size ≤ gb1097)); have n3_ := Aside0.mk ((by rw [hg]; exact (below_size zB) : w.heap.size ≤ gb1097)); clear HB; have HB := n0_; have BK1097 := n1_; have GW1097 := n2_; have GE1097 := n3_; clear n0_ n1_ n2_ n3_; clear hb hbox hg) | ((with_reducible refine gate_callee (f := 12) rfl ?_); refine goesL_ (some 18) rfl rfl Try.func12 zK rfl #[] rfl zM ?_; (with_reducible refine (ancepslaw38_awake.calls k  t1098 _ A3.out).mono ?_); rintro e w6 ⟨rfl, hb⟩; refine ⟨_, rfl, ?_⟩; have n0_ := Aside0.mk (blk_below (g := gb1097) (o := .cells #[.int .u32 a0_0, .int .u64 a0_1] 25 (0, 0)) (zk BK1097) hb); have n1_ := Aside0.mk (below_step zB hb); clear BK1097; clear HB; have BK1097 := n0_; have HB := n1_; clear n0_ n1_; (try clear hb); (try clear hb2); (try clear hk); (try clear hi)))
 (try simp only [Act.put, List.setIfInBounds_toArray, List.set_cons_zero, List.set_cons_succ])
 have H := HC4.out
 clear HC4
 by_cases c7 : t1098 = true
 ·subst c7
  have H1 : ((ancepsref38_Made.f k a0_0 a0_1).bind fun bt1099 => ((table_Vital.f k bt1099.1 bt1099.2).bind fun bt1106 => (if bt1106.2.2 = 0 then ((ancepsref38_Valid.f k bt1106.1 bt1106.2.1).bind fun t1114 => (ancepslaw38_TableVital.j0 k a1 (t1114 != 0) bt1099.1 bt1099.2 bt1106.1 bt1106.2.1)) else (ancepslaw38_TableVital.j0 k a1 true bt1099.1 bt1099.2 bt1106.1 bt1106.2.1)))) = some r := by rw [if_pos rfl] at H; exact H
  clear H
  have H := H1
  clear H1
  replace H := Option.bind_eq_some_iff.mp H
  obtain ⟨⟨t1099, t1102⟩, A80, H⟩ := H
  replace H : ((table_Vital.f k t1099 t1102).bind fun bt1106 => (if bt1106.2.2 = 0 then ((ancepsref38_Valid.f k bt1106.1 bt1106.2.1).bind fun t1114 => (ancepslaw38_TableVital.j0 k a1 (t1114 != 0) t1099 t1102 bt1106.1 bt1106.2.1)) else (ancepslaw38_TableVital.j0 k a1 true t1099 t1102 bt1106.1 bt1106.2.1))) = some r := H
  have A8 := Aside0.mk A80
  clear A80
  replace H := Option.bind_eq_some_iff.mp H
  obtain ⟨⟨t1106, t1109, t1112⟩, A90, H⟩ := H
  replace H : (if t1112 = 0 then ((ancepsref38_Valid.f k t1106 t1109).bind fun t1114 => (ancepslaw38_TableVital.j0 k a1 (t1114 != 0) t1099 t1102 t1106 t1109)) else (ancepslaw38_TableVital.j0 k a1 true t1099 t1102 t1106 t1109)) = some r := H
  have A9 := Aside0.mk A90
  clear A90
  have HC10 := Aside0.mk H
  clear H
  have hcz11_0 : w6.cell? ⟨gb1097, 0, none⟩ = some (.int .u32 a0_0) := (blk_cell BK1097.out 0).trans rfl
  have hcz11_1 : w6.cell? ⟨gb1097, 1, none⟩ = some (.int .u64 a0_1) := (blk_cell BK1097.out 1).trans rfl
  have hfz11_0 := blk_frozen BK1097.out 0
  have hfz11_1 := blk_frozen BK1097.out 1
  go_upto_region 5 with (first | ((with_reducible refine gate_callee (f := 13) rfl ?_); refine goesL_ (some 21) rfl rfl Try.func13 zK rfl #[.agg #[.int .u32 a0_0, .int .u64 a0_1]] rfl zM ?_; (with_reducible refine (ancepsref38_Made.calls k a0_0 a0_1 t1099 t1102 _ A8.out).mono ?_); rintro e w12 ⟨v1100, v1103, rfl, ho0, ho1, hb⟩; refine ⟨_, rfl, ?_⟩; have n0_ := Aside0.mk (Kd.R_lower ho0 (below_size zB)); have n1_ := Aside0.mk (Kd.R_lower ho1 (below_size zB)); have n2_ := Aside0.mk (blk_below (g := gb1097) (o := .cells #[.int .u32 a0_0, .int .u64 a0_1] 25 (0, 0)) (zk BK1097) hb); have n3_ := Aside0.mk (below_step zB hb); clear BK1097; clear HB; have HO1101 := n0_; have HO1104 := n1_; have BK1097 := n2_; have HB := n3_; clear n0_ n1_ n2_ n3_; (try clear hb); (try clear hb2); (try clear hk); (try clear hi); (try clear ho0); (try clear ho1)) | ((with_reducible refine gate_dst (N := 5) rfl ?_); (try (refine gate_guard (by rfl) ?_; dsimp only)); refine box_event ?hg (N := 5) ?hd (cs := #[.slice none 0 0, .slice none 0 0]) (t := 29) ?hr ?_; (case hd => rfl); (case hg => rfl); (case hr => first | (go_simp; done) | (go_simp; rfl)); intro gb1105 hg w13 hbox hb; have n0_ := Aside0.mk (Kd.R_below (zR HO1101) hb); have n1_ := Aside0.mk (Kd.R_below (zR HO1104) hb); have n2_ := Aside0.mk (blk_below (g := gb1097) (o := .cells #[.int .u32 a0_0, .int .u64 a0_1] 25 (0, 0)) (zk BK1097) hb); have n3_ := Aside0.mk (below_step zB hb); have n4_ := Aside0.mk (hbox); have n5_ := Aside0.mk ((by rw [hg]; exact (below_size zB) : w.heap.size ≤ gb1105)); have n6_ := Aside0.mk ((by rw [hg]; exact (below_size zB) : w.heap.size ≤ gb1105)); have n7_ := Aside0.mk ((by rw [hg]; exact Nat.ne_of_lt (blk_lt (g := gb1097) (o := .cells #[.int .u32 a0_0, .int .u64 a0_1] 25 (0, 0)) (zk BK1097)) : gb1097 ≠ gb1105)); have n8_ := Aside0.mk ((by rw [hg]; exact Nat.ne_of_gt (blk_lt (g := gb1097) (o := .cells #[.int .u32 a0_0, .int .u64 a0_1] 25 (0, 0)) (zk BK1097)) : gb1105 ≠ gb1097)); clear HO1101; clear HO1104; clear BK1097; clear HB; have HO1101 := n0_; have HO1104 := n1_; have BK1097 := n2_; have HB := n3_; have BK1105 := n4_; have GW1105 := n5_; have GE1105 := n6_; have NB1097_1105 := n7_; have NB1105_1097 := n8_; clear n0_ n1_ n2_ n3_ n4_ n5_ n6_ n7_ n8_; clear hb hbox hg; obtain ⟨Ao14, co14, eo14⟩ := Kd.R_slice HO1101.out; subst eo14; have hnb15 := NB1105_1097.out; have hnc15 := NB1097_1105.out; have hcz16_0 : w13.cell? ⟨gb1105, 0, none⟩ = some (.slice none 0 0) := (blk_cell BK1105.out 0).trans rfl; have hcz16_1 : w13.cell? ⟨gb1105, 1, none⟩ = some (.slice none 0 0) := (blk_cell BK1105.out 1).trans rfl; have hfz16_0 := blk_frozen BK1105.out 0; have hfz16_1 := blk_frozen BK1105.out 1; obtain ⟨Ao17, co17, eo17⟩ := Kd.R_slice HO1104.out; subst eo17) | ((with_reducible refine gate_callee (f := 23) rfl ?_); refine goesL_ (some 24) rfl rfl Try.func23 zK rfl #[.agg #[.slice Ao14 t1099.length co14, .slice Ao17 t1102.length co17]] rfl zM ?_; (with_reducible refine (table_Vital.calls k _ _ t1099 _ _ t1102 t1106 t1109 t1112 _ ?side1 ?side2 ?side3 ?side4 A9.out).mono ?_); (case side1 => refine (Kd.R_reads' (e := 3) (base := w.heap.size) (ok := fun k_ => some k_ ≠ (.slice Ao17 t1102.length co17 : Value).ownBlock) (n := t1099.length) (c := co14) ?_).2.2; exact (by (with_reducible repeat (first | apply Kd.R_alloc | apply Kd.R_drewN | apply Kd.R_drew)); exact (Kd.R_mono (Kd.R_far (p := ⟨gb1105, 1, none⟩) (Kd.R_far (p := ⟨gb1105, 0, none⟩) (Kd.R_types HO1101.out BK1105.out (by decide)) (fun _ hk => hk.2) (.slice Ao14 t1099.length co14)) (fun _ hk => hk.2) (.slice Ao17 t1102.length co17)) (fun _ h_ => h_.1)))); (case side2 => exact (Kd.R_reads' HO1101.out).2.1); (case side3 => refine (Kd.R_reads' (e := 3) (base := w.heap.size) (ok := fun k_ => some k_ ≠ (.slice Ao14 t1099.length co14 : Value).ownBlock) (n := t1102.length) (c := co17) ?_).2.2; exact (by (with_reducible repeat (first | apply Kd.R_alloc | apply Kd.R_drewN | apply Kd.R_drew)); exact (Kd.R_mono (Kd.R_far (p := ⟨gb1105, 1, none⟩) (Kd.R_far (p := ⟨gb1105, 0, none⟩) (Kd.R_types HO1104.out BK1105.out (by decide)) (fun _ hk => hk.2) (.slice Ao14 t1099.length co14)) (fun _ hk => hk.2) (.slice Ao17 t1102.length co17)) (fun _ h_ => h_.1)))); (case side4 => exact (Kd.R_reads' HO1104.out).2.1); rintro e w18 ⟨v1107, v1110, rfl, ho0, ho1, hb⟩; refine ⟨_, rfl, ?_⟩; have n0_ := Aside0.mk (Kd.R_mono (Kd.R_told (Kd.R_told (Kd.R_old (by (with_reducible repeat (first | apply Kd.R_alloc | apply Kd.R_drewN | apply Kd.R_drew)); exact (Kd.R_mono (Kd.R_far (p := ⟨gb1105, 1, none⟩) (Kd.R_far (p := ⟨gb1105, 0, none⟩) (Kd.R_types HO1101.out BK1105.out (by decide)) (fun _ hk => hk.2) (.slice Ao14 t1099.length co14)) (fun _ hk => hk.2) (.slice Ao17 t1102.length co17)) (fun _ h_ => h_.1))) hb) (Kd.R_base ho0)) (Kd.R_base ho1)) (fun _ h_ => h_.1)); have n1_ := Aside0.mk (Kd.R_mono (Kd.R_told (Kd.R_told (Kd.R_old (by (with_reducible repeat (first | apply Kd.R_alloc | apply Kd.R_drewN | apply Kd.R_drew)); exact (Kd.R_mono (Kd.R_far (p := ⟨gb1105, 1, none⟩) (Kd.R_far (p := ⟨gb1105, 0, none⟩) (Kd.R_types HO1104.out BK1105.out (by decide)) (fun _ hk => hk.2) (.slice Ao14 t1099.length co14)) (fun _ hk => hk.2) (.slice Ao17 t1102.length co17)) (fun _ h_ => h_.1))) hb) (Kd.R_base ho0)) (Kd.R_base ho1)) (fun _ h_ => h_.1)); have n2_ := Aside0.mk (Kd.R_lower (Kd.R_new' (Kd.R_new' ho0 (Kd.R_lt (by (with_reducible repeat (first | apply Kd.R_alloc | apply Kd.R_drewN | apply Kd.R_drew)); exact (Kd.R_mono (Kd.R_far (p := ⟨gb1105, 1, none⟩) (Kd.R_far (p := ⟨gb1105, 0, none⟩) (Kd.R_types HO1101.out BK1105.out (by decide)) (fun _ hk => hk.2) (.slice Ao14 t1099.length co14)) (fun _ hk => hk.2) (.slice Ao17 t1102.length co17)) (fun _ h_ => h_.1))))) (Kd.R_lt (by (with_reducible repeat (first | apply Kd.R_alloc | apply Kd.R_drewN | apply Kd.R_drew)); exact (Kd.R_mono (Kd.R_far (p := ⟨gb1105, 1, none⟩) (Kd.R_far (p := ⟨gb1105, 0, none⟩) (Kd.R_types HO1104.out BK1105.out (by decide)) (fun _ hk => hk.2) (.slice Ao14 t1099.length co14)) (fun _ hk => hk.2) (.slice Ao17 t1102.length co17)) (fun _ h_ => h_.1))))) (below_size zB)); have n3_ := Aside0.mk (Kd.R_lower (Kd.R_new' (Kd.R_new' ho1 (Kd.R_lt (by (with_reducible repeat (first | apply Kd.R_alloc | apply Kd.R_drewN | apply Kd.R_drew)); exact (Kd.R_mono (Kd.R_far (p := ⟨gb1105, 1, none⟩) (Kd.R_far (p := ⟨gb1105, 0, none⟩) (Kd.R_types HO1101.out BK1105.out (by decide)) (fun _ hk => hk.2) (.slice Ao14 t1099.length co14)) (fun _ hk => hk.2) (.slice Ao17 t1102.length co17)) (fun _ h_ => h_.1))))) (Kd.R_lt (by (with_reducible repeat (first | apply Kd.R_alloc | apply Kd.R_drewN | apply Kd.R_drew)); exact (Kd.R_mono (Kd.R_far (p := ⟨gb1105, 1, none⟩) (Kd.R_far (p := ⟨gb1105, 0, none⟩) (Kd.R_types HO1104.out BK1105.out (by decide)) (fun _ hk => hk.2) (.slice Ao14 t1099.length co14)) (fun _ hk => hk.2) (.slice Ao17 t1102.length co17)) (fun _ h_ => h_.1))))) (below_size zB)); have n4_ := Aside0.mk (blk_below (g := gb1097) (o := .cells #[.int .u32 a0_0, .int .u64 a0_1] 25 (0, 0)) (by (with_reducible repeat (first | refine blk_drewN ?_ _ | refine blk_drew ?_ | refine blk_alloc ?_ _)); refine blk_far ?_ NB1097_1105.out _; (with_reducible repeat (first | refine blk_drewN ?_ _ | refine blk_drew ?_ | refine blk_alloc ?_ _)); refine blk_far ?_ NB1097_1105.out _; (with_reducible repeat (first | refine blk_drewN ?_ _ | refine blk_drew ?_ | refine blk_alloc ?_ _)); exact BK1097.out) hb); have n5_ := Aside0.mk (blk_below (g := gb1105) (o := .cells #[.slice Ao14 t1099.length co14, .slice Ao17 t1102.length co17] 29 (0, 0)) (by (with_reducible repeat (first | refine blk_drewN ?_ _ | refine blk_drew ?_ | refine blk_alloc ?_ _)); refine blk_put (cs := #[.slice Ao14 t1099.length co14, .slice none 0 0]) ?_ 1 _ rfl; (with_reducible repeat (first | refine blk_drewN ?_ _ | refine blk_drew ?_ | refine blk_alloc ?_ _)); refine blk_put (cs := #[.slice none 0 0, .slice none 0 0]) ?_ 0 _ rfl; (with_reducible repeat (first | refine blk_drewN ?_ _ | refine blk_drew ?_ | refine blk_alloc ?_ _)); exact BK1105.out) hb); have n6_ := Aside0.mk (below_step zB hb); clear HO1101; clear HO1104; clear BK1097; clear BK1105; clear HB; have HO1101 := n0_; have HO1104 := n1_; have HO1108 := n2_; have HO1111 := n3_; have BK1097 := n4_; have BK1105 := n5_; have HB := n6_; clear n0_ n1_ n2_ n3_ n4_ n5_ n6_; (try clear hb); (try clear hb2); (try clear hk); (try clear hi); (try clear ho0); (try clear ho1)) | ((with_reducible refine gate_dst (N := 6) rfl ?_); (try (refine gate_guard (by rfl) ?_; dsimp only)); refine box_event ?hg (N := 6) ?hd (cs := #[.slice none 0 0, .slice none 0 0]) (t := 29) ?hr ?_; (case hd => rfl); (case hg => rfl); (case hr => first | (go_simp; done) | (go_simp; rfl)); intro gb1113 hg w19 hbox hb; have n0_ := Aside0.mk (Kd.R_below (zR HO1101) hb); have n1_ := Aside0.mk (Kd.R_below (zR HO1104) hb); have n2_ := Aside0.mk (Kd.R_below (zR HO1108) hb); have n3_ := Aside0.mk (Kd.R_below (zR HO1111) hb); have n4_ := Aside0.mk (blk_below (g := gb1097) (o := .cells #[.int .u32 a0_0, .int .u64 a0_1] 25 (0, 0)) (zk BK1097) hb); have n5_ := Aside0.mk (blk_below (g := gb1105) (o := .cells #[.slice Ao14 t1099.length co14, .slice Ao17 t1102.length co17] 29 (0, 0)) (zk BK1105) hb); have n6_ := Aside0.mk (below_step zB hb); have n7_ := Aside0.mk (hbox); have n8_ := Aside0.mk ((by rw [hg]; exact (below_size zB) : w.heap.size ≤ gb1113)); have n9_ := Aside0.mk ((by rw [hg]; exact (below_size zB) : w.heap.size ≤ gb1113)); have n10_ := Aside0.mk ((by rw [hg]; exact Nat.ne_of_lt (blk_lt (g := gb1097) (o := .cells #[.int .u32 a0_0, .int .u64 a0_1] 25 (0, 0)) (zk BK1097)) : gb1097 ≠ gb1113)); have n11_ := Aside0.mk ((by rw [hg]; exact Nat.ne_of_gt (blk_lt (g := gb1097) (o := .cells #[.int .u32 a0_0, .int .u64 a0_1] 25 (0, 0)) (zk BK1097)) : gb1113 ≠ gb1097)); have n12_ := Aside0.mk ((by rw [hg]; exact Nat.ne_of_lt (blk_lt (g := gb1105) (o := .cells #[.slice Ao14 t1099.length co14, .slice Ao17 t1102.length co17] 29 (0, 0)) (zk BK1105)) : gb1105 ≠ gb1113)); have n13_ := Aside0.mk ((by rw [hg]; exact Nat.ne_of_gt (blk_lt (g := gb1105) (o := .cells #[.slice Ao14 t1099.length co14, .slice Ao17 t1102.length co17] 29 (0, 0)) (zk BK1105)) : gb1113 ≠ gb1105)); clear HO1101; clear HO1104; clear HO1108; clear HO1111; clear BK1097; clear BK1105; clear HB; have HO1101 := n0_; have HO1104 := n1_; have HO1108 := n2_; have HO1111 := n3_; have BK1097 := n4_; have BK1105 := n5_; have HB := n6_; have BK1113 := n7_; have GW1113 := n8_; have GE1113 := n9_; have NB1097_1113 := n10_; have NB1113_1097 := n11_; have NB1105_1113 := n12_; have NB1113_1105 := n13_; clear n0_ n1_ n2_ n3_ n4_ n5_ n6_ n7_ n8_ n9_ n10_ n11_ n12_ n13_; clear hb hbox hg; obtain ⟨Ao20, co20, eo20⟩ := Kd.R_slice HO1108.out; subst eo20; have hnb21 := NB1113_1097.out; have hnc21 := NB1097_1113.out; have hnb22 := NB1113_1105.out; have hnc22 := NB1105_1113.out; have hcz23_0 : w19.cell? ⟨gb1113, 0, none⟩ = some (.slice none 0 0) := (blk_cell BK1113.out 0).trans rfl; have hcz23_1 : w19.cell? ⟨gb1113, 1, none⟩ = some (.slice none 0 0) := (blk_cell BK1113.out 1).trans rfl; have hfz23_0 := blk_frozen BK1113.out 0; have hfz23_1 := blk_frozen BK1113.out 1; obtain ⟨Ao24, co24, eo24⟩ := Kd.R_slice HO1111.out; subst eo24))
  (try simp only [Act.put, List.setIfInBounds_toArray, List.set_cons_zero, List.set_cons_succ])
  go_cut [33] (fun v33 wc => ∃ (kq : Nat) (x33_9 : Bool), v33 = .bool x33_9 ∧ Aside0 (ancepslaw38_TableVital.j0 kq a1 x33_9 t1099 t1102 t1106 t1109 = some r) ∧ Aside0 (kq ≤ k) ∧ Aside0 (Kd.R (Kd.int .i64) 3 wc w.heap.size (fun k_ => some k_ ≠ ((.slice Ao17 t1102.length co17) : Value).ownBlock ∧ some k_ ≠ ((.slice Ao20 t1106.length co20) : Value).ownBlock ∧ some k_ ≠ ((.slice Ao24 t1109.length co24) : Value).ownBlock) (.slice Ao14 t1099.length co14) t1099) ∧ Aside0 (Kd.R (Kd.int .i64) 3 wc w.heap.size (fun k_ => some k_ ≠ ((.slice Ao14 t1099.length co14) : Value).ownBlock ∧ some k_ ≠ ((.slice Ao20 t1106.length co20) : Value).ownBlock ∧ some k_ ≠ ((.slice Ao24 t1109.length co24) : Value).ownBlock) (.slice Ao17 t1102.length co17) t1102) ∧ Aside0 (Kd.R (Kd.int .i64) 3 wc w.heap.size (fun k_ => some k_ ≠ ((.slice Ao14 t1099.length co14) : Value).ownBlock ∧ some k_ ≠ ((.slice Ao17 t1102.length co17) : Value).ownBlock ∧ some k_ ≠ ((.slice Ao24 t1109.length co24) : Value).ownBlock) (.slice Ao20 t1106.length co20) t1106) ∧ Aside0 (Kd.R (Kd.int .i64) 3 wc w.heap.size (fun k_ => some k_ ≠ ((.slice Ao14 t1099.length co14) : Value).ownBlock ∧ some k_ ≠ ((.slice Ao17 t1102.length co17) : Value).ownBlock ∧ some k_ ≠ ((.slice Ao20 t1106.length co20) : Value).ownBlock) (.slice Ao24 t1109.length co24) t1109) ∧ Aside0 (wc.heap[gb1097]? = some (.cells #[.int .u32 a0_0, .int .u64 a0_1] 25 (0, 0))) ∧ Aside0 (wc.heap[gb1105]? = some (.cells #[(.slice Ao14 t1099.length co14), (.slice Ao17 t1102.length co17)] 29 (0, 0))) ∧ Aside0 (wc.heap[gb1113]? = some (.cells #[(.slice Ao20 t1106.length co20), (.slice Ao24 t1109.length co24)] 29 (0, 0))) ∧ Aside0 (Below w.heap.size w wc))
  case first =>
   have H := HC10.out
   clear HC10
   by_cases c25 : t1112 = 0
   ·rw [if_pos c25] at H
    have c25b0 : (t1112 == 0) = true := beq_iff_eq.mpr c25
    have c25b1 : (t1112 != 0) = false := bne_eq_false_iff_eq.mpr c25
    clear c25
    (first | rw [c25b0] | (simp only [i64_w, i32_w]; rw [c25b0]) | skip)
    (try rw [c25b1])
    replace H := Option.bind_eq_some_iff.mp H
    obtain ⟨t1114, A260, H⟩ := H
    replace H : (ancepslaw38_TableVital.j0 k a1 (t1114 != 0) t1099 t1102 t1106 t1109) = some r := H
    have A26 := Aside0.mk A260
    clear A260
    have H' := Aside0.mk H
    clear H
    have hnb27 := NB1113_1097.out
    have hnc27 := NB1097_1113.out
    have hnb28 := NB1113_1105.out
    have hnc28 := NB1105_1113.out
    have hcz29_0 : w19.cell? ⟨gb1113, 0, none⟩ = some (.slice none 0 0) := (blk_cell BK1113.out 0).trans rfl
    have hcz29_1 : w19.cell? ⟨gb1113, 1, none⟩ = some (.slice none 0 0) := (blk_cell BK1113.out 1).trans rfl
    have hfz29_0 := blk_frozen BK1113.out 0
    have hfz29_1 := blk_frozen BK1113.out 1
    go_wp2_with (first | (go_at_call 26; (with_reducible refine (ancepsref38_Valid.calls k _ _ t1106 _ _ t1109 t1114 _ ?side1 ?side2 ?side3 ?side4 A26.out).mono ?_); (case side1 => refine (Kd.R_reads' (e := 3) (base := w.heap.size) (ok := fun k_ => ((some k_ ≠ (.slice Ao24 t1109.length co24 : Value).ownBlock ∧ some k_ ≠ (.slice Ao14 t1099.length co14 : Value).ownBlock) ∧ some k_ ≠ (.slice Ao17 t1102.length co17 : Value).ownBlock)) (n := t1106.length) (c := co20) ?_).2.2; exact (by (with_reducible repeat (first | apply Kd.R_alloc | apply Kd.R_drewN | apply Kd.R_drew)); exact (Kd.R_mono (Kd.R_far (p := ⟨gb1113, 1, none⟩) (Kd.R_far (p := ⟨gb1113, 0, none⟩) (Kd.R_types HO1108.out BK1113.out (by decide)) (fun _ hk => hk.2) (.slice Ao20 t1106.length co20)) (fun _ hk => hk.2) (.slice Ao24 t1109.length co24)) (fun _ h_ => h_.1)))); (case side2 => exact (Kd.R_reads' HO1108.out).2.1); (case side3 => refine (Kd.R_reads' (e := 3) (base := w.heap.size) (ok := fun k_ => ((some k_ ≠ (.slice Ao20 t1106.length co20 : Value).ownBlock ∧ some k_ ≠ (.slice Ao14 t1099.length co14 : Value).ownBlock) ∧ some k_ ≠ (.slice Ao17 t1102.length co17 : Value).ownBlock)) (n := t1109.length) (c := co24) ?_).2.2; exact (by (with_reducible repeat (first | apply Kd.R_alloc | apply Kd.R_drewN | apply Kd.R_drew)); exact (Kd.R_mono (Kd.R_far (p := ⟨gb1113, 1, none⟩) (Kd.R_far (p := ⟨gb1113, 0, none⟩) (Kd.R_types HO1111.out BK1113.out (by decide)) (fun _ hk => hk.2) (.slice Ao20 t1106.length co20)) (fun _ hk => hk.2) (.slice Ao24 t1109.length co24)) (fun _ h_ => h_.1)))); (case side4 => exact (Kd.R_reads' HO1111.out).2.1); rintro e w30 ⟨rfl, hb⟩; have n0_ := Aside0.mk (Kd.R_below (by (with_reducible repeat (first | apply Kd.R_alloc | apply Kd.R_drewN | apply Kd.R_drew)); exact (Kd.R_mono (Kd.R_far (p := ⟨gb1113, 1, none⟩) (Kd.R_far (p := ⟨gb1113, 0, none⟩) (Kd.R_types HO1101.out BK1113.out (by decide)) (fun _ hk => hk.2) (.slice Ao20 t1106.length co20)) (fun _ hk => hk.2) (.slice Ao24 t1109.length co24)) (fun _ h_ => h_.1))) hb); have n1_ := Aside0.mk (Kd.R_below (by (with_reducible repeat (first | apply Kd.R_alloc | apply Kd.R_drewN | apply Kd.R_drew)); exact (Kd.R_mono (Kd.R_far (p := ⟨gb1113, 1, none⟩) (Kd.R_far (p := ⟨gb1113, 0, none⟩) (Kd.R_types HO1104.out BK1113.out (by decide)) (fun _ hk => hk.2) (.slice Ao20 t1106.length co20)) (fun _ hk => hk.2) (.slice Ao24 t1109.length co24)) (fun _ h_ => h_.1))) hb); have n2_ := Aside0.mk (Kd.R_below (by (with_reducible repeat (first | apply Kd.R_alloc | apply Kd.R_drewN | apply Kd.R_drew)); exact (Kd.R_mono (Kd.R_far (p := ⟨gb1113, 1, none⟩) (Kd.R_far (p := ⟨gb1113, 0, none⟩) (Kd.R_types HO1108.out BK1113.out (by decide)) (fun _ hk => hk.2) (.slice Ao20 t1106.length co20)) (fun _ hk => hk.2) (.slice Ao24 t1109.length co24)) (fun _ h_ => h_.1))) hb); have n3_ := Aside0.mk (Kd.R_below (by (with_reducible repeat (first | apply Kd.R_alloc | apply Kd.R_drewN | apply Kd.R_drew)); exact (Kd.R_mono (Kd.R_far (p := ⟨gb1113, 1, none⟩) (Kd.R_far (p := ⟨gb1113, 0, none⟩) (Kd.R_types HO1111.out BK1113.out (by decide)) (fun _ hk => hk.2) (.slice Ao20 t1106.length co20)) (fun _ hk => hk.2) (.slice Ao24 t1109.length co24)) (fun _ h_ => h_.1))) hb); have n4_ := Aside0.mk (blk_below (g := gb1097) (o := .cells #[.int .u32 a0_0, .int .u64 a0_1] 25 (0, 0)) (by (with_reducible repeat (first | refine blk_drewN ?_ _ | refine blk_drew ?_ | refine blk_alloc ?_ _)); refine blk_far ?_ NB1097_1113.out _; (with_reducible repeat (first | refine blk_drewN ?_ _ | refine blk_drew ?_ | refine blk_alloc ?_ _)); refine blk_far ?_ NB1097_1113.out _; (with_reducible repeat (first | refine blk_drewN ?_ _ | refine blk_drew ?_ | refine blk_alloc ?_ _)); exact BK1097.out) hb); have n5_ := Aside0.mk (blk_below (g := gb1105) (o := .cells #[.slice Ao14 t1099.length co14, .slice Ao17 t1102.length co17] 29 (0, 0)) (by (with_reducible repeat (first | refine blk_drewN ?_ _ | refine blk_drew ?_ | refine blk_alloc ?_ _)); refine blk_far ?_ NB1105_1113.out _; (with_reducible repeat (first | refine blk_drewN ?_ _ | refine blk_drew ?_ | refine blk_alloc ?_ _)); refine blk_far ?_ NB1105_1113.out _; (with_reducible repeat (first | refine blk_drewN ?_ _ | refine blk_drew ?_ | refine blk_alloc ?_ _)); exact BK1105.out) hb); have n6_ := Aside0.mk (blk_below (g := gb1113) (o := .cells #[.slice Ao20 t1106.length co20, .slice Ao24 t1109.length co24] 29 (0, 0)) (by (with_reducible repeat (first | refine blk_drewN ?_ _ | refine blk_drew ?_ | refine blk_alloc ?_ _)); refine blk_put (cs := #[.slice Ao20 t1106.length co20, .slice none 0 0]) ?_ 1 _ rfl; (with_reducible repeat (first | refine blk_drewN ?_ _ | refine blk_drew ?_ | refine blk_alloc ?_ _)); refine blk_put (cs := #[.slice none 0 0, .slice none 0 0]) ?_ 0 _ rfl; (with_reducible repeat (first | refine blk_drewN ?_ _ | refine blk_drew ?_ | refine blk_alloc ?_ _)); exact BK1113.out) hb); have n7_ := Aside0.mk (below_step zB hb); clear HO1101; clear HO1104; clear HO1108; clear HO1111; clear BK1097; clear BK1105; clear BK1113; clear HB; have HO1101 := n0_; have HO1104 := n1_; have HO1108 := n2_; have HO1111 := n3_; have BK1097 := n4_; have BK1105 := n5_; have BK1113 := n6_; have HB := n7_; clear n0_ n1_ n2_ n3_ n4_ n5_ n6_ n7_; (try clear hb); (try clear hb2); (try clear hk); (try clear hi)))
    go_meet
    case rel => exact ⟨_, ((t1114 != 0)), zT, H', ⟨by first | omega | exact Nat.le_refl _⟩, ⟨by (with_reducible repeat (first | apply Kd.R_alloc | apply Kd.R_drewN | apply Kd.R_drew)); exact Kd.R_mono HO1101.out (fun _ hk => ⟨hk.1.1, ⟨hk.1.2, hk.2⟩⟩)⟩, ⟨by (with_reducible repeat (first | apply Kd.R_alloc | apply Kd.R_drewN | apply Kd.R_drew)); exact Kd.R_mono HO1104.out (fun _ hk => ⟨hk.1.1, ⟨hk.1.2, hk.2⟩⟩)⟩, ⟨by (with_reducible repeat (first | apply Kd.R_alloc | apply Kd.R_drewN | apply Kd.R_drew)); exact Kd.R_mono HO1108.out (fun _ hk => ⟨hk.1.2, ⟨hk.2, hk.1.1⟩⟩)⟩, ⟨by (with_reducible repeat (first | apply Kd.R_alloc | apply Kd.R_drewN | apply Kd.R_drew)); exact Kd.R_mono HO1111.out (fun _ hk => ⟨hk.1.2, ⟨hk.2, hk.1.1⟩⟩)⟩, ⟨by (with_reducible repeat (first | refine blk_drewN ?_ _ | refine blk_drew ?_ | refine blk_alloc ?_ _)); exact BK1097.out⟩, ⟨by (with_reducible repeat (first | refine blk_drewN ?_ _ | refine blk_drew ?_ | refine blk_alloc ?_ _)); exact BK1105.out⟩, ⟨by (with_reducible repeat (first | refine blk_drewN ?_ _ | refine blk_drew ?_ | refine blk_alloc ?_ _)); exact BK1113.out⟩, ⟨by repeat (first | (with_reducible first | exact HB.out | apply below_alloc | apply pw_below_drewN | apply below_drew1 | refine below_set ?_ GE1097.out | refine below_set ?_ GE1105.out | refine below_set ?_ GE1113.out) | exact HB.out)⟩⟩
   ·rw [if_neg c25] at H
    have c25b0 : (t1112 == 0) = false := beq_eq_false_iff_ne.mpr c25
    have c25b1 : (t1112 != 0) = true := bne_iff_ne.mpr c25
    (first | rw [c25b0] | (simp only [i64_w, i32_w]; rw [c25b0]) | skip)
    (try rw [c25b1])
    have H' := Aside0.mk H
    clear H
    go_wp2
    go_meet
    case rel => exact ⟨_, (true), zT, H', ⟨by first | omega | exact Nat.le_refl _⟩, ⟨by (with_reducible repeat (first | apply Kd.R_alloc | apply Kd.R_drewN | apply Kd.R_drew)); exact Kd.R_mono (Kd.R_far (p := ⟨gb1113, 1, none⟩) (Kd.R_far (p := ⟨gb1113, 0, none⟩) (Kd.R_types HO1101.out BK1113.out (by decide)) (fun _ hk => hk.2) (.slice Ao20 t1106.length co20)) (fun _ hk => hk.2) (.slice Ao24 t1109.length co24)) (fun _ hk => ⟨hk.1.1.1, ⟨hk.1.1.2, hk.1.2⟩⟩)⟩, ⟨by (with_reducible repeat (first | apply Kd.R_alloc | apply Kd.R_drewN | apply Kd.R_drew)); exact Kd.R_mono (Kd.R_far (p := ⟨gb1113, 1, none⟩) (Kd.R_far (p := ⟨gb1113, 0, none⟩) (Kd.R_types HO1104.out BK1113.out (by decide)) (fun _ hk => hk.2) (.slice Ao20 t1106.length co20)) (fun _ hk => hk.2) (.slice Ao24 t1109.length co24)) (fun _ hk => ⟨hk.1.1.1, ⟨hk.1.1.2, hk.1.2⟩⟩)⟩, ⟨by (with_reducible repeat (first | apply Kd.R_alloc | apply Kd.R_drewN | apply Kd.R_drew)); exact Kd.R_mono (Kd.R_far (p := ⟨gb1113, 1, none⟩) (Kd.R_far (p := ⟨gb1113, 0, none⟩) (Kd.R_types HO1108.out BK1113.out (by decide)) (fun _ hk => hk.2) (.slice Ao20 t1106.length co20)) (fun _ hk => hk.2) (.slice Ao24 t1109.length co24)) (fun _ hk => ⟨hk.1.1.2, ⟨hk.1.2, hk.1.1.1⟩⟩)⟩, ⟨by (with_reducible repeat (first | apply Kd.R_alloc | apply Kd.R_drewN | apply Kd.R_drew)); exact Kd.R_mono (Kd.R_far (p := ⟨gb1113, 1, none⟩) (Kd.R_far (p := ⟨gb1113, 0, none⟩) (Kd.R_types HO1111.out BK1113.out (by decide)) (fun _ hk => hk.2) (.slice Ao20 t1106.length co20)) (fun _ hk => hk.2) (.slice Ao24 t1109.length co24)) (fun _ hk => ⟨hk.1.1.2, ⟨hk.1.2, hk.1.1.1⟩⟩)⟩, ⟨by (with_reducible repeat (first | refine blk_drewN ?_ _ | refine blk_drew ?_ | refine blk_alloc ?_ _)); refine blk_far ?_ NB1097_1113.out _; (with_reducible repeat (first | refine blk_drewN ?_ _ | refine blk_drew ?_ | refine blk_alloc ?_ _)); refine blk_far ?_ NB1097_1113.out _; (with_reducible repeat (first | refine blk_drewN ?_ _ | refine blk_drew ?_ | refine blk_alloc ?_ _)); exact BK1097.out⟩, ⟨by (with_reducible repeat (first | refine blk_drewN ?_ _ | refine blk_drew ?_ | refine blk_alloc ?_ _)); refine blk_far ?_ NB1105_1113.out _; (with_reducible repeat (first | refine blk_drewN ?_ _ | refine blk_drew ?_ | refine blk_alloc ?_ _)); refine blk_far ?_ NB1105_1113.out _; (with_reducible repeat (first | refine blk_drewN ?_ _ | refine blk_drew ?_ | refine blk_alloc ?_ _)); exact BK1105.out⟩, ⟨by (with_reducible repeat (first | refine blk_drewN ?_ _ | refine blk_drew ?_ | refine blk_alloc ?_ _)); refine blk_put (cs := #[.slice Ao20 t1106.length co20, .slice none 0 0]) ?_ 1 _ rfl; (with_reducible repeat (first | refine blk_drewN ?_ _ | refine blk_drew ?_ | refine blk_alloc ?_ _)); refine blk_put (cs := #[.slice none 0 0, .slice none 0 0]) ?_ 0 _ rfl; (with_reducible repeat (first | refine blk_drewN ?_ _ | refine blk_drew ?_ | refine blk_alloc ?_ _)); exact BK1113.out⟩, ⟨by repeat (first | (with_reducible first | exact HB.out | apply below_alloc | apply pw_below_drewN | apply below_drew1 | refine below_set ?_ GE1097.out | refine below_set ?_ GE1105.out | refine below_set ?_ GE1113.out) | exact HB.out)⟩⟩
  case rest =>
   clear HC10
   try clear c7
   try clear hcz11_0
   try clear hcz11_1
   try clear hcz16_0
   try clear hcz16_1
   try clear hcz23_0
   try clear hcz23_1
   try clear hfz11_0
   try clear hfz11_1
   try clear hfz16_0
   try clear hfz16_1
   try clear hfz23_0
   try clear hfz23_1
   obtain ⟨kq, x33_9, rfl, HA, HJ9, HO_1106000, HO_1106001, HO_1114000, HO_1114001, BK1097, BK1105, BK1113, HB⟩ := hcut
   cases kq with
   | zero => exact absurd HA.out (by simp [ancepslaw38_TableVital.j0])
   | succ kj9 =>
    have H := HA.out
    clear HA
    simp only [ancepslaw38_TableVital.j0] at H
    by_cases c31 : x33_9 = true
    ·subst c31
     have H1 : (some false) = some r := by rw [if_pos rfl] at H; exact H
     clear H
     have H := H1
     clear H1
     obtain rfl := Option.some.inj H
     go_wp2
     go_ret
     exact ⟨by first | rfl | (simp [errW_none, errW_some] <;> rfl) | (simp [*, errW_none, errW_some] <;> rfl), by repeat (first | (with_reducible first | exact HB.out | apply below_alloc | apply pw_below_drewN | apply below_drew1 | refine below_set ?_ GE1097.out | refine below_set ?_ GE1105.out | refine below_set ?_ GE1113.out) | exact HB.out)⟩
    ·replace c31 := Bool.eq_false_iff.mpr c31
     subst c31
     have H1 : (ancepslaw38_TableVital.l0 kj9 a1 t1106 (t1106.length : Int) 0 t1099 t1102 t1106 t1109) = some r := by rw [if_neg (show ¬ (false = true) by decide)] at H; exact H
     clear H
     have H := H1
     clear H1
     have H' := Aside0.mk H
     clear H
     have hnb32 := NB1113_1097.out
     have hnc32 := NB1097_1113.out
     have hnb33 := NB1113_1105.out
     have hnc33 := NB1105_1113.out
     have hcz34_0 : wc.cell? ⟨gb1113, 0, none⟩ = some (.slice Ao20 t1106.length co20) := (blk_cell BK1113.out 0).trans rfl
     have hcz34_1 : wc.cell? ⟨gb1113, 1, none⟩ = some (.slice Ao24 t1109.length co24) := (blk_cell BK1113.out 1).trans rfl
     have hfz34_0 := blk_frozen BK1113.out 0
     have hfz34_1 := blk_frozen BK1113.out 1
     go_wp2
     go_loopg [37] kj9 (fun kq v37 w' => ∃ (x37_2 : Int), v37 = .int .i64 x37_2 ∧ Aside0 (ancepslaw38_TableVital.l0 kq a1 t1106 (t1106.length : Int) x37_2 t1099 t1102 t1106 t1109 = some r) ∧ Aside0 (kq ≤ kj9) ∧ Aside0 (Kd.R (Kd.int .i64) 3 w' w.heap.size (fun k_ => some k_ ≠ ((.slice Ao14 t1099.length co14) : Value).ownBlock ∧ some k_ ≠ ((.slice Ao17 t1102.length co17) : Value).ownBlock ∧ some k_ ≠ ((.slice Ao24 t1109.length co24) : Value).ownBlock) (.slice Ao20 t1106.length co20) t1106) ∧ Aside0 (Kd.R (Kd.int .i64) 3 w' w.heap.size (fun k_ => some k_ ≠ ((.slice Ao20 t1106.length co20) : Value).ownBlock ∧ some k_ ≠ ((.slice Ao17 t1102.length co17) : Value).ownBlock ∧ some k_ ≠ ((.slice Ao20 t1106.length co20) : Value).ownBlock ∧ some k_ ≠ ((.slice Ao24 t1109.length co24) : Value).ownBlock) (.slice Ao14 t1099.length co14) t1099) ∧ Aside0 (Kd.R (Kd.int .i64) 3 w' w.heap.size (fun k_ => some k_ ≠ ((.slice Ao20 t1106.length co20) : Value).ownBlock ∧ some k_ ≠ ((.slice Ao14 t1099.length co14) : Value).ownBlock ∧ some k_ ≠ ((.slice Ao20 t1106.length co20) : Value).ownBlock ∧ some k_ ≠ ((.slice Ao24 t1109.length co24) : Value).ownBlock) (.slice Ao17 t1102.length co17) t1102) ∧ Aside0 (Kd.R (Kd.int .i64) 3 w' w.heap.size (fun k_ => some k_ ≠ ((.slice Ao14 t1099.length co14) : Value).ownBlock ∧ some k_ ≠ ((.slice Ao17 t1102.length co17) : Value).ownBlock ∧ some k_ ≠ ((.slice Ao24 t1109.length co24) : Value).ownBlock) (.slice Ao20 t1106.length co20) t1106) ∧ Aside0 (Kd.R (Kd.int .i64) 3 w' w.heap.size (fun k_ => some k_ ≠ ((.slice Ao20 t1106.length co20) : Value).ownBlock ∧ some k_ ≠ ((.slice Ao14 t1099.length co14) : Value).ownBlock ∧ some k_ ≠ ((.slice Ao17 t1102.length co17) : Value).ownBlock ∧ some k_ ≠ ((.slice Ao20 t1106.length co20) : Value).ownBlock) (.slice Ao24 t1109.length co24) t1109) ∧ Aside0 (w'.heap[gb1097]? = some (.cells #[.int .u32 a0_0, .int .u64 a0_1] 25 (0, 0))) ∧ Aside0 (w'.heap[gb1105]? = some (.cells #[(.slice Ao14 t1099.length co14), (.slice Ao17 t1102.length co17)] 29 (0, 0))) ∧ Aside0 (w'.heap[gb1113]? = some (.cells #[(.slice Ao20 t1106.length co20), (.slice Ao24 t1109.length co24)] 29 (0, 0))) ∧ Aside0 (Below w.heap.size w w'))
     case atStart => exact ⟨(0), zT, H', ⟨Nat.le_refl _⟩, ⟨by (with_reducible repeat (first | apply Kd.R_alloc | apply Kd.R_drewN | apply Kd.R_drew)); exact HO_1114000.out⟩, ⟨by (with_reducible repeat (first | apply Kd.R_alloc | apply Kd.R_drewN | apply Kd.R_drew)); exact Kd.R_mono HO_1106000.out (fun _ hk => ⟨hk.2.1, ⟨hk.1, ⟨hk.2.1, hk.2.2⟩⟩⟩)⟩, ⟨by (with_reducible repeat (first | apply Kd.R_alloc | apply Kd.R_drewN | apply Kd.R_drew)); exact Kd.R_mono HO_1106001.out (fun _ hk => ⟨hk.2.1, ⟨hk.1, ⟨hk.2.1, hk.2.2⟩⟩⟩)⟩, ⟨by (with_reducible repeat (first | apply Kd.R_alloc | apply Kd.R_drewN | apply Kd.R_drew)); exact HO_1114000.out⟩, ⟨by (with_reducible repeat (first | apply Kd.R_alloc | apply Kd.R_drewN | apply Kd.R_drew)); exact Kd.R_mono HO_1114001.out (fun _ hk => ⟨hk.2.2, ⟨hk.1, ⟨hk.2.1, hk.2.2⟩⟩⟩)⟩, ⟨by (with_reducible repeat (first | refine blk_drewN ?_ _ | refine blk_drew ?_ | refine blk_alloc ?_ _)); exact BK1097.out⟩, ⟨by (with_reducible repeat (first | refine blk_drewN ?_ _ | refine blk_drew ?_ | refine blk_alloc ?_ _)); exact BK1105.out⟩, ⟨by (with_reducible repeat (first | refine blk_drewN ?_ _ | refine blk_drew ?_ | refine blk_alloc ?_ _)); exact BK1113.out⟩, ⟨by repeat (first | (with_reducible first | exact HB.out | apply below_alloc | apply pw_below_drewN | apply below_drew1 | refine below_set ?_ GE1097.out | refine below_set ?_ GE1105.out | refine below_set ?_ GE1113.out) | exact HB.out)⟩⟩
     case round =>
      clear H'
      try clear c7
      try clear c31
      try clear hcz11_0
      try clear hcz11_1
      try clear hcz16_0
      try clear hcz16_1
      try clear hcz23_0
      try clear hcz23_1
      try clear hcz34_0
      try clear hcz34_1
      try clear hfz11_0
      try clear hfz11_1
      try clear hfz16_0
      try clear hfz16_1
      try clear hfz23_0
      try clear hfz23_1
      try clear hfz34_0
      try clear hfz34_1
      obtain ⟨x37_2, rfl, HA, HK2, HO_35, HO_1106000, HO_1106001, HO_1114000, HO_1114001, BK1097, BK1105, BK1113, HB⟩ := hrel
      cases gk with
      | zero => exact absurd HA.out (by simp [ancepslaw38_TableVital.l0])
      | succ k2 =>
       have H := HA.out
       clear HA
       simp only [ancepslaw38_TableVital.l0] at H
       by_cases c35 : x37_2 < (t1106.length : Int)
       ·rw [if_pos c35] at H
        have c35b0 : decide (x37_2 < (t1106.length : Int)) = true := decide_eq_true c35
        clear c35
        by_cases c36 : 0 ≤ x37_2
        ·rw [if_pos c36] at H
         have c36b0 : decide (0 ≤ x37_2) = true := decide_eq_true c36
         clear c36
         by_cases c37 : x37_2 < (t1106.length : Int)
         ·rw [if_pos c37] at H
          have c37b0 : decide (x37_2 < (t1106.length : Int)) = true := decide_eq_true c37
          clear c37
          replace H := Option.bind_eq_some_iff.mp H
          obtain ⟨t1116, A380, H⟩ := H
          replace H : (if t1116 = true then ((slices_Contains_int_int.f k2 t1099 (rd t1106 x37_2)).bind fun t1117 => (if t1117 = true then (ancepslaw38_TableVital.l0 k2 a1 t1106 (t1106.length : Int) (wrap64 (x37_2 + 1)) t1099 t1102 t1106 t1109) else (some false))) else (some false)) = some r := H
          have A38 := Aside0.mk A380
          clear A380
          by_cases c39 : t1116 = true
          ·subst c39
           have H1 : ((slices_Contains_int_int.f k2 t1099 (rd t1106 x37_2)).bind fun t1117 => (if t1117 = true then (ancepslaw38_TableVital.l0 k2 a1 t1106 (t1106.length : Int) (wrap64 (x37_2 + 1)) t1099 t1102 t1106 t1109) else (some false))) = some r := by rw [if_pos rfl] at H; exact H
           clear H
           have H := H1
           clear H1
           replace H := Option.bind_eq_some_iff.mp H
           obtain ⟨t1117, A400, H⟩ := H
           replace H : (if t1117 = true then (ancepslaw38_TableVital.l0 k2 a1 t1106 (t1106.length : Int) (wrap64 (x37_2 + 1)) t1099 t1102 t1106 t1109) else (some false)) = some r := H
           have A40 := Aside0.mk A400
           clear A400
           have HC41 := Aside0.mk H
           clear H
           have p1115 : 0 ≤ (x37_2 : Int) := of_decide_eq_true zh
           have q1115 : x37_2 < (t1106.length : Int) := of_decide_eq_true zh
           obtain ⟨ad1115, e1115, hx1115_0⟩ := Kd.at_int (Kd.R_reads' HO_35.out).2.2 x37_2 p1115 q1115
           cases e1115
           replace p1115 := eq_true p1115
           replace q1115 := eq_true q1115
           have hnb42 := NB1113_1097.out
           have hnc42 := NB1097_1113.out
           have hnb43 := NB1113_1105.out
           have hnc43 := NB1105_1113.out
           have hcz44_0 : wr.cell? ⟨gb1113, 0, none⟩ = some (.slice (some ad1115) t1106.length co20) := (blk_cell BK1113.out 0).trans rfl
           have hcz44_1 : wr.cell? ⟨gb1113, 1, none⟩ = some (.slice Ao24 t1109.length co24) := (blk_cell BK1113.out 1).trans rfl
           have hfz44_0 := blk_frozen BK1113.out 0
           have hfz44_1 := blk_frozen BK1113.out 1
           go_upto_if 51 with (first | ((with_reducible refine gate_callee (f := 37) rfl ?_); refine goesL_ (some 43) rfl rfl Try.func37 zK rfl #[.agg #[.slice (some ad1115) t1106.length co20, .slice Ao24 t1109.length co24], .int .i64 (rd t1106 x37_2)] rfl zM ?_; (with_reducible refine (ancepsref38_Matters.calls k2 _ _ t1106 _ _ t1109 (rd t1106 x37_2) true _ ?side1 ?side2 ?side3 ?side4 A38.out).mono ?_); (case side1 => repeat (first | exact (Kd.R_reads' HO_1114000.out).2.2 | (with_reducible refine Kd.C_alloc ?_ _) | (with_reducible refine Kd.C_drewN ?_ _) | (with_reducible refine Kd.C_drew ?_))); (case side2 => exact (Kd.R_reads' HO_1114000.out).2.1); (case side3 => repeat (first | exact (Kd.R_reads' HO_1114001.out).2.2 | (with_reducible refine Kd.C_alloc ?_ _) | (with_reducible refine Kd.C_drewN ?_ _) | (with_reducible refine Kd.C_drew ?_))); (case side4 => exact (Kd.R_reads' HO_1114001.out).2.1); rintro e w45 ⟨rfl, hb⟩; refine ⟨_, rfl, ?_⟩; have n0_ := Aside0.mk (Kd.R_below (zR HO_35) hb); have n1_ := Aside0.mk (Kd.R_below (zR HO_1106000) hb); have n2_ := Aside0.mk (Kd.R_below (zR HO_1106001) hb); have n3_ := Aside0.mk (Kd.R_below (zR HO_1114000) hb); have n4_ := Aside0.mk (Kd.R_below (zR HO_1114001) hb); have n5_ := Aside0.mk (blk_below (g := gb1097) (o := .cells #[.int .u32 a0_0, .int .u64 a0_1] 25 (0, 0)) (zk BK1097) hb); have n6_ := Aside0.mk (blk_below (g := gb1105) (o := .cells #[.slice Ao14 t1099.length co14, .slice Ao17 t1102.length co17] 29 (0, 0)) (zk BK1105) hb); have n7_ := Aside0.mk (blk_below (g := gb1113) (o := .cells #[.slice (some ad1115) t1106.length co20, .slice Ao24 t1109.length co24] 29 (0, 0)) (zk BK1113) hb); have n8_ := Aside0.mk (below_step zB hb); clear HO_35; clear HO_1106000; clear HO_1106001; clear HO_1114000; clear HO_1114001; clear BK1097; clear BK1105; clear BK1113; clear HB; have HO_35 := n0_; have HO_1106000 := n1_; have HO_1106001 := n2_; have HO_1114000 := n3_; have HO_1114001 := n4_; have BK1097 := n5_; have BK1105 := n6_; have BK1113 := n7_; have HB := n8_; clear n0_ n1_ n2_ n3_ n4_ n5_ n6_ n7_ n8_; (try clear hb); (try clear hb2); (try clear hk); (try clear hi); have hnb46 := NB1105_1097.out; have hnc46 := NB1097_1105.out; have hcz47_0 : w45.cell? ⟨gb1105, 0, none⟩ = some (.slice Ao14 t1099.length co14) := (blk_cell BK1105.out 0).trans rfl; have hcz47_1 : w45.cell? ⟨gb1105, 1, none⟩ = some (.slice Ao17 t1102.length co17) := (blk_cell BK1105.out 1).trans rfl; have hfz47_0 := blk_frozen BK1105.out 0; have hfz47_1 := blk_frozen BK1105.out 1) | (go_at_call 38; (with_reducible refine (slices_Contains_int_int.calls k2 _ _ t1099 (rd t1106 x37_2) t1117 _ ?side1 ?side2 A40.out).mono ?_); (case side1 => repeat (first | exact (Kd.R_reads' HO_1106000.out).2.2 | (with_reducible refine Kd.C_alloc ?_ _) | (with_reducible refine Kd.C_drewN ?_ _) | (with_reducible refine Kd.C_drew ?_))); (case side2 => exact (Kd.R_reads' HO_1106000.out).2.1); rintro e w' ⟨rfl, ⟨nd, rfl⟩⟩))
           (try simp only [Act.put, List.setIfInBounds_toArray, List.set_cons_zero, List.set_cons_succ])
           have H := HC41.out
           clear HC41
           by_cases c48 : t1117 = true
           ·subst c48
            have H1 : (ancepslaw38_TableVital.l0 k2 a1 t1106 (t1106.length : Int) (wrap64 (x37_2 + 1)) t1099 t1102 t1106 t1109) = some r := by rw [if_pos rfl] at H; exact H
            clear H
            have H := H1
            clear H1
            have H' := Aside0.mk H
            clear H
            go_wp2
            go_roundg k2
            case measure => have := HJ9.out; have := HK2.out; omega
            case rel => exact ⟨(wrap64 (x37_2 + 1)), zT, H', ⟨by have := HJ9.out; have := HK2.out; omega⟩, ⟨by (with_reducible repeat (first | apply Kd.R_alloc | apply Kd.R_drewN | apply Kd.R_drew)); exact HO_35.out⟩, ⟨by (with_reducible repeat (first | apply Kd.R_alloc | apply Kd.R_drewN | apply Kd.R_drew)); exact HO_1106000.out⟩, ⟨by (with_reducible repeat (first | apply Kd.R_alloc | apply Kd.R_drewN | apply Kd.R_drew)); exact HO_1106001.out⟩, ⟨by (with_reducible repeat (first | apply Kd.R_alloc | apply Kd.R_drewN | apply Kd.R_drew)); exact HO_1114000.out⟩, ⟨by (with_reducible repeat (first | apply Kd.R_alloc | apply Kd.R_drewN | apply Kd.R_drew)); exact HO_1114001.out⟩, ⟨by (with_reducible repeat (first | refine blk_drewN ?_ _ | refine blk_drew ?_ | refine blk_alloc ?_ _)); exact BK1097.out⟩, ⟨by (with_reducible repeat (first | refine blk_drewN ?_ _ | refine blk_drew ?_ | refine blk_alloc ?_ _)); exact BK1105.out⟩, ⟨by (with_reducible repeat (first | refine blk_drewN ?_ _ | refine blk_drew ?_ | refine blk_alloc ?_ _)); exact BK1113.out⟩, ⟨by repeat (first | (with_reducible first | exact HB.out | apply below_alloc | apply pw_below_drewN | apply below_drew1 | refine below_set ?_ GE1097.out | refine below_set ?_ GE1105.out | refine below_set ?_ GE1113.out) | exact HB.out)⟩⟩
           ·replace c48 := Bool.eq_false_iff.mpr c48
            subst c48
            have H1 : (some false) = some r := by rw [if_neg (show ¬ (false = true) by decide)] at H; exact H
            clear H
            have H := H1
            clear H1
            obtain rfl := Option.some.inj H
            go_wp2
            go_ret
            exact ⟨by first | rfl | (simp [errW_none, errW_some] <;> rfl) | (simp [*, errW_none, errW_some] <;> rfl), by repeat (first | (with_reducible first | exact HB.out | apply below_alloc | apply pw_below_drewN | apply below_drew1 | refine below_set ?_ GE1097.out | refine below_set ?_ GE1105.out | refine below_set ?_ GE1113.out) | exact HB.out)⟩
          ·replace c39 := Bool.eq_false_iff.mpr c39
           subst c39
           have H1 : (some false) = some r := by rw [if_neg (show ¬ (false = true) by decide)] at H; exact H
           clear H
           have H := H1
           clear H1
           obtain rfl := Option.some.inj H
           have p1115 : 0 ≤ (x37_2 : Int) := of_decide_eq_true zh
           have q1115 : x37_2 < (t1106.length : Int) := of_decide_eq_true zh
           obtain ⟨ad1115, e1115, hx1115_0⟩ := Kd.at_int (Kd.R_reads' HO_35.out).2.2 x37_2 p1115 q1115
           cases e1115
           replace p1115 := eq_true p1115
           replace q1115 := eq_true q1115
           have hnb49 := NB1113_1097.out
           have hnc49 := NB1097_1113.out
           have hnb50 := NB1113_1105.out
           have hnc50 := NB1105_1113.out
           have hcz51_0 : wr.cell? ⟨gb1113, 0, none⟩ = some (.slice (some ad1115) t1106.length co20) := (blk_cell BK1113.out 0).trans rfl
           have hcz51_1 : wr.cell? ⟨gb1113, 1, none⟩ = some (.slice Ao24 t1109.length co24) := (blk_cell BK1113.out 1).trans rfl
           have hfz51_0 := blk_frozen BK1113.out 0
           have hfz51_1 := blk_frozen BK1113.out 1
           go_wp2_with (first | ((with_reducible refine gate_callee (f := 37) rfl ?_); refine goesL_ (some 43) rfl rfl Try.func37 zK rfl #[.agg #[.slice (some ad1115) t1106.length co20, .slice Ao24 t1109.length co24], .int .i64 (rd t1106 x37_2)] rfl zM ?_; (with_reducible refine (ancepsref38_Matters.calls k2 _ _ t1106 _ _ t1109 (rd t1106 x37_2) false _ ?side1 ?side2 ?side3 ?side4 A38.out).mono ?_); (case side1 => repeat (first | exact (Kd.R_reads' HO_1114000.out).2.2 | (with_reducible refine Kd.C_alloc ?_ _) | (with_reducible refine Kd.C_drewN ?_ _) | (with_reducible refine Kd.C_drew ?_))); (case side2 => exact (Kd.R_reads' HO_1114000.out).2.1); (case side3 => repeat (first | exact (Kd.R_reads' HO_1114001.out).2.2 | (with_reducible refine Kd.C_alloc ?_ _) | (with_reducible refine Kd.C_drewN ?_ _) | (with_reducible refine Kd.C_drew ?_))); (case side4 => exact (Kd.R_reads' HO_1114001.out).2.1); rintro e w52 ⟨rfl, hb⟩; refine ⟨_, rfl, ?_⟩; have n0_ := Aside0.mk (Kd.R_below (zR HO_35) hb); have n1_ := Aside0.mk (Kd.R_below (zR HO_1106000) hb); have n2_ := Aside0.mk (Kd.R_below (zR HO_1106001) hb); have n3_ := Aside0.mk (Kd.R_below (zR HO_1114000) hb); have n4_ := Aside0.mk (Kd.R_below (zR HO_1114001) hb); have n5_ := Aside0.mk (blk_below (g := gb1097) (o := .cells #[.int .u32 a0_0, .int .u64 a0_1] 25 (0, 0)) (zk BK1097) hb); have n6_ := Aside0.mk (blk_below (g := gb1105) (o := .cells #[.slice Ao14 t1099.length co14, .slice Ao17 t1102.length co17] 29 (0, 0)) (zk BK1105) hb); have n7_ := Aside0.mk (blk_below (g := gb1113) (o := .cells #[.slice (some ad1115) t1106.length co20, .slice Ao24 t1109.length co24] 29 (0, 0)) (zk BK1113) hb); have n8_ := Aside0.mk (below_step zB hb); clear HO_35; clear HO_1106000; clear HO_1106001; clear HO_1114000; clear HO_1114001; clear BK1097; clear BK1105; clear BK1113; clear HB; have HO_35 := n0_; have HO_1106000 := n1_; have HO_1106001 := n2_; have HO_1114000 := n3_; have HO_1114001 := n4_; have BK1097 := n5_; have BK1105 := n6_; have BK1113 := n7_; have HB := n8_; clear n0_ n1_ n2_ n3_ n4_ n5_ n6_ n7_ n8_; (try clear hb); (try clear hb2); (try clear hk); (try clear hi)))
           go_ret
           exact ⟨by first | rfl | (simp [errW_none, errW_some] <;> rfl) | (simp [*, errW_none, errW_some] <;> rfl), by repeat (first | (with_reducible first | exact HB.out | apply below_alloc | apply pw_below_drewN | apply below_drew1 | refine below_set ?_ GE1097.out | refine below_set ?_ GE1105.out | refine below_set ?_ GE1113.out) | exact HB.out)⟩
         ·rw [if_neg c37] at H
          exact absurd H (by simp)
        ·rw [if_neg c36] at H
         exact absurd H (by simp)
       ·rw [if_neg c35] at H
        have c35b0 : decide (x37_2 < (t1106.length : Int)) = false := decide_eq_false c35
        clear c35
        obtain ⟨ji53, hji53⟩ : ∃ j_ : Int, (shl .i64 1 (t1099.length : Int)) = j_ := ⟨_, rfl⟩
        replace H : (ancepslaw38_TableVital.l1 k2 a1 ji53 0 t1099 t1102 t1106 t1109) = some r := by first | (rw [hji53] at H; exact H) | (simp only [hji53] at H ⊢; exact H)
        have hji53_ : (IntKind.i64.wrap (1 * 2 ^ min (t1099.length : Int).toNat 64)) = ji53 := hji53
        have hji53z : (t1099.length : Int) ≤ 64 → (IntKind.i64.wrap (1 * 2 ^ (t1099.length : Int).toNat)) = ji53 := shl_small hji53
        have hji53p : (IntKind.i64.wrap (1 * 2 ^ min t1099.length 64)) = ji53 := hji53_
        have hji53q : (t1099.length : Int) ≤ 64 → (IntKind.i64.wrap (1 * 2 ^ t1099.length)) = ji53 := hji53z
        have hji53r : (IntKind.i64.wrap (2 ^ min t1099.length 64)) = ji53 := by have h_ := hji53p; rw [Int.one_mul] at h_; exact h_
        have hji53s : (t1099.length : Int) ≤ 64 → (IntKind.i64.wrap (2 ^ t1099.length)) = ji53 := fun hle_ => by have h_ := hji53q hle_; rw [Int.one_mul] at h_; exact h_
        have hji53u : (IntKind.i64.wrap (2 ^ min (t1099.length : Int).toNat 64)) = ji53 := by have h_ := hji53_; rw [Int.one_mul] at h_; exact h_
        have hji53v : (t1099.length : Int) ≤ 64 → (IntKind.i64.wrap (2 ^ (t1099.length : Int).toNat)) = ji53 := fun hle_ => by have h_ := hji53z hle_; rw [Int.one_mul] at h_; exact h_
        have hji53y : (wrap64 (1 * 2 ^ min (t1099.length : Int).toNat 64)) = ji53 := (i64_w _).symm.trans hji53_
        have hji53x : (t1099.length : Int) ≤ 64 → (wrap64 (1 * 2 ^ (t1099.length : Int).toNat)) = ji53 := fun h_ => (i64_w _).symm.trans (hji53z h_)
        have H' := Aside0.mk H
        clear H
        have hnb54 := NB1105_1097.out
        have hnc54 := NB1097_1105.out
        have hnb55 := NB1105_1113.out
        have hnc55 := NB1113_1105.out
        have hcz56_0 : wr.cell? ⟨gb1105, 0, none⟩ = some (.slice Ao14 t1099.length co14) := (blk_cell BK1105.out 0).trans rfl
        have hcz56_1 : wr.cell? ⟨gb1105, 1, none⟩ = some (.slice Ao17 t1102.length co17) := (blk_cell BK1105.out 1).trans rfl
        have hfz56_0 := blk_frozen BK1105.out 0
        have hfz56_1 := blk_frozen BK1105.out 1
        go_wp2
        go_loopg [57] k2 (fun kq v57 w' => ∃ (x57_3 : Int), v57 = .int .i64 x57_3 ∧ Aside0 (ancepslaw38_TableVital.l1 kq a1 ji53 x57_3 t1099 t1102 t1106 t1109 = some r) ∧ Aside0 (kq ≤ k2) ∧ Aside0 (Kd.R (Kd.int .i64) 3 w' w.heap.size (fun k_ => some k_ ≠ ((.slice Ao17 t1102.length co17) : Value).ownBlock ∧ some k_ ≠ ((.slice Ao20 t1106.length co20) : Value).ownBlock ∧ some k_ ≠ ((.slice Ao24 t1109.length co24) : Value).ownBlock) (.slice Ao14 t1099.length co14) t1099) ∧ Aside0 (Kd.R (Kd.int .i64) 3 w' w.heap.size (fun k_ => some k_ ≠ ((.slice Ao14 t1099.length co14) : Value).ownBlock ∧ some k_ ≠ ((.slice Ao20 t1106.length co20) : Value).ownBlock ∧ some k_ ≠ ((.slice Ao24 t1109.length co24) : Value).ownBlock) (.slice Ao17 t1102.length co17) t1102) ∧ Aside0 (Kd.R (Kd.int .i64) 3 w' w.heap.size (fun k_ => some k_ ≠ ((.slice Ao14 t1099.length co14) : Value).ownBlock ∧ some k_ ≠ ((.slice Ao17 t1102.length co17) : Value).ownBlock ∧ some k_ ≠ ((.slice Ao24 t1109.length co24) : Value).ownBlock) (.slice Ao20 t1106.length co20) t1106) ∧ Aside0 (Kd.R (Kd.int .i64) 3 w' w.heap.size (fun k_ => some k_ ≠ ((.slice Ao14 t1099.length co14) : Value).ownBlock ∧ some k_ ≠ ((.slice Ao17 t1102.length co17) : Value).ownBlock ∧ some k_ ≠ ((.slice Ao20 t1106.length co20) : Value).ownBlock) (.slice Ao24 t1109.length co24) t1109) ∧ Aside0 (w'.heap[gb1097]? = some (.cells #[.int .u32 a0_0, .int .u64 a0_1] 25 (0, 0))) ∧ Aside0 (w'.heap[gb1105]? = some (.cells #[(.slice Ao14 t1099.length co14), (.slice Ao17 t1102.length co17)] 29 (0, 0))) ∧ Aside0 (w'.heap[gb1113]? = some (.cells #[(.slice Ao20 t1106.length co20), (.slice Ao24 t1109.length co24)] 29 (0, 0))) ∧ Aside0 (Below w.heap.size w w'))
        case atStart => exact ⟨(0), zT, H', ⟨Nat.le_refl _⟩, ⟨by (with_reducible repeat (first | apply Kd.R_alloc | apply Kd.R_drewN | apply Kd.R_drew)); exact Kd.R_mono HO_1106000.out (fun _ hk => ⟨hk.2.1, ⟨hk.2.2.1, hk.2.2.2⟩⟩)⟩, ⟨by (with_reducible repeat (first | apply Kd.R_alloc | apply Kd.R_drewN | apply Kd.R_drew)); exact Kd.R_mono HO_1106001.out (fun _ hk => ⟨hk.2.1, ⟨hk.2.2.1, hk.2.2.2⟩⟩)⟩, ⟨by (with_reducible repeat (first | apply Kd.R_alloc | apply Kd.R_drewN | apply Kd.R_drew)); exact HO_1114000.out⟩, ⟨by (with_reducible repeat (first | apply Kd.R_alloc | apply Kd.R_drewN | apply Kd.R_drew)); exact Kd.R_mono HO_1114001.out (fun _ hk => ⟨hk.2.1, ⟨hk.2.2.1, hk.2.2.2⟩⟩)⟩, ⟨by (with_reducible repeat (first | refine blk_drewN ?_ _ | refine blk_drew ?_ | refine blk_alloc ?_ _)); exact BK1097.out⟩, ⟨by (with_reducible repeat (first | refine blk_drewN ?_ _ | refine blk_drew ?_ | refine blk_alloc ?_ _)); exact BK1105.out⟩, ⟨by (with_reducible repeat (first | refine blk_drewN ?_ _ | refine blk_drew ?_ | refine blk_alloc ?_ _)); exact BK1113.out⟩, ⟨by repeat (first | (with_reducible first | exact HB.out | apply below_alloc | apply pw_below_drewN | apply below_drew1 | refine below_set ?_ GE1097.out | refine below_set ?_ GE1105.out | refine below_set ?_ GE1113.out) | exact HB.out)⟩⟩
        case round =>
         clear H'
         try clear c7
         try clear c31
         try clear c35
         try clear c35b0
         try clear hcz11_0
         try clear hcz11_1
         try clear hcz16_0
         try clear hcz16_1
         try clear hcz23_0
         try clear hcz23_1
         try clear hcz34_0
         try clear hcz34_1
         try clear hcz56_0
         try clear hcz56_1
         try clear hfz11_0
         try clear hfz11_1
         try clear hfz16_0
         try clear hfz16_1
         try clear hfz23_0
         try clear hfz23_1
         try clear hfz34_0
         try clear hfz34_1
         try clear hfz56_0
         try clear hfz56_1
         obtain ⟨x57_3, rfl, HA, HK3, HO_1106000, HO_1106001, HO_1114000, HO_1114001, BK1097, BK1105, BK1113, HB⟩ := hrel
         cases gk with
         | zero => exact absurd HA.out (by simp [ancepslaw38_TableVital.l1])
         | succ k3 =>
          have H := HA.out
          clear HA
          simp only [ancepslaw38_TableVital.l1] at H
          by_cases c57 : x57_3 < ji53
          ·rw [if_pos c57] at H
           have c57b0 : decide (x57_3 < ji53) = true := decide_eq_true c57
           clear c57
           replace H := Option.bind_eq_some_iff.mp H
           obtain ⟨t1118, A580, H⟩ := H
           replace H : ((ancepsref38_Holds.f k3 t1106 t1109 t1118).bind fun t1119 => ((ancepsref38_Holds.f k3 t1099 t1102 t1118).bind fun t1120 => (if (t1119 != t1120) = true then (some false) else (ancepslaw38_TableVital.l1 k3 a1 ji53 (wrap64 (x57_3 + 1)) t1099 t1102 t1106 t1109)))) = some r := H
           have A58 := Aside0.mk A580
           clear A580
           replace H := Option.bind_eq_some_iff.mp H
           obtain ⟨t1119, A590, H⟩ := H
           replace H : ((ancepsref38_Holds.f k3 t1099 t1102 t1118).bind fun t1120 => (if (t1119 != t1120) = true then (some false) else (ancepslaw38_TableVital.l1 k3 a1 ji53 (wrap64 (x57_3 + 1)) t1099 t1102 t1106 t1109))) = some r := H
           have A59 := Aside0.mk A590
           clear A590
           replace H := Option.bind_eq_some_iff.mp H
           obtain ⟨t1120, A600, H⟩ := H
           replace H : (if (t1119 != t1120) = true then (some false) else (ancepslaw38_TableVital.l1 k3 a1 ji53 (wrap64 (x57_3 + 1)) t1099 t1102 t1106 t1109)) = some r := H
           have A60 := Aside0.mk A600
           clear A600
           have HC61 := Aside0.mk H
           clear H
           have hnb62 := NB1105_1097.out
           have hnc62 := NB1097_1105.out
           have hnb63 := NB1105_1113.out
           have hnc63 := NB1113_1105.out
           have hcz64_0 : wr.cell? ⟨gb1105, 0, none⟩ = some (.slice Ao14 t1099.length co14) := (blk_cell BK1105.out 0).trans rfl
           have hcz64_1 : wr.cell? ⟨gb1105, 1, none⟩ = some (.slice Ao17 t1102.length co17) := (blk_cell BK1105.out 1).trans rfl
           have hfz64_0 := blk_frozen BK1105.out 0
           have hfz64_1 := blk_frozen BK1105.out 1
           try go_wp2_with (first | ((with_reducible refine gate_callee (f := 39) rfl ?_); refine goesL_ (some 63) rfl rfl Try.func39 zK rfl #[.slice Ao14 t1099.length co14, .int .i64 x57_3] rfl zM ?_; (with_reducible refine (ancepsref38_Assignment.calls k3 _ _ t1099 x57_3 t1118 _ ?side1 ?side2 A58.out).mono ?_); (case side1 => repeat (first | exact (Kd.R_reads' HO_1106000.out).2.2 | (with_reducible refine Kd.C_alloc ?_ _) | (with_reducible refine Kd.C_drewN ?_ _) | (with_reducible refine Kd.C_drew ?_))); (case side2 => exact (Kd.R_reads' HO_1106000.out).2.1); rintro e w' ⟨rfl, ⟨nd, rfl⟩⟩; refine ⟨_, rfl, ?_⟩))
           (try (rw [drewN_self wr]; generalize hq_ : World.drewN wr _ = wr; have n0_ : Aside0 (Kd.R (Kd.int .i64) 3 wr w.heap.size (fun k_ => some k_ ≠ (.slice Ao17 t1102.length co17 : Value).ownBlock ∧ some k_ ≠ (.slice Ao20 t1106.length co20 : Value).ownBlock ∧ some k_ ≠ (.slice Ao24 t1109.length co24 : Value).ownBlock) (.slice Ao14 t1099.length co14) t1099) := ⟨by rw [← hq_]; exact (zR HO_1106000)⟩; have n1_ : Aside0 (Kd.R (Kd.int .i64) 3 wr w.heap.size (fun k_ => some k_ ≠ (.slice Ao14 t1099.length co14 : Value).ownBlock ∧ some k_ ≠ (.slice Ao20 t1106.length co20 : Value).ownBlock ∧ some k_ ≠ (.slice Ao24 t1109.length co24 : Value).ownBlock) (.slice Ao17 t1102.length co17) t1102) := ⟨by rw [← hq_]; exact (zR HO_1106001)⟩; have n2_ : Aside0 (Kd.R (Kd.int .i64) 3 wr w.heap.size (fun k_ => some k_ ≠ (.slice Ao14 t1099.length co14 : Value).ownBlock ∧ some k_ ≠ (.slice Ao17 t1102.length co17 : Value).ownBlock ∧ some k_ ≠ (.slice Ao24 t1109.length co24 : Value).ownBlock) (.slice Ao20 t1106.length co20) t1106) := ⟨by rw [← hq_]; exact (zR HO_1114000)⟩; have n3_ : Aside0 (Kd.R (Kd.int .i64) 3 wr w.heap.size (fun k_ => some k_ ≠ (.slice Ao14 t1099.length co14 : Value).ownBlock ∧ some k_ ≠ (.slice Ao17 t1102.length co17 : Value).ownBlock ∧ some k_ ≠ (.slice Ao20 t1106.length co20 : Value).ownBlock) (.slice Ao24 t1109.length co24) t1109) := ⟨by rw [← hq_]; exact (zR HO_1114001)⟩; have n4_ : Aside0 (wr.heap[gb1097]? = some (.cells #[.int .u32 a0_0, .int .u64 a0_1] 25 (0, 0))) := ⟨by rw [← hq_]; exact (zk BK1097)⟩; have n5_ : Aside0 (wr.heap[gb1105]? = some (.cells #[.slice Ao14 t1099.length co14, .slice Ao17 t1102.length co17] 29 (0, 0))) := ⟨by rw [← hq_]; exact (zk BK1105)⟩; have n6_ : Aside0 (wr.heap[gb1113]? = some (.cells #[.slice Ao20 t1106.length co20, .slice Ao24 t1109.length co24] 29 (0, 0))) := ⟨by rw [← hq_]; exact (zk BK1113)⟩; have n7_ : Aside0 (Below w.heap.size w wr) := ⟨by rw [← hq_]; exact zB⟩; clear HO_1106000 HO_1106001 HO_1114000 HO_1114001 BK1097 BK1105 BK1113 HB hq_; have HO_1106000 := n0_; have HO_1106001 := n1_; have HO_1114000 := n2_; have HO_1114001 := n3_; have BK1097 := n4_; have BK1105 := n5_; have BK1113 := n6_; have HB := n7_; clear n0_ n1_ n2_ n3_ n4_ n5_ n6_ n7_))
           have n0_ := Aside0.mk (Kd.R_drew HO_1106000.out)
           have n1_ := Aside0.mk (Kd.R_drew HO_1106001.out)
           have n2_ := Aside0.mk (Kd.R_drew HO_1114000.out)
           have n3_ := Aside0.mk (Kd.R_drew HO_1114001.out)
           have n4_ := Aside0.mk (blk_drew BK1097.out)
           have n5_ := Aside0.mk (blk_drew BK1105.out)
           have n6_ := Aside0.mk (blk_drew BK1113.out)
           have n7_ := Aside0.mk (below_drew1 HB.out)
           clear HO_1106000
           clear HO_1106001
           clear HO_1114000
           clear HO_1114001
           clear BK1097
           clear BK1105
           clear BK1113
           clear HB
           have HO_1106000 := n0_
           have HO_1106001 := n1_
           have HO_1114000 := n2_
           have HO_1114001 := n3_
           have BK1097 := n4_
           have BK1105 := n5_
           have BK1113 := n6_
           have HB := n7_
           clear n0_ n1_ n2_ n3_ n4_ n5_ n6_ n7_
           refine start_ (n := 7) (S := fun w' => w'.cell? ⟨gb1113, 0, none⟩ = some (.slice Ao20 t1106.length co20) ∧ w'.cell? ⟨gb1113, 1, none⟩ = some (.slice Ao24 t1109.length co24) ∧ w'.cell? ⟨gb1105, 0, none⟩ = some (.slice Ao14 t1099.length co14) ∧ w'.cell? ⟨gb1105, 1, none⟩ = some (.slice Ao17 t1102.length co17)) (ds := []) #[false, false, false, false, false, false, false] zK rfl rfl ⟨(blk_cell BK1113.out 0).trans rfl, (blk_cell BK1113.out 1).trans rfl, (blk_cell BK1105.out 0).trans rfl, (blk_cell BK1105.out 1).trans rfl⟩ (fun hHeld => ?_)
           generalize wr.drew = w65 at HO_1106000 HO_1106001 HO_1114000 HO_1114001 BK1097 BK1105 BK1113 HB hHeld ⊢
           refine pure_ (i := 1) (N := some 65) (v := ?_) (a' := ?_) #[false, true, false, false, false, false, false] rfl rfl zK (fun _ _ _ h => h) (Or.inl ⟨by rfl, ?_⟩) ?_ ?_
           rotate_left
           ·intro w'
            go_simp
            with_reducible rfl
           rotate_left
           ·simp only [Act.put, List.setIfInBounds_toArray, List.set_cons_zero, List.set_cons_succ, i64_w, i32_w]
            rfl
           refine pure_ (i := 4) (N := some 68) (v := ?_) (a' := ?_) #[false, true, false, false, true, false, false] rfl rfl zK (fun _ _ _ h => h) (Or.inl ⟨by rfl, ?_⟩) ?_ ?_
           rotate_left
           ·intro w'
            go_simp
            with_reducible rfl
           rotate_left
           ·simp only [Act.put, List.setIfInBounds_toArray, List.set_cons_zero, List.set_cons_succ, i64_w, i32_w]
            rfl
           refine take_ (i := 0) (N := some 64) (v := ?_) (a' := ?_) #[true, true, false, false, true, false, false] rfl rfl zK (fun _ _ _ h => h) (Or.inl ⟨by rfl, ?_⟩) hHeld ?_ ?_
           rotate_left
           ·rintro w' ⟨s0, s1, s2, s3⟩
            go_simp
            with_reducible rfl
           rotate_left
           ·simp only [Act.put, List.setIfInBounds_toArray, List.set_cons_zero, List.set_cons_succ, i64_w, i32_w]
            rfl
           refine take_ (i := 3) (N := some 67) (v := ?_) (a' := ?_) #[true, true, false, true, true, false, false] rfl rfl zK (fun _ _ _ h => h) (Or.inl ⟨by rfl, ?_⟩) hHeld ?_ ?_
           rotate_left
           ·rintro w' ⟨s0, s1, s2, s3⟩
            go_simp
            with_reducible rfl
           rotate_left
           ·simp only [Act.put, List.setIfInBounds_toArray, List.set_cons_zero, List.set_cons_succ, i64_w, i32_w]
            rfl
           refine one_ (i := 2) (N := some 66) #[true, true, true, true, true, false, false] rfl rfl zK (by decide) (fun K hK => ?_)
           refine goes_ Try.func29 zK rfl #[.agg #[.slice Ao20 t1106.length co20, .slice Ao24 t1109.length co24], .int .i64 t1118] (by rfl) rfl rfl zM ?_
           with_reducible refine (ancepsref38_Holds.calls k3 _ _ t1106 _ _ t1109 t1118 t1119 _ ?side1 ?side2 ?side3 ?side4 A59.out).mono ?_
           (case side1 => repeat (first | exact (Kd.R_reads' HO_1114000.out).2.2 | (with_reducible refine Kd.C_alloc ?_ _) | (with_reducible refine Kd.C_drewN ?_ _) | (with_reducible refine Kd.C_drew ?_)))
           (case side2 => exact (Kd.R_reads' HO_1114000.out).2.1)
           (case side3 => repeat (first | exact (Kd.R_reads' HO_1114001.out).2.2 | (with_reducible refine Kd.C_alloc ?_ _) | (with_reducible refine Kd.C_drewN ?_ _) | (with_reducible refine Kd.C_drew ?_)))
           (case side4 => exact (Kd.R_reads' HO_1114001.out).2.1)
           rintro e w66 ⟨rfl, hb⟩
           refine ⟨_, rfl, ?_⟩
           have n0_ := Aside0.mk (Kd.R_below (zR HO_1106000) hb)
           have n1_ := Aside0.mk (Kd.R_below (zR HO_1106001) hb)
           have n2_ := Aside0.mk (Kd.R_below (zR HO_1114000) hb)
           have n3_ := Aside0.mk (Kd.R_below (zR HO_1114001) hb)
           have n4_ := Aside0.mk (blk_below (g := gb1097) (o := .cells #[.int .u32 a0_0, .int .u64 a0_1] 25 (0, 0)) (zk BK1097) hb)
           have n5_ := Aside0.mk (blk_below (g := gb1105) (o := .cells #[.slice Ao14 t1099.length co14, .slice Ao17 t1102.length co17] 29 (0, 0)) (zk BK1105) hb)
           have n6_ := Aside0.mk (blk_below (g := gb1113) (o := .cells #[.slice Ao20 t1106.length co20, .slice Ao24 t1109.length co24] 29 (0, 0)) (zk BK1113) hb)
           have n7_ := Aside0.mk (below_step zB hb)
           clear HO_1106000
           clear HO_1106001
           clear HO_1114000
           clear HO_1114001
           clear BK1097
           clear BK1105
           clear BK1113
           clear HB
           have HO_1106000 := n0_
           have HO_1106001 := n1_
           have HO_1114000 := n2_
           have HO_1114001 := n3_
           have BK1097 := n4_
           have BK1105 := n5_
           have BK1113 := n6_
           have HB := n7_
           clear n0_ n1_ n2_ n3_ n4_ n5_ n6_ n7_
           (try clear hb)
           (try clear hb2)
           (try clear hk)
           (try clear hi)
           refine hK.out _ _ ⟨(blk_cell BK1113.out 0).trans rfl, (blk_cell BK1113.out 1).trans rfl, (blk_cell BK1105.out 0).trans rfl, (blk_cell BK1105.out 1).trans rfl⟩ (fun hHeld => ?_)
           clear hK K
           refine norm_ (a' := ?_) ?_ ?_
           rotate_left
           ·show Act.put _ (some 66) _ = _
            simp only [Act.put, List.setIfInBounds_toArray, List.set_cons_zero, List.set_cons_succ, i64_w, i32_w]
            rfl
           refine one_ (i := 5) (N := some 69) #[true, true, true, true, true, true, false] rfl rfl zK (by decide) (fun K hK => ?_)
           refine goes_ Try.func29 zK rfl #[.agg #[.slice Ao14 t1099.length co14, .slice Ao17 t1102.length co17], .int .i64 t1118] (by rfl) rfl rfl zM ?_
           with_reducible refine (ancepsref38_Holds.calls k3 _ _ t1099 _ _ t1102 t1118 t1120 _ ?side1 ?side2 ?side3 ?side4 A60.out).mono ?_
           (case side1 => repeat (first | exact (Kd.R_reads' HO_1106000.out).2.2 | (with_reducible refine Kd.C_alloc ?_ _) | (with_reducible refine Kd.C_drewN ?_ _) | (with_reducible refine Kd.C_drew ?_)))
           (case side2 => exact (Kd.R_reads' HO_1106000.out).2.1)
           (case side3 => repeat (first | exact (Kd.R_reads' HO_1106001.out).2.2 | (with_reducible refine Kd.C_alloc ?_ _) | (with_reducible refine Kd.C_drewN ?_ _) | (with_reducible refine Kd.C_drew ?_)))
           (case side4 => exact (Kd.R_reads' HO_1106001.out).2.1)
           rintro e w67 ⟨rfl, hb⟩
           refine ⟨_, rfl, ?_⟩
           have n0_ := Aside0.mk (Kd.R_below (zR HO_1106000) hb)
           have n1_ := Aside0.mk (Kd.R_below (zR HO_1106001) hb)
           have n2_ := Aside0.mk (Kd.R_below (zR HO_1114000) hb)
           have n3_ := Aside0.mk (Kd.R_below (zR HO_1114001) hb)
           have n4_ := Aside0.mk (blk_below (g := gb1097) (o := .cells #[.int .u32 a0_0, .int .u64 a0_1] 25 (0, 0)) (zk BK1097) hb)
           have n5_ := Aside0.mk (blk_below (g := gb1105) (o := .cells #[.slice Ao14 t1099.length co14, .slice Ao17 t1102.length co17] 29 (0, 0)) (zk BK1105) hb)
           have n6_ := Aside0.mk (blk_below (g := gb1113) (o := .cells #[.slice Ao20 t1106.length co20, .slice Ao24 t1109.length co24] 29 (0, 0)) (zk BK1113) hb)
           have n7_ := Aside0.mk (below_step zB hb)
           clear HO_1106000
           clear HO_1106001
           clear HO_1114000
           clear HO_1114001
           clear BK1097
           clear BK1105
           clear BK1113
           clear HB
           have HO_1106000 := n0_
           have HO_1106001 := n1_
           have HO_1114000 := n2_
           have HO_1114001 := n3_
           have BK1097 := n4_
           have BK1105 := n5_
           have BK1113 := n6_
           have HB := n7_
           clear n0_ n1_ n2_ n3_ n4_ n5_ n6_ n7_
           (try clear hb)
           (try clear hb2)
           (try clear hk)
           (try clear hi)
           refine hK.out _ _ ⟨(blk_cell BK1113.out 0).trans rfl, (blk_cell BK1113.out 1).trans rfl, (blk_cell BK1105.out 0).trans rfl, (blk_cell BK1105.out 1).trans rfl⟩ (fun hHeld => ?_)
           clear hK K
           refine norm_ (a' := ?_) ?_ ?_
           rotate_left
           ·show Act.put _ (some 69) _ = _
            simp only [Act.put, List.setIfInBounds_toArray, List.set_cons_zero, List.set_cons_succ, i64_w, i32_w]
            rfl
           refine pure_ (i := 6) (N := some 70) (v := ?_) (a' := ?_) #[true, true, true, true, true, true, true] rfl rfl zK (fun _ _ _ h => h) (Or.inl ⟨by rfl, ?_⟩) ?_ ?_
           rotate_left
           ·intro w'
            go_simp
            with_reducible rfl
           rotate_left
           ·simp only [Act.put, List.setIfInBounds_toArray, List.set_cons_zero, List.set_cons_succ, i64_w, i32_w]
            rfl
           refine done_ zK ?_
           go_upto_if 70 with (fail)
           (try simp only [Act.put, List.setIfInBounds_toArray, List.set_cons_zero, List.set_cons_succ])
           have H := HC61.out
           clear HC61
           by_cases c68 : (t1119 != t1120) = true
           ·rw [if_pos c68] at H
            have c68b0 : (t1119 != t1120) = true := c68
            (try (have c68b1 : decide (t1119 = t1120) = false := by simpa using c68))
            (try (have c68b2 : (t1119 == t1120) = false := by simpa using c68))
            (try (have c68b3 : ¬ (t1119 = t1120) := by simpa using c68))
            clear c68
            (first | rw [c68b0] | (simp only [i64_w, i32_w]; rw [c68b0]) | skip)
            (try rw [c68b1])
            (try rw [c68b2])
            (try rw [c68b3])
            obtain rfl := Option.some.inj H
            go_wp2
            go_ret
            exact ⟨by first | rfl | (simp [errW_none, errW_some] <;> rfl) | (simp only [← hji53]; first | rfl | (simp [errW_none, errW_some] <;> rfl)) | (simp [*, errW_none, errW_some] <;> rfl), by repeat (first | (with_reducible first | exact HB.out | apply below_alloc | apply pw_below_drewN | apply below_drew1 | refine below_set ?_ GE1097.out | refine below_set ?_ GE1105.out | refine below_set ?_ GE1113.out) | exact HB.out)⟩
           ·rw [if_neg c68] at H
            have c68b0 : (t1119 != t1120) = false := by simpa using c68
            (try (have c68b1 : decide (t1119 = t1120) = true := by simpa using c68))
            (try (have c68b2 : (t1119 == t1120) = true := by simpa using c68))
            clear c68
            (first | rw [c68b0] | (simp only [i64_w, i32_w]; rw [c68b0]) | skip)
            (try rw [c68b1])
            (try rw [c68b2])
            have H' := Aside0.mk H
            clear H
            go_wp2
            go_roundg k3
            case measure => have := HJ9.out; have := HK2.out; have := HK3.out; omega
            case rel => exact ⟨(wrap64 (x57_3 + 1)), zT, H', ⟨by have := HJ9.out; have := HK2.out; have := HK3.out; omega⟩, ⟨by (with_reducible repeat (first | apply Kd.R_alloc | apply Kd.R_drewN | apply Kd.R_drew)); exact HO_1106000.out⟩, ⟨by (with_reducible repeat (first | apply Kd.R_alloc | apply Kd.R_drewN | apply Kd.R_drew)); exact HO_1106001.out⟩, ⟨by (with_reducible repeat (first | apply Kd.R_alloc | apply Kd.R_drewN | apply Kd.R_drew)); exact HO_1114000.out⟩, ⟨by (with_reducible repeat (first | apply Kd.R_alloc | apply Kd.R_drewN | apply Kd.R_drew)); exact HO_1114001.out⟩, ⟨by (with_reducible repeat (first | refine blk_drewN ?_ _ | refine blk_drew ?_ | refine blk_alloc ?_ _)); exact BK1097.out⟩, ⟨by (with_reducible repeat (first | refine blk_drewN ?_ _ | refine blk_drew ?_ | refine blk_alloc ?_ _)); exact BK1105.out⟩, ⟨by (with_reducible repeat (first | refine blk_drewN ?_ _ | refine blk_drew ?_ | refine blk_alloc ?_ _)); exact BK1113.out⟩, ⟨by repeat (first | (with_reducible first | exact HB.out | apply below_alloc | apply pw_below_drewN | apply below_drew1 | refine below_set ?_ GE1097.out | refine below_set ?_ GE1105.out | refine below_set ?_ GE1113.out) | exact HB.out)⟩⟩
          ·rw [if_neg c57] at H
           have c57b0 : decide (x57_3 < ji53) = false := decide_eq_false c57
           clear c57
           have H' := Aside0.mk H
           clear H
           go_wp2
           go_loopg [12, 72] k3 (fun kq v12 v72 w' => ∃ (x12_4 : List Int) (x72_4 : Int), v72 = .int .i64 x72_4 ∧ Aside0 (ancepslaw38_TableVital.l2 kq a1 x12_4 x72_4 t1099 t1102 t1106 t1109 = some r) ∧ Aside0 (kq ≤ k3) ∧ Aside0 (Kd.R (Kd.int .i64) 3 w' w.heap.size (fun k_ => some k_ ≠ ((.slice Ao14 t1099.length co14) : Value).ownBlock ∧ some k_ ≠ ((.slice Ao17 t1102.length co17) : Value).ownBlock ∧ some k_ ≠ ((.slice Ao20 t1106.length co20) : Value).ownBlock ∧ some k_ ≠ ((.slice Ao24 t1109.length co24) : Value).ownBlock) v12 x12_4) ∧ Aside0 (Kd.R (Kd.int .i64) 3 w' w.heap.size (fun k_ => some k_ ≠ (v12 : Value).ownBlock ∧ some k_ ≠ ((.slice Ao17 t1102.length co17) : Value).ownBlock ∧ some k_ ≠ ((.slice Ao20 t1106.length co20) : Value).ownBlock ∧ some k_ ≠ ((.slice Ao24 t1109.length co24) : Value).ownBlock) (.slice Ao14 t1099.length co14) t1099) ∧ Aside0 (Kd.R (Kd.int .i64) 3 w' w.heap.size (fun k_ => some k_ ≠ (v12 : Value).ownBlock ∧ some k_ ≠ ((.slice Ao14 t1099.length co14) : Value).ownBlock ∧ some k_ ≠ ((.slice Ao20 t1106.length co20) : Value).ownBlock ∧ some k_ ≠ ((.slice Ao24 t1109.length co24) : Value).ownBlock) (.slice Ao17 t1102.length co17) t1102) ∧ Aside0 (Kd.R (Kd.int .i64) 3 w' w.heap.size (fun k_ => some k_ ≠ (v12 : Value).ownBlock ∧ some k_ ≠ ((.slice Ao14 t1099.length co14) : Value).ownBlock ∧ some k_ ≠ ((.slice Ao17 t1102.length co17) : Value).ownBlock ∧ some k_ ≠ ((.slice Ao24 t1109.length co24) : Value).ownBlock) (.slice Ao20 t1106.length co20) t1106) ∧ Aside0 (Kd.R (Kd.int .i64) 3 w' w.heap.size (fun k_ => some k_ ≠ (v12 : Value).ownBlock ∧ some k_ ≠ ((.slice Ao14 t1099.length co14) : Value).ownBlock ∧ some k_ ≠ ((.slice Ao17 t1102.length co17) : Value).ownBlock ∧ some k_ ≠ ((.slice Ao20 t1106.length co20) : Value).ownBlock) (.slice Ao24 t1109.length co24) t1109) ∧ Aside0 (w'.heap[gb1097]? = some (.cells #[.int .u32 a0_0, .int .u64 a0_1] 25 (0, 0))) ∧ Aside0 (w'.heap[gb1105]? = some (.cells #[(.slice Ao14 t1099.length co14), (.slice Ao17 t1102.length co17)] 29 (0, 0))) ∧ Aside0 (w'.heap[gb1113]? = some (.cells #[(.slice Ao20 t1106.length co20), (.slice Ao24 t1109.length co24)] 29 (0, 0))) ∧ Aside0 (Below w.heap.size w w'))
           case atStart => exact ⟨(([] : List Int)), (0), zT, H', ⟨Nat.le_refl _⟩, ⟨by first | exact Kd.R_nil _ _ _ _ _ | exact Kd.N_nil _ _ _ _ _ | exact Kd.V_nil _ _ _ _ _ | exact Kd.Q_nil _ _ _ _ _ | exact Kd.S_nil _ _ _ _ _⟩, ⟨by (with_reducible repeat (first | apply Kd.R_alloc | apply Kd.R_drewN | apply Kd.R_drew)); exact Kd.R_mono HO_1106000.out (fun _ hk => ⟨(by simp [Value.ownBlock]), ⟨hk.1, ⟨hk.2.1, hk.2.2⟩⟩⟩)⟩, ⟨by (with_reducible repeat (first | apply Kd.R_alloc | apply Kd.R_drewN | apply Kd.R_drew)); exact Kd.R_mono HO_1106001.out (fun _ hk => ⟨(by simp [Value.ownBlock]), ⟨hk.1, ⟨hk.2.1, hk.2.2⟩⟩⟩)⟩, ⟨by (with_reducible repeat (first | apply Kd.R_alloc | apply Kd.R_drewN | apply Kd.R_drew)); exact Kd.R_mono HO_1114000.out (fun _ hk => ⟨(by simp [Value.ownBlock]), ⟨hk.1, ⟨hk.2.1, hk.2.2⟩⟩⟩)⟩, ⟨by (with_reducible repeat (first | apply Kd.R_alloc | apply Kd.R_drewN | apply Kd.R_drew)); exact Kd.R_mono HO_1114001.out (fun _ hk => ⟨(by simp [Value.ownBlock]), ⟨hk.1, ⟨hk.2.1, hk.2.2⟩⟩⟩)⟩, ⟨by (with_reducible repeat (first | refine blk_drewN ?_ _ | refine blk_drew ?_ | refine blk_alloc ?_ _)); exact BK1097.out⟩, ⟨by (with_reducible repeat (first | refine blk_drewN ?_ _ | refine blk_drew ?_ | refine blk_alloc ?_ _)); exact BK1105.out⟩, ⟨by (with_reducible repeat (first | refine blk_drewN ?_ _ | refine blk_drew ?_ | refine blk_alloc ?_ _)); exact BK1113.out⟩, ⟨by repeat (first | (with_reducible first | exact HB.out | apply below_alloc | apply pw_below_drewN | apply below_drew1 | refine below_set ?_ GE1097.out | refine below_set ?_ GE1105.out | refine below_set ?_ GE1113.out) | exact HB.out)⟩⟩
           case round =>
            clear H'
            try clear c7
            try clear c31
            try clear c35
            try clear c35b0
            try clear c57
            try clear c57b0
            try clear hcz11_0
            try clear hcz11_1
            try clear hcz16_0
            try clear hcz16_1
            try clear hcz23_0
            try clear hcz23_1
            try clear hcz34_0
            try clear hcz34_1
            try clear hcz56_0
            try clear hcz56_1
            try clear hfz11_0
            try clear hfz11_1
            try clear hfz16_0
            try clear hfz16_1
            try clear hfz23_0
            try clear hfz23_1
            try clear hfz34_0
            try clear hfz34_1
            try clear hfz56_0
            try clear hfz56_1
            obtain ⟨x12_4, x72_4, rfl, HA, HK4, HO_12, HO_1106000, HO_1106001, HO_1114000, HO_1114001, BK1097, BK1105, BK1113, HB⟩ := hrel
            cases gk with
            | zero => exact absurd HA.out (by simp [ancepslaw38_TableVital.l2])
            | succ k4 =>
             have H := HA.out
             clear HA
             simp only [ancepslaw38_TableVital.l2] at H
             by_cases c69 : x72_4 < 24
             ·rw [if_pos c69] at H
              have c69b0 : decide (x72_4 < 24) = true := decide_eq_true c69
              clear c69
              by_cases c70 : 0 ≤ x72_4
              ·rw [if_pos c70] at H
               have c70b0 := eq_true c70
               have c70b1 : decide (0 ≤ x72_4) = true := decide_eq_true c70
               clear c70
               obtain ⟨ji71, hji71⟩ : ∃ j_ : Int, (shr .u32 a1 x72_4) = j_ := ⟨_, rfl⟩
               replace H : (if (Go.bits .and .u32 (ji71) 1) = 1 then (if (x12_4.length : Int) < 4 then (if x12_4.length < 17592186044416 then (ancepslaw38_TableVital.l2 k4 a1 (x12_4 ++ [x72_4]) (wrap64 (x72_4 + 1)) t1099 t1102 t1106 t1109) else (none)) else (ancepslaw38_TableVital.l2 k4 a1 x12_4 (wrap64 (x72_4 + 1)) t1099 t1102 t1106 t1109)) else (ancepslaw38_TableVital.l2 k4 a1 x12_4 (wrap64 (x72_4 + 1)) t1099 t1102 t1106 t1109)) = some r := by first | (rw [hji71] at H; exact H) | (simp only [hji71] at H ⊢; exact H)
               have hji71_ : (a1 / 2 ^ min x72_4.toNat 32) = ji71 := hji71
               have hji71z : x72_4 ≤ 32 → (a1 / 2 ^ x72_4.toNat) = ji71 := shr_small hji71
               by_cases c72 : (Go.bits .and .u32 (ji71) 1) = 1
               ·rw [if_pos c72] at H
                have c72b0 : ((Go.bits .and .u32 (ji71) 1) == 1) = true := beq_iff_eq.mpr c72
                have c72b1 : ((Go.bits .and .u32 (ji71) 1) != 1) = false := bne_eq_false_iff_eq.mpr c72
                clear c72
                by_cases c73 : (x12_4.length : Int) < 4
                ·rw [if_pos c73] at H
                 have c73b0 : decide ((x12_4.length : Int) < 4) = true := decide_eq_true c73
                 have c73b1 : decide (x12_4.length < 4) = true := decide_eq_true (by omega)
                 clear c73
                 by_cases c74 : x12_4.length < 17592186044416
                 ·rw [if_pos c74] at H
                  have LMc74 := Aside0.mk c74
                  clear c74
                  obtain ⟨y1121, hy1121⟩ : ∃ y_ : List Int, y_ = (x12_4 ++ [x72_4]) := ⟨_, rfl⟩
                  replace H : (ancepslaw38_TableVital.l2 k4 a1 y1121 (wrap64 (x72_4 + 1)) t1099 t1102 t1106 t1109) = some r := by first | (rw [hy1121]; with_reducible exact H) | (have H2_ := (Option.bind_some _ _).symm.trans H; rw [hy1121]; with_reducible exact H2_) | (have H2_ := (Option.bind_some _ _).symm.trans H; with_reducible exact H2_) | with_reducible exact H | (rw [hy1121]; exact H) | exact H
                  have Ny1121 := Aside0.mk hy1121
                  clear hy1121
                  have H' := Aside0.mk H
                  clear H
                  obtain ⟨Ao75, co75, eo75⟩ := Kd.R_slice HO_12.out
                  subst eo75
                  go_wp2_with (first | ((with_reducible refine gate_builtin (b := .append) (xs := #[.tmp 85, .tmp 87]) rfl ?_); (try (refine gate_guard (by rfl) ?_; dsimp only)); at_builtin; refine Kd.R_append (Kd.int .i64) (w0 := w) w.heap.size rfl (.tmp 85) (.tmp 87) 27 3 (.int .i64 0) 8 rfl Try.underlying27 info3 rfl (by decide) (by omega) (.slice Ao75 x12_4.length co75) x12_4 x72_4 [.int .i64 x72_4] (fun k_ => some k_ ≠ (.slice Ao14 t1099.length co14 : Value).ownBlock ∧ some k_ ≠ (.slice Ao17 t1102.length co17 : Value).ownBlock ∧ some k_ ≠ (.slice Ao20 t1106.length co20 : Value).ownBlock ∧ some k_ ≠ (.slice Ao24 t1109.length co24 : Value).ownBlock) (fun _ => False) rfl rfl ?aP (fun _ hk => hk.elim) ?aF ?aO ?aB ?aS ?aL ?_; (case aP => exact rfl); (case aB => exact zB); (case aF => exact (fun k_ hk => ⟨Kd.fresh' (Kd.R_lt (zR HO_1106000)) k_ hk, Kd.fresh' (Kd.R_lt (zR HO_1106001)) k_ hk, Kd.fresh' (Kd.R_lt (zR HO_1114000)) k_ hk, Kd.fresh' (Kd.R_lt (zR HO_1114001)) k_ hk⟩)); (case aO => exact (zR HO_12)); (case aS => exact (below_size zB)); (case aL => have := LMc74.out; omega); intro v1122 w76 ho hb hg hat; rw [← Ny1121.out] at ho; have n0_ := Aside0.mk (Kd.R_after (ok := (fun k_ => some k_ ≠ (.slice Ao17 t1102.length co17 : Value).ownBlock ∧ some k_ ≠ (.slice Ao20 t1106.length co20 : Value).ownBlock ∧ some k_ ≠ (.slice Ao24 t1109.length co24 : Value).ownBlock)) (by (with_reducible repeat (first | apply Kd.R_alloc | apply Kd.R_drewN | apply Kd.R_drew)); exact Kd.R_mono HO_1106000.out (fun _ hk => ⟨⟨hk.2.1, ⟨hk.2.2.1, hk.2.2.2⟩⟩, hk.1⟩)) hg hat); have n1_ := Aside0.mk (Kd.R_after (ok := (fun k_ => some k_ ≠ (.slice Ao14 t1099.length co14 : Value).ownBlock ∧ some k_ ≠ (.slice Ao20 t1106.length co20 : Value).ownBlock ∧ some k_ ≠ (.slice Ao24 t1109.length co24 : Value).ownBlock)) (by (with_reducible repeat (first | apply Kd.R_alloc | apply Kd.R_drewN | apply Kd.R_drew)); exact Kd.R_mono HO_1106001.out (fun _ hk => ⟨⟨hk.2.1, ⟨hk.2.2.1, hk.2.2.2⟩⟩, hk.1⟩)) hg hat); have n2_ := Aside0.mk (Kd.R_after (ok := (fun k_ => some k_ ≠ (.slice Ao14 t1099.length co14 : Value).ownBlock ∧ some k_ ≠ (.slice Ao17 t1102.length co17 : Value).ownBlock ∧ some k_ ≠ (.slice Ao24 t1109.length co24 : Value).ownBlock)) (by (with_reducible repeat (first | apply Kd.R_alloc | apply Kd.R_drewN | apply Kd.R_drew)); exact Kd.R_mono HO_1114000.out (fun _ hk => ⟨⟨hk.2.1, ⟨hk.2.2.1, hk.2.2.2⟩⟩, hk.1⟩)) hg hat); have n3_ := Aside0.mk (Kd.R_after (ok := (fun k_ => some k_ ≠ (.slice Ao14 t1099.length co14 : Value).ownBlock ∧ some k_ ≠ (.slice Ao17 t1102.length co17 : Value).ownBlock ∧ some k_ ≠ (.slice Ao20 t1106.length co20 : Value).ownBlock)) (by (with_reducible repeat (first | apply Kd.R_alloc | apply Kd.R_drewN | apply Kd.R_drew)); exact Kd.R_mono HO_1114001.out (fun _ hk => ⟨⟨hk.2.1, ⟨hk.2.2.1, hk.2.2.2⟩⟩, hk.1⟩)) hg hat); have n4_ := Aside0.mk (blk_grown (g := gb1097) (o := .cells #[.int .u32 a0_0, .int .u64 a0_1] 25 (0, 0)) (zk BK1097) hg (Kd.R_ne HO_12.out BK1097.out (by decide))); have n5_ := Aside0.mk (blk_grown (g := gb1105) (o := .cells #[.slice Ao14 t1099.length co14, .slice Ao17 t1102.length co17] 29 (0, 0)) (zk BK1105) hg (Kd.R_ne HO_12.out BK1105.out (by decide))); have n6_ := Aside0.mk (blk_grown (g := gb1113) (o := .cells #[.slice Ao20 t1106.length co20, .slice Ao24 t1109.length co24] 29 (0, 0)) (zk BK1113) hg (Kd.R_ne HO_12.out BK1113.out (by decide))); have n7_ := Aside0.mk (hb); have n8_ := Aside0.mk (ho); clear HO_1106000; clear HO_1106001; clear HO_1114000; clear HO_1114001; clear BK1097; clear BK1105; clear BK1113; clear HB; clear HO_12; have HO_1106000 := n0_; have HO_1106001 := n1_; have HO_1114000 := n2_; have HO_1114001 := n3_; have BK1097 := n4_; have BK1105 := n5_; have BK1113 := n6_; have HB := n7_; have HO1123 := n8_; clear n0_ n1_ n2_ n3_ n4_ n5_ n6_ n7_ n8_; clear ho hb hg hat))
                  go_roundg k4
                  case measure => have := HJ9.out; have := HK2.out; have := HK3.out; have := HK4.out; omega
                  case rel => exact ⟨(y1121), (wrap64 (x72_4 + 1)), zT, H', ⟨by have := HJ9.out; have := HK2.out; have := HK3.out; have := HK4.out; omega⟩, ⟨by (with_reducible repeat (first | apply Kd.R_alloc | apply Kd.R_drewN | apply Kd.R_drew)); exact HO1123.out⟩, ⟨by (with_reducible repeat (first | apply Kd.R_alloc | apply Kd.R_drewN | apply Kd.R_drew)); exact Kd.R_mono HO_1106000.out (fun _ hk => ⟨hk.2, ⟨hk.1.1, ⟨hk.1.2.1, hk.1.2.2⟩⟩⟩)⟩, ⟨by (with_reducible repeat (first | apply Kd.R_alloc | apply Kd.R_drewN | apply Kd.R_drew)); exact Kd.R_mono HO_1106001.out (fun _ hk => ⟨hk.2, ⟨hk.1.1, ⟨hk.1.2.1, hk.1.2.2⟩⟩⟩)⟩, ⟨by (with_reducible repeat (first | apply Kd.R_alloc | apply Kd.R_drewN | apply Kd.R_drew)); exact Kd.R_mono HO_1114000.out (fun _ hk => ⟨hk.2, ⟨hk.1.1, ⟨hk.1.2.1, hk.1.2.2⟩⟩⟩)⟩, ⟨by (with_reducible repeat (first | apply Kd.R_alloc | apply Kd.R_drewN | apply Kd.R_drew)); exact Kd.R_mono HO_1114001.out (fun _ hk => ⟨hk.2, ⟨hk.1.1, ⟨hk.1.2.1, hk.1.2.2⟩⟩⟩)⟩, ⟨by (with_reducible repeat (first | refine blk_drewN ?_ _ | refine blk_drew ?_ | refine blk_alloc ?_ _)); exact BK1097.out⟩, ⟨by (with_reducible repeat (first | refine blk_drewN ?_ _ | refine blk_drew ?_ | refine blk_alloc ?_ _)); exact BK1105.out⟩, ⟨by (with_reducible repeat (first | refine blk_drewN ?_ _ | refine blk_drew ?_ | refine blk_alloc ?_ _)); exact BK1113.out⟩, ⟨by repeat (first | (with_reducible first | exact HB.out | apply below_alloc | apply pw_below_drewN | apply below_drew1 | refine below_set ?_ GE1097.out | refine below_set ?_ GE1105.out | refine below_set ?_ GE1113.out) | exact HB.out)⟩⟩
                 ·rw [if_neg c74] at H
                  exact absurd H (by simp)
                ·rw [if_neg c73] at H
                 have c73b0 : decide ((x12_4.length : Int) < 4) = false := decide_eq_false c73
                 have c73b1 : decide (x12_4.length < 4) = false := decide_eq_false (by omega)
                 clear c73
                 have H' := Aside0.mk H
                 clear H
                 obtain ⟨Ao77, co77, eo77⟩ := Kd.R_slice HO_12.out
                 subst eo77
                 go_wp2
                 go_roundg k4
                 case measure => have := HJ9.out; have := HK2.out; have := HK3.out; have := HK4.out; omega
                 case rel => exact ⟨(x12_4), (wrap64 (x72_4 + 1)), zT, H', ⟨by have := HJ9.out; have := HK2.out; have := HK3.out; have := HK4.out; omega⟩, ⟨by (with_reducible repeat (first | apply Kd.R_alloc | apply Kd.R_drewN | apply Kd.R_drew)); exact HO_12.out⟩, ⟨by (with_reducible repeat (first | apply Kd.R_alloc | apply Kd.R_drewN | apply Kd.R_drew)); exact HO_1106000.out⟩, ⟨by (with_reducible repeat (first | apply Kd.R_alloc | apply Kd.R_drewN | apply Kd.R_drew)); exact HO_1106001.out⟩, ⟨by (with_reducible repeat (first | apply Kd.R_alloc | apply Kd.R_drewN | apply Kd.R_drew)); exact HO_1114000.out⟩, ⟨by (with_reducible repeat (first | apply Kd.R_alloc | apply Kd.R_drewN | apply Kd.R_drew)); exact HO_1114001.out⟩, ⟨by (with_reducible repeat (first | refine blk_drewN ?_ _ | refine blk_drew ?_ | refine blk_alloc ?_ _)); exact BK1097.out⟩, ⟨by (with_reducible repeat (first | refine blk_drewN ?_ _ | refine blk_drew ?_ | refine blk_alloc ?_ _)); exact BK1105.out⟩, ⟨by (with_reducible repeat (first | refine blk_drewN ?_ _ | refine blk_drew ?_ | refine blk_alloc ?_ _)); exact BK1113.out⟩, ⟨by repeat (first | (with_reducible first | exact HB.out | apply below_alloc | apply pw_below_drewN | apply below_drew1 | refine below_set ?_ GE1097.out | refine below_set ?_ GE1105.out | refine below_set ?_ GE1113.out) | exact HB.out)⟩⟩
               ·rw [if_neg c72] at H
                have c72b0 : ((Go.bits .and .u32 (ji71) 1) == 1) = false := beq_eq_false_iff_ne.mpr c72
                have c72b1 : ((Go.bits .and .u32 (ji71) 1) != 1) = true := bne_iff_ne.mpr c72
                have H' := Aside0.mk H
                clear H
                go_wp2
                go_roundg k4
                case measure => have := HJ9.out; have := HK2.out; have := HK3.out; have := HK4.out; omega
                case rel => exact ⟨(x12_4), (wrap64 (x72_4 + 1)), zT, H', ⟨by have := HJ9.out; have := HK2.out; have := HK3.out; have := HK4.out; omega⟩, ⟨by (with_reducible repeat (first | apply Kd.R_alloc | apply Kd.R_drewN | apply Kd.R_drew)); exact HO_12.out⟩, ⟨by (with_reducible repeat (first | apply Kd.R_alloc | apply Kd.R_drewN | apply Kd.R_drew)); exact HO_1106000.out⟩, ⟨by (with_reducible repeat (first | apply Kd.R_alloc | apply Kd.R_drewN | apply Kd.R_drew)); exact HO_1106001.out⟩, ⟨by (with_reducible repeat (first | apply Kd.R_alloc | apply Kd.R_drewN | apply Kd.R_drew)); exact HO_1114000.out⟩, ⟨by (with_reducible repeat (first | apply Kd.R_alloc | apply Kd.R_drewN | apply Kd.R_drew)); exact HO_1114001.out⟩, ⟨by (with_reducible repeat (first | refine blk_drewN ?_ _ | refine blk_drew ?_ | refine blk_alloc ?_ _)); exact BK1097.out⟩, ⟨by (with_reducible repeat (first | refine blk_drewN ?_ _ | refine blk_drew ?_ | refine blk_alloc ?_ _)); exact BK1105.out⟩, ⟨by (with_reducible repeat (first | refine blk_drewN ?_ _ | refine blk_drew ?_ | refine blk_alloc ?_ _)); exact BK1113.out⟩, ⟨by repeat (first | (with_reducible first | exact HB.out | apply below_alloc | apply pw_below_drewN | apply below_drew1 | refine below_set ?_ GE1097.out | refine below_set ?_ GE1105.out | refine below_set ?_ GE1113.out) | exact HB.out)⟩⟩
              ·rw [if_neg c70] at H
               exact absurd H (by simp)
             ·rw [if_neg c69] at H
              have c69b0 : decide (x72_4 < 24) = false := decide_eq_false c69
              clear c69
              replace H := Option.bind_eq_some_iff.mp H
              obtain ⟨⟨t1124, t1127, t1130⟩, A780, H⟩ := H
              replace H : ((table_Vital.f k4 t1124 t1127).bind fun bt1132 => (if t1130 = 0 then (if bt1132.2.2 = 0 then ((ancepsref38_Equal.f k4 t1106 t1109 bt1132.1 bt1132.2.1).bind fun t1140 => (some t1140)) else (some false)) else (some false))) = some r := H
              have A78 := Aside0.mk A780
              clear A780
              replace H := Option.bind_eq_some_iff.mp H
              obtain ⟨⟨t1132, t1135, t1138⟩, A790, H⟩ := H
              replace H : (if t1130 = 0 then (if t1138 = 0 then ((ancepsref38_Equal.f k4 t1106 t1109 t1132 t1135).bind fun t1140 => (some t1140)) else (some false)) else (some false)) = some r := H
              have A79 := Aside0.mk A790
              clear A790
              have HC80 := Aside0.mk H
              clear H
              have hnb81 := NB1105_1097.out
              have hnc81 := NB1097_1105.out
              have hnb82 := NB1105_1113.out
              have hnc82 := NB1113_1105.out
              have hcz83_0 : wr.cell? ⟨gb1105, 0, none⟩ = some (.slice Ao14 t1099.length co14) := (blk_cell BK1105.out 0).trans rfl
              have hcz83_1 : wr.cell? ⟨gb1105, 1, none⟩ = some (.slice Ao17 t1102.length co17) := (blk_cell BK1105.out 1).trans rfl
              have hfz83_0 := blk_frozen BK1105.out 0
              have hfz83_1 := blk_frozen BK1105.out 1
              obtain ⟨Ao84, co84, eo84⟩ := Kd.R_slice HO_12.out
              subst eo84
              go_upto_region 29 with (first | ((with_reducible refine gate_callee (f := 40) rfl ?_); refine goesL_ (some 93) rfl rfl Try.func40 zK rfl #[.agg #[.slice Ao14 t1099.length co14, .slice Ao17 t1102.length co17], .slice Ao84 x12_4.length co84] rfl zM ?_; (with_reducible refine (table_Extend.calls k4 _ _ t1099 _ _ t1102 _ _ x12_4 t1124 t1127 t1130 _ ?side1 ?side2 ?side3 ?side4 ?side5 ?side6 A78.out).mono ?_); (case side1 => repeat (first | exact (Kd.R_reads' HO_1106000.out).2.2 | (with_reducible refine Kd.C_alloc ?_ _) | (with_reducible refine Kd.C_drewN ?_ _) | (with_reducible refine Kd.C_drew ?_))); (case side2 => exact (Kd.R_reads' HO_1106000.out).2.1); (case side3 => repeat (first | exact (Kd.R_reads' HO_1106001.out).2.2 | (with_reducible refine Kd.C_alloc ?_ _) | (with_reducible refine Kd.C_drewN ?_ _) | (with_reducible refine Kd.C_drew ?_))); (case side4 => exact (Kd.R_reads' HO_1106001.out).2.1); (case side5 => repeat (first | exact (Kd.R_reads' HO_12.out).2.2 | (with_reducible refine Kd.C_alloc ?_ _) | (with_reducible refine Kd.C_drewN ?_ _) | (with_reducible refine Kd.C_drew ?_))); (case side6 => exact (Kd.R_reads' HO_12.out).2.1); rintro e w85 ⟨v1125, v1128, rfl, ho0, ho1, hb⟩; refine ⟨_, rfl, ?_⟩; have n0_ := Aside0.mk (Kd.R_mono (Kd.R_told (Kd.R_told (Kd.R_old (zR HO_12) hb) (Kd.R_base ho0)) (Kd.R_base ho1)) (fun _ h_ => h_.1)); have n1_ := Aside0.mk (Kd.R_mono (Kd.R_told (Kd.R_told (Kd.R_old (zR HO_1106000) hb) (Kd.R_base ho0)) (Kd.R_base ho1)) (fun _ h_ => h_.1)); have n2_ := Aside0.mk (Kd.R_mono (Kd.R_told (Kd.R_told (Kd.R_old (zR HO_1106001) hb) (Kd.R_base ho0)) (Kd.R_base ho1)) (fun _ h_ => h_.1)); have n3_ := Aside0.mk (Kd.R_mono (Kd.R_told (Kd.R_told (Kd.R_old (zR HO_1114000) hb) (Kd.R_base ho0)) (Kd.R_base ho1)) (fun _ h_ => h_.1)); have n4_ := Aside0.mk (Kd.R_mono (Kd.R_told (Kd.R_told (Kd.R_old (zR HO_1114001) hb) (Kd.R_base ho0)) (Kd.R_base ho1)) (fun _ h_ => h_.1)); have n5_ := Aside0.mk (Kd.R_lower (Kd.R_new' (Kd.R_new' (Kd.R_new' (Kd.R_new' (Kd.R_new' ho0 (Kd.R_lt (zR HO_12))) (Kd.R_lt (zR HO_1106000))) (Kd.R_lt (zR HO_1106001))) (Kd.R_lt (zR HO_1114000))) (Kd.R_lt (zR HO_1114001))) (below_size zB)); have n6_ := Aside0.mk (Kd.R_lower (Kd.R_new' (Kd.R_new' (Kd.R_new' (Kd.R_new' (Kd.R_new' ho1 (Kd.R_lt (zR HO_12))) (Kd.R_lt (zR HO_1106000))) (Kd.R_lt (zR HO_1106001))) (Kd.R_lt (zR HO_1114000))) (Kd.R_lt (zR HO_1114001))) (below_size zB)); have n7_ := Aside0.mk (blk_below (g := gb1097) (o := .cells #[.int .u32 a0_0, .int .u64 a0_1] 25 (0, 0)) (zk BK1097) hb); have n8_ := Aside0.mk (blk_below (g := gb1105) (o := .cells #[.slice Ao14 t1099.length co14, .slice Ao17 t1102.length co17] 29 (0, 0)) (zk BK1105) hb); have n9_ := Aside0.mk (blk_below (g := gb1113) (o := .cells #[.slice Ao20 t1106.length co20, .slice Ao24 t1109.length co24] 29 (0, 0)) (zk BK1113) hb); have n10_ := Aside0.mk (below_step zB hb); clear HO_12; clear HO_1106000; clear HO_1106001; clear HO_1114000; clear HO_1114001; clear BK1097; clear BK1105; clear BK1113; clear HB; have HO_12 := n0_; have HO_1106000 := n1_; have HO_1106001 := n2_; have HO_1114000 := n3_; have HO_1114001 := n4_; have HO1126 := n5_; have HO1129 := n6_; have BK1097 := n7_; have BK1105 := n8_; have BK1113 := n9_; have HB := n10_; clear n0_ n1_ n2_ n3_ n4_ n5_ n6_ n7_ n8_ n9_ n10_; (try clear hb); (try clear hb2); (try clear hk); (try clear hi); (try clear ho0); (try clear ho1)) | ((with_reducible refine gate_dst (N := 14) rfl ?_); (try (refine gate_guard (by rfl) ?_; dsimp only)); refine box_event ?hg (N := 14) ?hd (cs := #[.slice none 0 0, .slice none 0 0]) (t := 29) ?hr ?_; (case hd => rfl); (case hg => rfl); (case hr => first | (go_simp; done) | (go_simp; rfl)); intro gb1131 hg w86 hbox hb; have n0_ := Aside0.mk (Kd.R_below (zR HO_12) hb); have n1_ := Aside0.mk (Kd.R_below (zR HO_1106000) hb); have n2_ := Aside0.mk (Kd.R_below (zR HO_1106001) hb); have n3_ := Aside0.mk (Kd.R_below (zR HO_1114000) hb); have n4_ := Aside0.mk (Kd.R_below (zR HO_1114001) hb); have n5_ := Aside0.mk (Kd.R_below (zR HO1126) hb); have n6_ := Aside0.mk (Kd.R_below (zR HO1129) hb); have n7_ := Aside0.mk (blk_below (g := gb1097) (o := .cells #[.int .u32 a0_0, .int .u64 a0_1] 25 (0, 0)) (zk BK1097) hb); have n8_ := Aside0.mk (blk_below (g := gb1105) (o := .cells #[.slice Ao14 t1099.length co14, .slice Ao17 t1102.length co17] 29 (0, 0)) (zk BK1105) hb); have n9_ := Aside0.mk (blk_below (g := gb1113) (o := .cells #[.slice Ao20 t1106.length co20, .slice Ao24 t1109.length co24] 29 (0, 0)) (zk BK1113) hb); have n10_ := Aside0.mk (below_step zB hb); have n11_ := Aside0.mk (hbox); have n12_ := Aside0.mk ((by rw [hg]; exact (below_size zB) : w.heap.size ≤ gb1131)); have n13_ := Aside0.mk ((by rw [hg]; exact (below_size zB) : w.heap.size ≤ gb1131)); have n14_ := Aside0.mk ((by rw [hg]; exact Nat.ne_of_lt (blk_lt (g := gb1097) (o := .cells #[.int .u32 a0_0, .int .u64 a0_1] 25 (0, 0)) (zk BK1097)) : gb1097 ≠ gb1131)); have n15_ := Aside0.mk ((by rw [hg]; exact Nat.ne_of_gt (blk_lt (g := gb1097) (o := .cells #[.int .u32 a0_0, .int .u64 a0_1] 25 (0, 0)) (zk BK1097)) : gb1131 ≠ gb1097)); have n16_ := Aside0.mk ((by rw [hg]; exact Nat.ne_of_lt (blk_lt (g := gb1105) (o := .cells #[.slice Ao14 t1099.length co14, .slice Ao17 t1102.length co17] 29 (0, 0)) (zk BK1105)) : gb1105 ≠ gb1131)); have n17_ := Aside0.mk ((by rw [hg]; exact Nat.ne_of_gt (blk_lt (g := gb1105) (o := .cells #[.slice Ao14 t1099.length co14, .slice Ao17 t1102.length co17] 29 (0, 0)) (zk BK1105)) : gb1131 ≠ gb1105)); have n18_ := Aside0.mk ((by rw [hg]; exact Nat.ne_of_lt (blk_lt (g := gb1113) (o := .cells #[.slice Ao20 t1106.length co20, .slice Ao24 t1109.length co24] 29 (0, 0)) (zk BK1113)) : gb1113 ≠ gb1131)); have n19_ := Aside0.mk ((by rw [hg]; exact Nat.ne_of_gt (blk_lt (g := gb1113) (o := .cells #[.slice Ao20 t1106.length co20, .slice Ao24 t1109.length co24] 29 (0, 0)) (zk BK1113)) : gb1131 ≠ gb1113)); clear HO_12; clear HO_1106000; clear HO_1106001; clear HO_1114000; clear HO_1114001; clear HO1126; clear HO1129; clear BK1097; clear BK1105; clear BK1113; clear HB; have HO_12 := n0_; have HO_1106000 := n1_; have HO_1106001 := n2_; have HO_1114000 := n3_; have HO_1114001 := n4_; have HO1126 := n5_; have HO1129 := n6_; have BK1097 := n7_; have BK1105 := n8_; have BK1113 := n9_; have HB := n10_; have BK1131 := n11_; have GW1131 := n12_; have GE1131 := n13_; have NB1097_1131 := n14_; have NB1131_1097 := n15_; have NB1105_1131 := n16_; have NB1131_1105 := n17_; have NB1113_1131 := n18_; have NB1131_1113 := n19_; clear n0_ n1_ n2_ n3_ n4_ n5_ n6_ n7_ n8_ n9_ n10_ n11_ n12_ n13_ n14_ n15_ n16_ n17_ n18_ n19_; clear hb hbox hg; obtain ⟨Ao87, co87, eo87⟩ := Kd.R_slice HO1126.out; subst eo87; have hnb88 := NB1131_1097.out; have hnc88 := NB1097_1131.out; have hnb89 := NB1131_1105.out; have hnc89 := NB1105_1131.out; have hnb90 := NB1131_1113.out; have hnc90 := NB1113_1131.out; have hcz91_0 : w86.cell? ⟨gb1131, 0, none⟩ = some (.slice none 0 0) := (blk_cell BK1131.out 0).trans rfl; have hcz91_1 : w86.cell? ⟨gb1131, 1, none⟩ = some (.slice none 0 0) := (blk_cell BK1131.out 1).trans rfl; have hfz91_0 := blk_frozen BK1131.out 0; have hfz91_1 := blk_frozen BK1131.out 1; obtain ⟨Ao92, co92, eo92⟩ := Kd.R_slice HO1129.out; subst eo92) | ((with_reducible refine gate_callee (f := 23) rfl ?_); refine goesL_ (some 98) rfl rfl Try.func23 zK rfl #[.agg #[.slice Ao87 t1124.length co87, .slice Ao92 t1127.length co92]] rfl zM ?_; (with_reducible refine (table_Vital.calls k4 _ _ t1124 _ _ t1127 t1132 t1135 t1138 _ ?side1 ?side2 ?side3 ?side4 A79.out).mono ?_); (case side1 => refine (Kd.R_reads' (e := 3) (base := w.heap.size) (ok := fun k_ => (((((some k_ ≠ (.slice Ao92 t1127.length co92 : Value).ownBlock ∧ some k_ ≠ (.slice Ao84 x12_4.length co84 : Value).ownBlock) ∧ some k_ ≠ (.slice Ao14 t1099.length co14 : Value).ownBlock) ∧ some k_ ≠ (.slice Ao17 t1102.length co17 : Value).ownBlock) ∧ some k_ ≠ (.slice Ao20 t1106.length co20 : Value).ownBlock) ∧ some k_ ≠ (.slice Ao24 t1109.length co24 : Value).ownBlock)) (n := t1124.length) (c := co87) ?_).2.2; exact (by (with_reducible repeat (first | apply Kd.R_alloc | apply Kd.R_drewN | apply Kd.R_drew)); exact (Kd.R_mono (Kd.R_far (p := ⟨gb1131, 1, none⟩) (Kd.R_far (p := ⟨gb1131, 0, none⟩) (Kd.R_types HO1126.out BK1131.out (by decide)) (fun _ hk => hk.2) (.slice Ao87 t1124.length co87)) (fun _ hk => hk.2) (.slice Ao92 t1127.length co92)) (fun _ h_ => h_.1)))); (case side2 => exact (Kd.R_reads' HO1126.out).2.1); (case side3 => refine (Kd.R_reads' (e := 3) (base := w.heap.size) (ok := fun k_ => (((((some k_ ≠ (.slice Ao87 t1124.length co87 : Value).ownBlock ∧ some k_ ≠ (.slice Ao84 x12_4.length co84 : Value).ownBlock) ∧ some k_ ≠ (.slice Ao14 t1099.length co14 : Value).ownBlock) ∧ some k_ ≠ (.slice Ao17 t1102.length co17 : Value).ownBlock) ∧ some k_ ≠ (.slice Ao20 t1106.length co20 : Value).ownBlock) ∧ some k_ ≠ (.slice Ao24 t1109.length co24 : Value).ownBlock)) (n := t1127.length) (c := co92) ?_).2.2; exact (by (with_reducible repeat (first | apply Kd.R_alloc | apply Kd.R_drewN | apply Kd.R_drew)); exact (Kd.R_mono (Kd.R_far (p := ⟨gb1131, 1, none⟩) (Kd.R_far (p := ⟨gb1131, 0, none⟩) (Kd.R_types HO1129.out BK1131.out (by decide)) (fun _ hk => hk.2) (.slice Ao87 t1124.length co87)) (fun _ hk => hk.2) (.slice Ao92 t1127.length co92)) (fun _ h_ => h_.1)))); (case side4 => exact (Kd.R_reads' HO1129.out).2.1); rintro e w93 ⟨v1133, v1136, rfl, ho0, ho1, hb⟩; refine ⟨_, rfl, ?_⟩; have n0_ := Aside0.mk (Kd.R_mono (Kd.R_told (Kd.R_told (Kd.R_old (by (with_reducible repeat (first | apply Kd.R_alloc | apply Kd.R_drewN | apply Kd.R_drew)); exact (Kd.R_mono (Kd.R_far (p := ⟨gb1131, 1, none⟩) (Kd.R_far (p := ⟨gb1131, 0, none⟩) (Kd.R_types HO_12.out BK1131.out (by decide)) (fun _ hk => hk.2) (.slice Ao87 t1124.length co87)) (fun _ hk => hk.2) (.slice Ao92 t1127.length co92)) (fun _ h_ => h_.1))) hb) (Kd.R_base ho0)) (Kd.R_base ho1)) (fun _ h_ => h_.1)); have n1_ := Aside0.mk (Kd.R_mono (Kd.R_told (Kd.R_told (Kd.R_old (by (with_reducible repeat (first | apply Kd.R_alloc | apply Kd.R_drewN | apply Kd.R_drew)); exact (Kd.R_mono (Kd.R_far (p := ⟨gb1131, 1, none⟩) (Kd.R_far (p := ⟨gb1131, 0, none⟩) (Kd.R_types HO_1106000.out BK1131.out (by decide)) (fun _ hk => hk.2) (.slice Ao87 t1124.length co87)) (fun _ hk => hk.2) (.slice Ao92 t1127.length co92)) (fun _ h_ => h_.1))) hb) (Kd.R_base ho0)) (Kd.R_base ho1)) (fun _ h_ => h_.1)); have n2_ := Aside0.mk (Kd.R_mono (Kd.R_told (Kd.R_told (Kd.R_old (by (with_reducible repeat (first | apply Kd.R_alloc | apply Kd.R_drewN | apply Kd.R_drew)); exact (Kd.R_mono (Kd.R_far (p := ⟨gb1131, 1, none⟩) (Kd.R_far (p := ⟨gb1131, 0, none⟩) (Kd.R_types HO_1106001.out BK1131.out (by decide)) (fun _ hk => hk.2) (.slice Ao87 t1124.length co87)) (fun _ hk => hk.2) (.slice Ao92 t1127.length co92)) (fun _ h_ => h_.1))) hb) (Kd.R_base ho0)) (Kd.R_base ho1)) (fun _ h_ => h_.1)); have n3_ := Aside0.mk (Kd.R_mono (Kd.R_told (Kd.R_told (Kd.R_old (by (with_reducible repeat (first | apply Kd.R_alloc | apply Kd.R_drewN | apply Kd.R_drew)); exact (Kd.R_mono (Kd.R_far (p := ⟨gb1131, 1, none⟩) (Kd.R_far (p := ⟨gb1131, 0, none⟩) (Kd.R_types HO_1114000.out BK1131.out (by decide)) (fun _ hk => hk.2) (.slice Ao87 t1124.length co87)) (fun _ hk => hk.2) (.slice Ao92 t1127.length co92)) (fun _ h_ => h_.1))) hb) (Kd.R_base ho0)) (Kd.R_base ho1)) (fun _ h_ => h_.1)); have n4_ := Aside0.mk (Kd.R_mono (Kd.R_told (Kd.R_told (Kd.R_old (by (with_reducible repeat (first | apply Kd.R_alloc | apply Kd.R_drewN | apply Kd.R_drew)); exact (Kd.R_mono (Kd.R_far (p := ⟨gb1131, 1, none⟩) (Kd.R_far (p := ⟨gb1131, 0, none⟩) (Kd.R_types HO_1114001.out BK1131.out (by decide)) (fun _ hk => hk.2) (.slice Ao87 t1124.length co87)) (fun _ hk => hk.2) (.slice Ao92 t1127.length co92)) (fun _ h_ => h_.1))) hb) (Kd.R_base ho0)) (Kd.R_base ho1)) (fun _ h_ => h_.1)); have n5_ := Aside0.mk (Kd.R_mono (Kd.R_told (Kd.R_told (Kd.R_old (by (with_reducible repeat (first | apply Kd.R_alloc | apply Kd.R_drewN | apply Kd.R_drew)); exact (Kd.R_mono (Kd.R_far (p := ⟨gb1131, 1, none⟩) (Kd.R_far (p := ⟨gb1131, 0, none⟩) (Kd.R_types HO1126.out BK1131.out (by decide)) (fun _ hk => hk.2) (.slice Ao87 t1124.length co87)) (fun _ hk => hk.2) (.slice Ao92 t1127.length co92)) (fun _ h_ => h_.1))) hb) (Kd.R_base ho0)) (Kd.R_base ho1)) (fun _ h_ => h_.1)); have n6_ := Aside0.mk (Kd.R_mono (Kd.R_told (Kd.R_told (Kd.R_old (by (with_reducible repeat (first | apply Kd.R_alloc | apply Kd.R_drewN | apply Kd.R_drew)); exact (Kd.R_mono (Kd.R_far (p := ⟨gb1131, 1, none⟩) (Kd.R_far (p := ⟨gb1131, 0, none⟩) (Kd.R_types HO1129.out BK1131.out (by decide)) (fun _ hk => hk.2) (.slice Ao87 t1124.length co87)) (fun _ hk => hk.2) (.slice Ao92 t1127.length co92)) (fun _ h_ => h_.1))) hb) (Kd.R_base ho0)) (Kd.R_base ho1)) (fun _ h_ => h_.1)); have n7_ := Aside0.mk (Kd.R_lower (Kd.R_new' (Kd.R_new' (Kd.R_new' (Kd.R_new' (Kd.R_new' (Kd.R_new' (Kd.R_new' ho0 (Kd.R_lt (by (with_reducible repeat (first | apply Kd.R_alloc | apply Kd.R_drewN | apply Kd.R_drew)); exact (Kd.R_mono (Kd.R_far (p := ⟨gb1131, 1, none⟩) (Kd.R_far (p := ⟨gb1131, 0, none⟩) (Kd.R_types HO_12.out BK1131.out (by decide)) (fun _ hk => hk.2) (.slice Ao87 t1124.length co87)) (fun _ hk => hk.2) (.slice Ao92 t1127.length co92)) (fun _ h_ => h_.1))))) (Kd.R_lt (by (with_reducible repeat (first | apply Kd.R_alloc | apply Kd.R_drewN | apply Kd.R_drew)); exact (Kd.R_mono (Kd.R_far (p := ⟨gb1131, 1, none⟩) (Kd.R_far (p := ⟨gb1131, 0, none⟩) (Kd.R_types HO_1106000.out BK1131.out (by decide)) (fun _ hk => hk.2) (.slice Ao87 t1124.length co87)) (fun _ hk => hk.2) (.slice Ao92 t1127.length co92)) (fun _ h_ => h_.1))))) (Kd.R_lt (by (with_reducible repeat (first | apply Kd.R_alloc | apply Kd.R_drewN | apply Kd.R_drew)); exact (Kd.R_mono (Kd.R_far (p := ⟨gb1131, 1, none⟩) (Kd.R_far (p := ⟨gb1131, 0, none⟩) (Kd.R_types HO_1106001.out BK1131.out (by decide)) (fun _ hk => hk.2) (.slice Ao87 t1124.length co87)) (fun _ hk => hk.2) (.slice Ao92 t1127.length co92)) (fun _ h_ => h_.1))))) (Kd.R_lt (by (with_reducible repeat (first | apply Kd.R_alloc | apply Kd.R_drewN | apply Kd.R_drew)); exact (Kd.R_mono (Kd.R_far (p := ⟨gb1131, 1, none⟩) (Kd.R_far (p := ⟨gb1131, 0, none⟩) (Kd.R_types HO_1114000.out BK1131.out (by decide)) (fun _ hk => hk.2) (.slice Ao87 t1124.length co87)) (fun _ hk => hk.2) (.slice Ao92 t1127.length co92)) (fun _ h_ => h_.1))))) (Kd.R_lt (by (with_reducible repeat (first | apply Kd.R_alloc | apply Kd.R_drewN | apply Kd.R_drew)); exact (Kd.R_mono (Kd.R_far (p := ⟨gb1131, 1, none⟩) (Kd.R_far (p := ⟨gb1131, 0, none⟩) (Kd.R_types HO_1114001.out BK1131.out (by decide)) (fun _ hk => hk.2) (.slice Ao87 t1124.length co87)) (fun _ hk => hk.2) (.slice Ao92 t1127.length co92)) (fun _ h_ => h_.1))))) (Kd.R_lt (by (with_reducible repeat (first | apply Kd.R_alloc | apply Kd.R_drewN | apply Kd.R_drew)); exact (Kd.R_mono (Kd.R_far (p := ⟨gb1131, 1, none⟩) (Kd.R_far (p := ⟨gb1131, 0, none⟩) (Kd.R_types HO1126.out BK1131.out (by decide)) (fun _ hk => hk.2) (.slice Ao87 t1124.length co87)) (fun _ hk => hk.2) (.slice Ao92 t1127.length co92)) (fun _ h_ => h_.1))))) (Kd.R_lt (by (with_reducible repeat (first | apply Kd.R_alloc | apply Kd.R_drewN | apply Kd.R_drew)); exact (Kd.R_mono (Kd.R_far (p := ⟨gb1131, 1, none⟩) (Kd.R_far (p := ⟨gb1131, 0, none⟩) (Kd.R_types HO1129.out BK1131.out (by decide)) (fun _ hk => hk.2) (.slice Ao87 t1124.length co87)) (fun _ hk => hk.2) (.slice Ao92 t1127.length co92)) (fun _ h_ => h_.1))))) (below_size zB)); have n8_ := Aside0.mk (Kd.R_lower (Kd.R_new' (Kd.R_new' (Kd.R_new' (Kd.R_new' (Kd.R_new' (Kd.R_new' (Kd.R_new' ho1 (Kd.R_lt (by (with_reducible repeat (first | apply Kd.R_alloc | apply Kd.R_drewN | apply Kd.R_drew)); exact (Kd.R_mono (Kd.R_far (p := ⟨gb1131, 1, none⟩) (Kd.R_far (p := ⟨gb1131, 0, none⟩) (Kd.R_types HO_12.out BK1131.out (by decide)) (fun _ hk => hk.2) (.slice Ao87 t1124.length co87)) (fun _ hk => hk.2) (.slice Ao92 t1127.length co92)) (fun _ h_ => h_.1))))) (Kd.R_lt (by (with_reducible repeat (first | apply Kd.R_alloc | apply Kd.R_drewN | apply Kd.R_drew)); exact (Kd.R_mono (Kd.R_far (p := ⟨gb1131, 1, none⟩) (Kd.R_far (p := ⟨gb1131, 0, none⟩) (Kd.R_types HO_1106000.out BK1131.out (by decide)) (fun _ hk => hk.2) (.slice Ao87 t1124.length co87)) (fun _ hk => hk.2) (.slice Ao92 t1127.length co92)) (fun _ h_ => h_.1))))) (Kd.R_lt (by (with_reducible repeat (first | apply Kd.R_alloc | apply Kd.R_drewN | apply Kd.R_drew)); exact (Kd.R_mono (Kd.R_far (p := ⟨gb1131, 1, none⟩) (Kd.R_far (p := ⟨gb1131, 0, none⟩) (Kd.R_types HO_1106001.out BK1131.out (by decide)) (fun _ hk => hk.2) (.slice Ao87 t1124.length co87)) (fun _ hk => hk.2) (.slice Ao92 t1127.length co92)) (fun _ h_ => h_.1))))) (Kd.R_lt (by (with_reducible repeat (first | apply Kd.R_alloc | apply Kd.R_drewN | apply Kd.R_drew)); exact (Kd.R_mono (Kd.R_far (p := ⟨gb1131, 1, none⟩) (Kd.R_far (p := ⟨gb1131, 0, none⟩) (Kd.R_types HO_1114000.out BK1131.out (by decide)) (fun _ hk => hk.2) (.slice Ao87 t1124.length co87)) (fun _ hk => hk.2) (.slice Ao92 t1127.length co92)) (fun _ h_ => h_.1))))) (Kd.R_lt (by (with_reducible repeat (first | apply Kd.R_alloc | apply Kd.R_drewN | apply Kd.R_drew)); exact (Kd.R_mono (Kd.R_far (p := ⟨gb1131, 1, none⟩) (Kd.R_far (p := ⟨gb1131, 0, none⟩) (Kd.R_types HO_1114001.out BK1131.out (by decide)) (fun _ hk => hk.2) (.slice Ao87 t1124.length co87)) (fun _ hk => hk.2) (.slice Ao92 t1127.length co92)) (fun _ h_ => h_.1))))) (Kd.R_lt (by (with_reducible repeat (first | apply Kd.R_alloc | apply Kd.R_drewN | apply Kd.R_drew)); exact (Kd.R_mono (Kd.R_far (p := ⟨gb1131, 1, none⟩) (Kd.R_far (p := ⟨gb1131, 0, none⟩) (Kd.R_types HO1126.out BK1131.out (by decide)) (fun _ hk => hk.2) (.slice Ao87 t1124.length co87)) (fun _ hk => hk.2) (.slice Ao92 t1127.length co92)) (fun _ h_ => h_.1))))) (Kd.R_lt (by (with_reducible repeat (first | apply Kd.R_alloc | apply Kd.R_drewN | apply Kd.R_drew)); exact (Kd.R_mono (Kd.R_far (p := ⟨gb1131, 1, none⟩) (Kd.R_far (p := ⟨gb1131, 0, none⟩) (Kd.R_types HO1129.out BK1131.out (by decide)) (fun _ hk => hk.2) (.slice Ao87 t1124.length co87)) (fun _ hk => hk.2) (.slice Ao92 t1127.length co92)) (fun _ h_ => h_.1))))) (below_size zB)); have n9_ := Aside0.mk (blk_below (g := gb1097) (o := .cells #[.int .u32 a0_0, .int .u64 a0_1] 25 (0, 0)) (by (with_reducible repeat (first | refine blk_drewN ?_ _ | refine blk_drew ?_ | refine blk_alloc ?_ _)); refine blk_far ?_ NB1097_1131.out _; (with_reducible repeat (first | refine blk_drewN ?_ _ | refine blk_drew ?_ | refine blk_alloc ?_ _)); refine blk_far ?_ NB1097_1131.out _; (with_reducible repeat (first | refine blk_drewN ?_ _ | refine blk_drew ?_ | refine blk_alloc ?_ _)); exact BK1097.out) hb); have n10_ := Aside0.mk (blk_below (g := gb1105) (o := .cells #[.slice Ao14 t1099.length co14, .slice Ao17 t1102.length co17] 29 (0, 0)) (by (with_reducible repeat (first | refine blk_drewN ?_ _ | refine blk_drew ?_ | refine blk_alloc ?_ _)); refine blk_far ?_ NB1105_1131.out _; (with_reducible repeat (first | refine blk_drewN ?_ _ | refine blk_drew ?_ | refine blk_alloc ?_ _)); refine blk_far ?_ NB1105_1131.out _; (with_reducible repeat (first | refine blk_drewN ?_ _ | refine blk_drew ?_ | refine blk_alloc ?_ _)); exact BK1105.out) hb); have n11_ := Aside0.mk (blk_below (g := gb1113) (o := .cells #[.slice Ao20 t1106.length co20, .slice Ao24 t1109.length co24] 29 (0, 0)) (by (with_reducible repeat (first | refine blk_drewN ?_ _ | refine blk_drew ?_ | refine blk_alloc ?_ _)); refine blk_far ?_ NB1113_1131.out _; (with_reducible repeat (first | refine blk_drewN ?_ _ | refine blk_drew ?_ | refine blk_alloc ?_ _)); refine blk_far ?_ NB1113_1131.out _; (with_reducible repeat (first | refine blk_drewN ?_ _ | refine blk_drew ?_ | refine blk_alloc ?_ _)); exact BK1113.out) hb); have n12_ := Aside0.mk (blk_below (g := gb1131) (o := .cells #[.slice Ao87 t1124.length co87, .slice Ao92 t1127.length co92] 29 (0, 0)) (by (with_reducible repeat (first | refine blk_drewN ?_ _ | refine blk_drew ?_ | refine blk_alloc ?_ _)); refine blk_put (cs := #[.slice Ao87 t1124.length co87, .slice none 0 0]) ?_ 1 _ rfl; (with_reducible repeat (first | refine blk_drewN ?_ _ | refine blk_drew ?_ | refine blk_alloc ?_ _)); refine blk_put (cs := #[.slice none 0 0, .slice none 0 0]) ?_ 0 _ rfl; (with_reducible repeat (first | refine blk_drewN ?_ _ | refine blk_drew ?_ | refine blk_alloc ?_ _)); exact BK1131.out) hb); have n13_ := Aside0.mk (below_step zB hb); clear HO_12; clear HO_1106000; clear HO_1106001; clear HO_1114000; clear HO_1114001; clear HO1126; clear HO1129; clear BK1097; clear BK1105; clear BK1113; clear BK1131; clear HB; have HO_12 := n0_; have HO_1106000 := n1_; have HO_1106001 := n2_; have HO_1114000 := n3_; have HO_1114001 := n4_; have HO1126 := n5_; have HO1129 := n6_; have HO1134 := n7_; have HO1137 := n8_; have BK1097 := n9_; have BK1105 := n10_; have BK1113 := n11_; have BK1131 := n12_; have HB := n13_; clear n0_ n1_ n2_ n3_ n4_ n5_ n6_ n7_ n8_ n9_ n10_ n11_ n12_ n13_; (try clear hb); (try clear hb2); (try clear hk); (try clear hi); (try clear ho0); (try clear ho1)) | ((with_reducible refine gate_dst (N := 16) rfl ?_); (try (refine gate_guard (by rfl) ?_; dsimp only)); refine box_event ?hg (N := 16) ?hd (cs := #[.slice none 0 0, .slice none 0 0]) (t := 29) ?hr ?_; (case hd => rfl); (case hg => rfl); (case hr => first | (go_simp; done) | (go_simp; rfl)); intro gb1139 hg w94 hbox hb; have n0_ := Aside0.mk (Kd.R_below (zR HO_12) hb); have n1_ := Aside0.mk (Kd.R_below (zR HO_1106000) hb); have n2_ := Aside0.mk (Kd.R_below (zR HO_1106001) hb); have n3_ := Aside0.mk (Kd.R_below (zR HO_1114000) hb); have n4_ := Aside0.mk (Kd.R_below (zR HO_1114001) hb); have n5_ := Aside0.mk (Kd.R_below (zR HO1126) hb); have n6_ := Aside0.mk (Kd.R_below (zR HO1129) hb); have n7_ := Aside0.mk (Kd.R_below (zR HO1134) hb); have n8_ := Aside0.mk (Kd.R_below (zR HO1137) hb); have n9_ := Aside0.mk (blk_below (g := gb1097) (o := .cells #[.int .u32 a0_0, .int .u64 a0_1] 25 (0, 0)) (zk BK1097) hb); have n10_ := Aside0.mk (blk_below (g := gb1105) (o := .cells #[.slice Ao14 t1099.length co14, .slice Ao17 t1102.length co17] 29 (0, 0)) (zk BK1105) hb); have n11_ := Aside0.mk (blk_below (g := gb1113) (o := .cells #[.slice Ao20 t1106.length co20, .slice Ao24 t1109.length co24] 29 (0, 0)) (zk BK1113) hb); have n12_ := Aside0.mk (blk_below (g := gb1131) (o := .cells #[.slice Ao87 t1124.length co87, .slice Ao92 t1127.length co92] 29 (0, 0)) (zk BK1131) hb); have n13_ := Aside0.mk (below_step zB hb); have n14_ := Aside0.mk (hbox); have n15_ := Aside0.mk ((by rw [hg]; exact (below_size zB) : w.heap.size ≤ gb1139)); have n16_ := Aside0.mk ((by rw [hg]; exact (below_size zB) : w.heap.size ≤ gb1139)); have n17_ := Aside0.mk ((by rw [hg]; exact Nat.ne_of_lt (blk_lt (g := gb1097) (o := .cells #[.int .u32 a0_0, .int .u64 a0_1] 25 (0, 0)) (zk BK1097)) : gb1097 ≠ gb1139)); have n18_ := Aside0.mk ((by rw [hg]; exact Nat.ne_of_gt (blk_lt (g := gb1097) (o := .cells #[.int .u32 a0_0, .int .u64 a0_1] 25 (0, 0)) (zk BK1097)) : gb1139 ≠ gb1097)); have n19_ := Aside0.mk ((by rw [hg]; exact Nat.ne_of_lt (blk_lt (g := gb1105) (o := .cells #[.slice Ao14 t1099.length co14, .slice Ao17 t1102.length co17] 29 (0, 0)) (zk BK1105)) : gb1105 ≠ gb1139)); have n20_ := Aside0.mk ((by rw [hg]; exact Nat.ne_of_gt (blk_lt (g := gb1105) (o := .cells #[.slice Ao14 t1099.length co14, .slice Ao17 t1102.length co17] 29 (0, 0)) (zk BK1105)) : gb1139 ≠ gb1105)); have n21_ := Aside0.mk ((by rw [hg]; exact Nat.ne_of_lt (blk_lt (g := gb1113) (o := .cells #[.slice Ao20 t1106.length co20, .slice Ao24 t1109.length co24] 29 (0, 0)) (zk BK1113)) : gb1113 ≠ gb1139)); have n22_ := Aside0.mk ((by rw [hg]; exact Nat.ne_of_gt (blk_lt (g := gb1113) (o := .cells #[.slice Ao20 t1106.length co20, .slice Ao24 t1109.length co24] 29 (0, 0)) (zk BK1113)) : gb1139 ≠ gb1113)); have n23_ := Aside0.mk ((by rw [hg]; exact Nat.ne_of_lt (blk_lt (g := gb1131) (o := .cells #[.slice Ao87 t1124.length co87, .slice Ao92 t1127.length co92] 29 (0, 0)) (zk BK1131)) : gb1131 ≠ gb1139)); have n24_ := Aside0.mk ((by rw [hg]; exact Nat.ne_of_gt (blk_lt (g := gb1131) (o := .cells #[.slice Ao87 t1124.length co87, .slice Ao92 t1127.length co92] 29 (0, 0)) (zk BK1131)) : gb1139 ≠ gb1131)); clear HO_12; clear HO_1106000; clear HO_1106001; clear HO_1114000; clear HO_1114001; clear HO1126; clear HO1129; clear HO1134; clear HO1137; clear BK1097; clear BK1105; clear BK1113; clear BK1131; clear HB; have HO_12 := n0_; have HO_1106000 := n1_; have HO_1106001 := n2_; have HO_1114000 := n3_; have HO_1114001 := n4_; have HO1126 := n5_; have HO1129 := n6_; have HO1134 := n7_; have HO1137 := n8_; have BK1097 := n9_; have BK1105 := n10_; have BK1113 := n11_; have BK1131 := n12_; have HB := n13_; have BK1139 := n14_; have GW1139 := n15_; have GE1139 := n16_; have NB1097_1139 := n17_; have NB1139_1097 := n18_; have NB1105_1139 := n19_; have NB1139_1105 := n20_; have NB1113_1139 := n21_; have NB1139_1113 := n22_; have NB1131_1139 := n23_; have NB1139_1131 := n24_; clear n0_ n1_ n2_ n3_ n4_ n5_ n6_ n7_ n8_ n9_ n10_ n11_ n12_ n13_ n14_ n15_ n16_ n17_ n18_ n19_ n20_ n21_ n22_ n23_ n24_; clear hb hbox hg; obtain ⟨Ao95, co95, eo95⟩ := Kd.R_slice HO1134.out; subst eo95; have hnb96 := NB1139_1097.out; have hnc96 := NB1097_1139.out; have hnb97 := NB1139_1105.out; have hnc97 := NB1105_1139.out; have hnb98 := NB1139_1113.out; have hnc98 := NB1113_1139.out; have hnb99 := NB1139_1131.out; have hnc99 := NB1131_1139.out; have hcz100_0 : w94.cell? ⟨gb1139, 0, none⟩ = some (.slice none 0 0) := (blk_cell BK1139.out 0).trans rfl; have hcz100_1 : w94.cell? ⟨gb1139, 1, none⟩ = some (.slice none 0 0) := (blk_cell BK1139.out 1).trans rfl; have hfz100_0 := blk_frozen BK1139.out 0; have hfz100_1 := blk_frozen BK1139.out 1; obtain ⟨Ao101, co101, eo101⟩ := Kd.R_slice HO1137.out; subst eo101))
              (try simp only [Act.put, List.setIfInBounds_toArray, List.set_cons_zero, List.set_cons_succ])
              have H := HC80.out
              clear HC80
              by_cases c102 : t1130 = 0
              ·rw [if_pos c102] at H
               have c102b0 : (t1130 == 0) = true := beq_iff_eq.mpr c102
               have c102b1 : (t1130 != 0) = false := bne_eq_false_iff_eq.mpr c102
               clear c102
               (first | rw [c102b0] | (simp only [i64_w, i32_w]; rw [c102b0]) | skip)
               (try rw [c102b1])
               by_cases c103 : t1138 = 0
               ·rw [if_pos c103] at H
                have c103b0 : (t1138 == 0) = true := beq_iff_eq.mpr c103
                have c103b1 : (t1138 != 0) = false := bne_eq_false_iff_eq.mpr c103
                clear c103
                replace H := Option.bind_eq_some_iff.mp H
                obtain ⟨t1140, A1040, H⟩ := H
                replace H : (some t1140) = some r := H
                have A104 := Aside0.mk A1040
                clear A1040
                obtain rfl := Option.some.inj H
                have hnb105 := NB1113_1097.out
                have hnc105 := NB1097_1113.out
                have hnb106 := NB1113_1105.out
                have hnc106 := NB1105_1113.out
                have hnb107 := NB1113_1131.out
                have hnc107 := NB1131_1113.out
                have hnb108 := NB1113_1139.out
                have hnc108 := NB1139_1113.out
                have hcz109_0 : w94.cell? ⟨gb1113, 0, none⟩ = some (.slice Ao20 t1106.length co20) := (blk_cell BK1113.out 0).trans rfl
                have hcz109_1 : w94.cell? ⟨gb1113, 1, none⟩ = some (.slice Ao24 t1109.length co24) := (blk_cell BK1113.out 1).trans rfl
                have hfz109_0 := blk_frozen BK1113.out 0
                have hfz109_1 := blk_frozen BK1113.out 1
                have hnb110 := NB1139_1097.out
                have hnc110 := NB1097_1139.out
                have hnb111 := NB1139_1105.out
                have hnc111 := NB1105_1139.out
                have hnb112 := NB1139_1131.out
                have hnc112 := NB1131_1139.out
                have hcz113_0 : w94.cell? ⟨gb1139, 0, none⟩ = some (.slice none 0 0) := (blk_cell BK1139.out 0).trans rfl
                have hcz113_1 : w94.cell? ⟨gb1139, 1, none⟩ = some (.slice none 0 0) := (blk_cell BK1139.out 1).trans rfl
                have hfz113_0 := blk_frozen BK1139.out 0
                have hfz113_1 := blk_frozen BK1139.out 1
                go_wp2_with (first | (go_at_call 18; (with_reducible refine (ancepsref38_Equal.calls k4 _ _ t1106 _ _ t1109 _ _ t1132 _ _ t1135 t1140 _ ?side1 ?side2 ?side3 ?side4 ?side5 ?side6 ?side7 ?side8 A104.out).mono ?_); (case side1 => refine (Kd.R_reads' (e := 3) (base := w.heap.size) (ok := fun k_ => (((((some k_ ≠ (.slice Ao84 x12_4.length co84 : Value).ownBlock ∧ (some k_ ≠ (.slice Ao14 t1099.length co14 : Value).ownBlock ∧ (some k_ ≠ (.slice Ao17 t1102.length co17 : Value).ownBlock ∧ some k_ ≠ (.slice Ao24 t1109.length co24 : Value).ownBlock))) ∧ some k_ ≠ (.slice Ao87 t1124.length co87 : Value).ownBlock) ∧ some k_ ≠ (.slice Ao92 t1127.length co92 : Value).ownBlock) ∧ some k_ ≠ (.slice Ao95 t1132.length co95 : Value).ownBlock) ∧ some k_ ≠ (.slice Ao101 t1135.length co101 : Value).ownBlock)) (n := t1106.length) (c := co20) ?_).2.2; exact (by (with_reducible repeat (first | apply Kd.R_alloc | apply Kd.R_drewN | apply Kd.R_drew)); exact (Kd.R_mono (Kd.R_far (p := ⟨gb1139, 1, none⟩) (Kd.R_far (p := ⟨gb1139, 0, none⟩) (Kd.R_types HO_1114000.out BK1139.out (by decide)) (fun _ hk => hk.2) (.slice Ao95 t1132.length co95)) (fun _ hk => hk.2) (.slice Ao101 t1135.length co101)) (fun _ h_ => h_.1)))); (case side2 => exact (Kd.R_reads' HO_1114000.out).2.1); (case side3 => refine (Kd.R_reads' (e := 3) (base := w.heap.size) (ok := fun k_ => (((((some k_ ≠ (.slice Ao84 x12_4.length co84 : Value).ownBlock ∧ (some k_ ≠ (.slice Ao14 t1099.length co14 : Value).ownBlock ∧ (some k_ ≠ (.slice Ao17 t1102.length co17 : Value).ownBlock ∧ some k_ ≠ (.slice Ao20 t1106.length co20 : Value).ownBlock))) ∧ some k_ ≠ (.slice Ao87 t1124.length co87 : Value).ownBlock) ∧ some k_ ≠ (.slice Ao92 t1127.length co92 : Value).ownBlock) ∧ some k_ ≠ (.slice Ao95 t1132.length co95 : Value).ownBlock) ∧ some k_ ≠ (.slice Ao101 t1135.length co101 : Value).ownBlock)) (n := t1109.length) (c := co24) ?_).2.2; exact (by (with_reducible repeat (first | apply Kd.R_alloc | apply Kd.R_drewN | apply Kd.R_drew)); exact (Kd.R_mono (Kd.R_far (p := ⟨gb1139, 1, none⟩) (Kd.R_far (p := ⟨gb1139, 0, none⟩) (Kd.R_types HO_1114001.out BK1139.out (by decide)) (fun _ hk => hk.2) (.slice Ao95 t1132.length co95)) (fun _ hk => hk.2) (.slice Ao101 t1135.length co101)) (fun _ h_ => h_.1)))); (case side4 => exact (Kd.R_reads' HO_1114001.out).2.1); (case side5 => refine (Kd.R_reads' (e := 3) (base := w.heap.size) (ok := fun k_ => (((((((some k_ ≠ (.slice Ao101 t1135.length co101 : Value).ownBlock ∧ some k_ ≠ (.slice Ao84 x12_4.length co84 : Value).ownBlock) ∧ some k_ ≠ (.slice Ao14 t1099.length co14 : Value).ownBlock) ∧ some k_ ≠ (.slice Ao17 t1102.length co17 : Value).ownBlock) ∧ some k_ ≠ (.slice Ao20 t1106.length co20 : Value).ownBlock) ∧ some k_ ≠ (.slice Ao24 t1109.length co24 : Value).ownBlock) ∧ some k_ ≠ (.slice Ao87 t1124.length co87 : Value).ownBlock) ∧ some k_ ≠ (.slice Ao92 t1127.length co92 : Value).ownBlock)) (n := t1132.length) (c := co95) ?_).2.2; exact (by (with_reducible repeat (first | apply Kd.R_alloc | apply Kd.R_drewN | apply Kd.R_drew)); exact (Kd.R_mono (Kd.R_far (p := ⟨gb1139, 1, none⟩) (Kd.R_far (p := ⟨gb1139, 0, none⟩) (Kd.R_types HO1134.out BK1139.out (by decide)) (fun _ hk => hk.2) (.slice Ao95 t1132.length co95)) (fun _ hk => hk.2) (.slice Ao101 t1135.length co101)) (fun _ h_ => h_.1)))); (case side6 => exact (Kd.R_reads' HO1134.out).2.1); (case side7 => refine (Kd.R_reads' (e := 3) (base := w.heap.size) (ok := fun k_ => (((((((some k_ ≠ (.slice Ao95 t1132.length co95 : Value).ownBlock ∧ some k_ ≠ (.slice Ao84 x12_4.length co84 : Value).ownBlock) ∧ some k_ ≠ (.slice Ao14 t1099.length co14 : Value).ownBlock) ∧ some k_ ≠ (.slice Ao17 t1102.length co17 : Value).ownBlock) ∧ some k_ ≠ (.slice Ao20 t1106.length co20 : Value).ownBlock) ∧ some k_ ≠ (.slice Ao24 t1109.length co24 : Value).ownBlock) ∧ some k_ ≠ (.slice Ao87 t1124.length co87 : Value).ownBlock) ∧ some k_ ≠ (.slice Ao92 t1127.length co92 : Value).ownBlock)) (n := t1135.length) (c := co101) ?_).2.2; exact (by (with_reducible repeat (first | apply Kd.R_alloc | apply Kd.R_drewN | apply Kd.R_drew)); exact (Kd.R_mono (Kd.R_far (p := ⟨gb1139, 1, none⟩) (Kd.R_far (p := ⟨gb1139, 0, none⟩) (Kd.R_types HO1137.out BK1139.out (by decide)) (fun _ hk => hk.2) (.slice Ao95 t1132.length co95)) (fun _ hk => hk.2) (.slice Ao101 t1135.length co101)) (fun _ h_ => h_.1)))); (case side8 => exact (Kd.R_reads' HO1137.out).2.1); rintro e w114 ⟨rfl, hb⟩; have n0_ := Aside0.mk (Kd.R_below (by (with_reducible repeat (first | apply Kd.R_alloc | apply Kd.R_drewN | apply Kd.R_drew)); exact (Kd.R_mono (Kd.R_far (p := ⟨gb1139, 1, none⟩) (Kd.R_far (p := ⟨gb1139, 0, none⟩) (Kd.R_types HO_12.out BK1139.out (by decide)) (fun _ hk => hk.2) (.slice Ao95 t1132.length co95)) (fun _ hk => hk.2) (.slice Ao101 t1135.length co101)) (fun _ h_ => h_.1))) hb); have n1_ := Aside0.mk (Kd.R_below (by (with_reducible repeat (first | apply Kd.R_alloc | apply Kd.R_drewN | apply Kd.R_drew)); exact (Kd.R_mono (Kd.R_far (p := ⟨gb1139, 1, none⟩) (Kd.R_far (p := ⟨gb1139, 0, none⟩) (Kd.R_types HO_1106000.out BK1139.out (by decide)) (fun _ hk => hk.2) (.slice Ao95 t1132.length co95)) (fun _ hk => hk.2) (.slice Ao101 t1135.length co101)) (fun _ h_ => h_.1))) hb); have n2_ := Aside0.mk (Kd.R_below (by (with_reducible repeat (first | apply Kd.R_alloc | apply Kd.R_drewN | apply Kd.R_drew)); exact (Kd.R_mono (Kd.R_far (p := ⟨gb1139, 1, none⟩) (Kd.R_far (p := ⟨gb1139, 0, none⟩) (Kd.R_types HO_1106001.out BK1139.out (by decide)) (fun _ hk => hk.2) (.slice Ao95 t1132.length co95)) (fun _ hk => hk.2) (.slice Ao101 t1135.length co101)) (fun _ h_ => h_.1))) hb); have n3_ := Aside0.mk (Kd.R_below (by (with_reducible repeat (first | apply Kd.R_alloc | apply Kd.R_drewN | apply Kd.R_drew)); exact (Kd.R_mono (Kd.R_far (p := ⟨gb1139, 1, none⟩) (Kd.R_far (p := ⟨gb1139, 0, none⟩) (Kd.R_types HO_1114000.out BK1139.out (by decide)) (fun _ hk => hk.2) (.slice Ao95 t1132.length co95)) (fun _ hk => hk.2) (.slice Ao101 t1135.length co101)) (fun _ h_ => h_.1))) hb); have n4_ := Aside0.mk (Kd.R_below (by (with_reducible repeat (first | apply Kd.R_alloc | apply Kd.R_drewN | apply Kd.R_drew)); exact (Kd.R_mono (Kd.R_far (p := ⟨gb1139, 1, none⟩) (Kd.R_far (p := ⟨gb1139, 0, none⟩) (Kd.R_types HO_1114001.out BK1139.out (by decide)) (fun _ hk => hk.2) (.slice Ao95 t1132.length co95)) (fun _ hk => hk.2) (.slice Ao101 t1135.length co101)) (fun _ h_ => h_.1))) hb); have n5_ := Aside0.mk (Kd.R_below (by (with_reducible repeat (first | apply Kd.R_alloc | apply Kd.R_drewN | apply Kd.R_drew)); exact (Kd.R_mono (Kd.R_far (p := ⟨gb1139, 1, none⟩) (Kd.R_far (p := ⟨gb1139, 0, none⟩) (Kd.R_types HO1126.out BK1139.out (by decide)) (fun _ hk => hk.2) (.slice Ao95 t1132.length co95)) (fun _ hk => hk.2) (.slice Ao101 t1135.length co101)) (fun _ h_ => h_.1))) hb); have n6_ := Aside0.mk (Kd.R_below (by (with_reducible repeat (first | apply Kd.R_alloc | apply Kd.R_drewN | apply Kd.R_drew)); exact (Kd.R_mono (Kd.R_far (p := ⟨gb1139, 1, none⟩) (Kd.R_far (p := ⟨gb1139, 0, none⟩) (Kd.R_types HO1129.out BK1139.out (by decide)) (fun _ hk => hk.2) (.slice Ao95 t1132.length co95)) (fun _ hk => hk.2) (.slice Ao101 t1135.length co101)) (fun _ h_ => h_.1))) hb); have n7_ := Aside0.mk (Kd.R_below (by (with_reducible repeat (first | apply Kd.R_alloc | apply Kd.R_drewN | apply Kd.R_drew)); exact (Kd.R_mono (Kd.R_far (p := ⟨gb1139, 1, none⟩) (Kd.R_far (p := ⟨gb1139, 0, none⟩) (Kd.R_types HO1134.out BK1139.out (by decide)) (fun _ hk => hk.2) (.slice Ao95 t1132.length co95)) (fun _ hk => hk.2) (.slice Ao101 t1135.length co101)) (fun _ h_ => h_.1))) hb); have n8_ := Aside0.mk (Kd.R_below (by (with_reducible repeat (first | apply Kd.R_alloc | apply Kd.R_drewN | apply Kd.R_drew)); exact (Kd.R_mono (Kd.R_far (p := ⟨gb1139, 1, none⟩) (Kd.R_far (p := ⟨gb1139, 0, none⟩) (Kd.R_types HO1137.out BK1139.out (by decide)) (fun _ hk => hk.2) (.slice Ao95 t1132.length co95)) (fun _ hk => hk.2) (.slice Ao101 t1135.length co101)) (fun _ h_ => h_.1))) hb); have n9_ := Aside0.mk (blk_below (g := gb1097) (o := .cells #[.int .u32 a0_0, .int .u64 a0_1] 25 (0, 0)) (by (with_reducible repeat (first | refine blk_drewN ?_ _ | refine blk_drew ?_ | refine blk_alloc ?_ _)); refine blk_far ?_ NB1097_1139.out _; (with_reducible repeat (first | refine blk_drewN ?_ _ | refine blk_drew ?_ | refine blk_alloc ?_ _)); refine blk_far ?_ NB1097_1139.out _; (with_reducible repeat (first | refine blk_drewN ?_ _ | refine blk_drew ?_ | refine blk_alloc ?_ _)); exact BK1097.out) hb); have n10_ := Aside0.mk (blk_below (g := gb1105) (o := .cells #[.slice Ao14 t1099.length co14, .slice Ao17 t1102.length co17] 29 (0, 0)) (by (with_reducible repeat (first | refine blk_drewN ?_ _ | refine blk_drew ?_ | refine blk_alloc ?_ _)); refine blk_far ?_ NB1105_1139.out _; (with_reducible repeat (first | refine blk_drewN ?_ _ | refine blk_drew ?_ | refine blk_alloc ?_ _)); refine blk_far ?_ NB1105_1139.out _; (with_reducible repeat (first | refine blk_drewN ?_ _ | refine blk_drew ?_ | refine blk_alloc ?_ _)); exact BK1105.out) hb); have n11_ := Aside0.mk (blk_below (g := gb1113) (o := .cells #[.slice Ao20 t1106.length co20, .slice Ao24 t1109.length co24] 29 (0, 0)) (by (with_reducible repeat (first | refine blk_drewN ?_ _ | refine blk_drew ?_ | refine blk_alloc ?_ _)); refine blk_far ?_ NB1113_1139.out _; (with_reducible repeat (first | refine blk_drewN ?_ _ | refine blk_drew ?_ | refine blk_alloc ?_ _)); refine blk_far ?_ NB1113_1139.out _; (with_reducible repeat (first | refine blk_drewN ?_ _ | refine blk_drew ?_ | refine blk_alloc ?_ _)); exact BK1113.out) hb); have n12_ := Aside0.mk (blk_below (g := gb1131) (o := .cells #[.slice Ao87 t1124.length co87, .slice Ao92 t1127.length co92] 29 (0, 0)) (by (with_reducible repeat (first | refine blk_drewN ?_ _ | refine blk_drew ?_ | refine blk_alloc ?_ _)); refine blk_far ?_ NB1131_1139.out _; (with_reducible repeat (first | refine blk_drewN ?_ _ | refine blk_drew ?_ | refine blk_alloc ?_ _)); refine blk_far ?_ NB1131_1139.out _; (with_reducible repeat (first | refine blk_drewN ?_ _ | refine blk_drew ?_ | refine blk_alloc ?_ _)); exact BK1131.out) hb); have n13_ := Aside0.mk (blk_below (g := gb1139) (o := .cells #[.slice Ao95 t1132.length co95, .slice Ao101 t1135.length co101] 29 (0, 0)) (by (with_reducible repeat (first | refine blk_drewN ?_ _ | refine blk_drew ?_ | refine blk_alloc ?_ _)); refine blk_put (cs := #[.slice Ao95 t1132.length co95, .slice none 0 0]) ?_ 1 _ rfl; (with_reducible repeat (first | refine blk_drewN ?_ _ | refine blk_drew ?_ | refine blk_alloc ?_ _)); refine blk_put (cs := #[.slice none 0 0, .slice none 0 0]) ?_ 0 _ rfl; (with_reducible repeat (first | refine blk_drewN ?_ _ | refine blk_drew ?_ | refine blk_alloc ?_ _)); exact BK1139.out) hb); have n14_ := Aside0.mk (below_step zB hb); clear HO_12; clear HO_1106000; clear HO_1106001; clear HO_1114000; clear HO_1114001; clear HO1126; clear HO1129; clear HO1134; clear HO1137; clear BK1097; clear BK1105; clear BK1113; clear BK1131; clear BK1139; clear HB; have HO_12 := n0_; have HO_1106000 := n1_; have HO_1106001 := n2_; have HO_1114000 := n3_; have HO_1114001 := n4_; have HO1126 := n5_; have HO1129 := n6_; have HO1134 := n7_; have HO1137 := n8_; have BK1097 := n9_; have BK1105 := n10_; have BK1113 := n11_; have BK1131 := n12_; have BK1139 := n13_; have HB := n14_; clear n0_ n1_ n2_ n3_ n4_ n5_ n6_ n7_ n8_ n9_ n10_ n11_ n12_ n13_ n14_; (try clear hb); (try clear hb2); (try clear hk); (try clear hi)))
                go_ret
                exact ⟨by first | rfl | (simp [errW_none, errW_some] <;> rfl) | (simp only [← hji53]; first | rfl | (simp [errW_none, errW_some] <;> rfl)) | (simp [*, errW_none, errW_some] <;> rfl), by repeat (first | (with_reducible first | exact HB.out | apply below_alloc | apply pw_below_drewN | apply below_drew1 | refine below_set ?_ GE1097.out | refine below_set ?_ GE1105.out | refine below_set ?_ GE1113.out | refine below_set ?_ GE1131.out | refine below_set ?_ GE1139.out) | exact HB.out)⟩
               ·rw [if_neg c103] at H
                have c103b0 : (t1138 == 0) = false := beq_eq_false_iff_ne.mpr c103
                have c103b1 : (t1138 != 0) = true := bne_iff_ne.mpr c103
                obtain rfl := Option.some.inj H
                go_wp2
                go_ret
                exact ⟨by first | rfl | (simp [errW_none, errW_some] <;> rfl) | (simp only [← hji53]; first | rfl | (simp [errW_none, errW_some] <;> rfl)) | (simp [*, errW_none, errW_some] <;> rfl), by repeat (first | (with_reducible first | exact HB.out | apply below_alloc | apply pw_below_drewN | apply below_drew1 | refine below_set ?_ GE1097.out | refine below_set ?_ GE1105.out | refine below_set ?_ GE1113.out | refine below_set ?_ GE1131.out | refine below_set ?_ GE1139.out) | exact HB.out)⟩
              ·rw [if_neg c102] at H
               have c102b0 : (t1130 == 0) = false := beq_eq_false_iff_ne.mpr c102
               have c102b1 : (t1130 != 0) = true := bne_iff_ne.mpr c102
               (first | rw [c102b0] | (simp only [i64_w, i32_w]; rw [c102b0]) | skip)
               (try rw [c102b1])
               obtain rfl := Option.some.inj H
               go_wp2
               go_ret
               exact ⟨by first | rfl | (simp [errW_none, errW_some] <;> rfl) | (simp only [← hji53]; first | rfl | (simp [errW_none, errW_some] <;> rfl)) | (simp [*, errW_none, errW_some] <;> rfl), by repeat (first | (with_reducible first | exact HB.out | apply below_alloc | apply pw_below_drewN | apply below_drew1 | refine below_set ?_ GE1097.out | refine below_set ?_ GE1105.out | refine below_set ?_ GE1113.out | refine below_set ?_ GE1131.out | refine below_set ?_ GE1139.out) | exact HB.out)⟩
 ·replace c7 := Bool.eq_false_iff.mpr c7
  subst c7
  have H1 : (some false) = some r := by rw [if_neg (show ¬ (false = true) by decide)] at H; exact H
  clear H
  have H := H1
  clear H1
  obtain rfl := Option.some.inj H
  go_wp2
  go_ret
  exact ⟨by first | rfl | (simp [errW_none, errW_some] <;> rfl) | (simp [*, errW_none, errW_some] <;> rfl), by repeat (first | (with_reducible first | exact HB.out | apply below_alloc | apply pw_below_drewN | apply below_drew1 | refine below_set ?_ GE1097.out) | exact HB.out)⟩
end Go.Proofs.Ythcfmdkhkikbcaa.T
