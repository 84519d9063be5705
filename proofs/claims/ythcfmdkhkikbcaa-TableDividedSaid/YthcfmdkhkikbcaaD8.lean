-- Written by wip/tools/myprint.py, a program of this session's.
import Derived.Test.YthcfmdkhkikbcaaD0
import Derived.Test.YthcfmdkhkikbcaaD1
import Derived.Test.YthcfmdkhkikbcaaD2
import Derived.Test.YthcfmdkhkikbcaaD4
namespace Go.Proofs.Ythcfmdkhkikbcaa.D
open Go.RowKit Go.Proofs.YthcfmdkhkikbcaaW.PrintWords Go.Proofs.YthcfmdkhkikbcaaW.PrintLast Go.Proofs.YthcfmdkhkikbcaaW.PrintMore
attribute [local go_sem] max2_int min2_int max_two min_two max_three min_three max_four min_four   -- for this text's walks alone
set_option linter.unusedVariables false
set_option linter.unusedSimpArgs false
/-! ### table_Same: function 33 -/
def table_Same.f (k : Nat) (l0_0 : List Int) (l0_1 : List Int) (l1_0 : List Int) (l1_1 : List Int) : Option (Bool × Int) := (table_Valid.f k l0_0 l0_1).bind fun t476 => (if t476 = 0 then ((table_Valid.f k l1_0 l1_1).bind fun t477 => (if t477 = 0 then ((table_vital.f k l0_0 l0_1).bind fun bt478 => ((table_vital.f k l1_0 l1_1).bind fun bt484 => ((slices_Equal_int_int.f k bt478.1 bt484.1).bind fun t492 => (if t492 = true then ((slices_Equal_int_int.f k bt478.2 bt484.2).bind fun t493 => (some (t493, 0))) else (some (false, 0)))))) else (some (false, t477)))) else (some (false, t476)))
theorem table_Same.mono : ∀ a0 a1 a2 a3 k, LeO (table_Same.f k a0 a1 a2 a3) (table_Same.f (k + 1) a0 a1 a2 a3) := by
 intro a0 a1 a2 a3 k
 unfold table_Same.f
 repeat' first
   | (with_reducible exact slices_Equal_int_int.mono _ _ _)
   | (with_reducible exact table_Valid.mono _ _ _)
   | (with_reducible exact table_vital.mono _ _ _)
   | (with_reducible exact LeO.refl _)
   | (with_reducible exact LeO.none _)
   | (with_reducible refine LeO.ite ?_ ?_)
   | (with_reducible refine LeO.bind ?_ (fun _ => ?_))
   | exact slices_Equal_int_int.mono _ _ _
   | exact table_Valid.mono _ _ _
   | exact table_vital.mono _ _ _
   | exact LeO.none _
   | refine LeO.ite ?_ ?_
   | refine LeO.bind ?_ (fun _ => ?_)
def table_Same.T7 : Bool × List (List Nat × List Nat) := (true, [([], []), ([0], [0]), ([], []), ([2, 1], [2]), ([], []), ([], []), ([4, 1, 3, 0, 1, 4, 5], [1, 4]), ([5, 3, 6, 0, 1, 2, 3, 4, 5, 6], [3, 5])])
def table_Same.B7 : List Nat := [0, 1, 0, 7, 0, 0, 63, 127]
theorem table_Same.tab7 : rtab .any (opsOf Try.f33 7) = table_Same.T7 := by kernel_rfl
theorem table_Same.bits7 : waitsOk table_Same.T7.2 table_Same.B7 = true := by kernel_rfl
set_option maxHeartbeats 8000000 in
set_option maxRecDepth 100000 in
theorem table_Same.calls (k : Nat) (A0_0 : Option Addr) (c0_0 : Nat) (l0_0 : List Int) (A0_1 : Option Addr) (c0_1 : Nat) (l0_1 : List Int) (A1_0 : Option Addr) (c1_0 : Nat) (l1_0 : List Int) (A1_1 : Option Addr) (c1_1 : Nat) (l1_1 : List Int) (r1 : Bool) (r2 : Int) (w : World) (hr0_0 : Kd.C (Kd.int .i64) w A0_0 l0_0.length l0_0) (hc0_0 : l0_0.length ≤ c0_0) (hr0_1 : Kd.C (Kd.int .i64) w A0_1 l0_1.length l0_1) (hc0_1 : l0_1.length ≤ c0_1) (hr1_0 : Kd.C (Kd.int .i64) w A1_0 l1_0.length l1_0) (hc1_0 : l1_0.length ≤ c1_0) (hr1_1 : Kd.C (Kd.int .i64) w A1_1 l1_1.length l1_1) (hc1_1 : l1_1.length ≤ c1_1) (h : table_Same.f k l0_0 l0_1 l1_0 l1_1 = some (r1, r2)) :
  Calls Try.prog 33 #[.agg #[.slice A0_0 l0_0.length c0_0, .slice A0_1 l0_1.length c0_1], .agg #[.slice A1_0 l1_0.length c1_0, .slice A1_1 l1_1.length c1_1]] w fun e w' => e = .returned (.tuple #[.bool r1, .int .i64 r2]) ∧ Below w.heap.size w w' := by
 have hu29 := Try.underlying29
 have hu27 := Try.underlying27
 have HR0_0 := Aside0.mk hr0_0
 have HC0_0 := Aside0.mk hc0_0
 clear hr0_0 hc0_0
 have HR0_1 := Aside0.mk hr0_1
 have HC0_1 := Aside0.mk hc0_1
 clear hr0_1 hc0_1
 have HR1_0 := Aside0.mk hr1_0
 have HC1_0 := Aside0.mk hc1_0
 clear hr1_0 hc1_0
 have HR1_1 := Aside0.mk hr1_1
 have HC1_1 := Aside0.mk hc1_1
 clear hr1_1 hc1_1
 have HB := Aside0.mk (Below.refl w.heap.size w)
 have H : ((table_Valid.f k l0_0 l0_1).bind fun t476 => (if t476 = 0 then ((table_Valid.f k l1_0 l1_1).bind fun t477 => (if t477 = 0 then ((table_vital.f k l0_0 l0_1).bind fun bt478 => ((table_vital.f k l1_0 l1_1).bind fun bt484 => ((slices_Equal_int_int.f k bt478.1 bt484.1).bind fun t492 => (if t492 = true then ((slices_Equal_int_int.f k bt478.2 bt484.2).bind fun t493 => (some (t493, 0))) else (some (false, 0)))))) else (some (false, t477)))) else (some (false, t476)))) = some (r1, r2) := h
 clear h
 replace H := Option.bind_eq_some_iff.mp H
 obtain ⟨t476, A30, H⟩ := H
 replace H : (if t476 = 0 then ((table_Valid.f k l1_0 l1_1).bind fun t477 => (if t477 = 0 then ((table_vital.f k l0_0 l0_1).bind fun bt478 => ((table_vital.f k l1_0 l1_1).bind fun bt484 => ((slices_Equal_int_int.f k bt478.1 bt484.1).bind fun t492 => (if t492 = true then ((slices_Equal_int_int.f k bt478.2 bt484.2).bind fun t493 => (some (t493, 0))) else (some (false, 0)))))) else (some (false, t477)))) else (some (false, t476))) = some (r1, r2) := H
 have A3 := Aside0.mk A30
 clear A30
 have HC4 := Aside0.mk H
 clear H
 go_enter Try.func33, Try.ntmps33
 go_upto_if 13 with (first | ((with_reducible refine gate_dst (N := 2) rfl ?_); refine box_event ?hg (N := 2) ?hd (cs := #[.slice A0_0 l0_0.length c0_0, .slice A0_1 l0_1.length c0_1]) (t := 29) ?hr ?_; (case hd => rfl); (case hg => rfl); (case hr => first | (go_simp; done) | (go_simp; rfl)); intro gb474 hg w5 hbox hb; have n0_ := Aside0.mk (below_step zB hb); have n1_ := Aside0.mk (hbox); have n2_ := Aside0.mk ((by rw [hg]; exact (below_size zB) : w.heap.size ≤ gb474)); have n3_ := Aside0.mk ((by rw [hg]; exact (below_size zB) : w.heap.size ≤ gb474)); clear HB; have HB := n0_; have BK474 := n1_; have GW474 := n2_; have GE474 := n3_; clear n0_ n1_ n2_ n3_; clear hb hbox hg) | ((with_reducible refine gate_dst (N := 3) rfl ?_); refine box_event ?hg (N := 3) ?hd (cs := #[.slice A1_0 l1_0.length c1_0, .slice A1_1 l1_1.length c1_1]) (t := 29) ?hr ?_; (case hd => rfl); (case hg => rfl); (case hr => first | (go_simp; done) | (go_simp; rfl)); intro gb475 hg w6 hbox hb; have n0_ := Aside0.mk (blk_below (g := gb474) (o := .cells #[.slice A0_0 l0_0.length c0_0, .slice A0_1 l0_1.length c0_1] 29 (0, 0)) (zk BK474) hb); have n1_ := Aside0.mk (below_step zB hb); have n2_ := Aside0.mk (hbox); have n3_ := Aside0.mk ((by rw [hg]; exact (below_size zB) : w.heap.size ≤ gb475)); have n4_ := Aside0.mk ((by rw [hg]; exact (below_size zB) : w.heap.size ≤ gb475)); have n5_ := Aside0.mk ((by rw [hg]; exact Nat.ne_of_lt (blk_lt (g := gb474) (o := .cells #[.slice A0_0 l0_0.length c0_0, .slice A0_1 l0_1.length c0_1] 29 (0, 0)) (zk BK474)) : gb474 ≠ gb475)); have n6_ := Aside0.mk ((by rw [hg]; exact Nat.ne_of_gt (blk_lt (g := gb474) (o := .cells #[.slice A0_0 l0_0.length c0_0, .slice A0_1 l0_1.length c0_1] 29 (0, 0)) (zk BK474)) : gb475 ≠ gb474)); clear BK474; clear HB; have BK474 := n0_; have HB := n1_; have BK475 := n2_; have GW475 := n3_; have GE475 := n4_; have NB474_475 := n5_; have NB475_474 := n6_; clear n0_ n1_ n2_ n3_ n4_ n5_ n6_; clear hb hbox hg; have hnb7 := NB474_475.out; have hnc7 := NB475_474.out; have hcz8_0 : w6.cell? ⟨gb474, 0, none⟩ = some (.slice A0_0 l0_0.length c0_0) := (blk_cell BK474.out 0).trans rfl; have hcz8_1 : w6.cell? ⟨gb474, 1, none⟩ = some (.slice A0_1 l0_1.length c0_1) := (blk_cell BK474.out 1).trans rfl; have hfz8_0 := blk_frozen BK474.out 0; have hfz8_1 := blk_frozen BK474.out 1) | ((with_reducible refine gate_callee (f := 25) rfl ?_); refine goesL_ (some 11) rfl rfl Try.func25 zK rfl #[.agg #[.slice A0_0 l0_0.length c0_0, .slice A0_1 l0_1.length c0_1]] rfl zM ?_; (with_reducible refine (table_Valid.calls k _ _ l0_0 _ _ l0_1 t476 _ ?side1 ?side2 ?side3 ?side4 A3.out).mono ?_); (case side1 => repeat (first | exact (Kd.C_below HR0_0.out HB.out) | (with_reducible refine Kd.C_alloc ?_ _) | (with_reducible refine Kd.C_drewN ?_ _) | (with_reducible refine Kd.C_drew ?_))); (case side2 => exact HC0_0.out); (case side3 => repeat (first | exact (Kd.C_below HR0_1.out HB.out) | (with_reducible refine Kd.C_alloc ?_ _) | (with_reducible refine Kd.C_drewN ?_ _) | (with_reducible refine Kd.C_drew ?_))); (case side4 => exact HC0_1.out); rintro e w9 ⟨rfl, hb⟩; refine ⟨_, rfl, ?_⟩; have n0_ := Aside0.mk (blk_below (g := gb474) (o := .cells #[.slice A0_0 l0_0.length c0_0, .slice A0_1 l0_1.length c0_1] 29 (0, 0)) (zk BK474) hb); have n1_ := Aside0.mk (blk_below (g := gb475) (o := .cells #[.slice A1_0 l1_0.length c1_0, .slice A1_1 l1_1.length c1_1] 29 (0, 0)) (zk BK475) hb); have n2_ := Aside0.mk (below_step zB hb); clear BK474; clear BK475; clear HB; have BK474 := n0_; have BK475 := n1_; have HB := n2_; clear n0_ n1_ n2_; (try clear hb); (try clear hb2); (try clear hk); (try clear hi)))
 (try simp only [Act.put, List.setIfInBounds_toArray, List.set_cons_zero, List.set_cons_succ])
 have H := HC4.out
 clear HC4
 by_cases c10 : t476 = 0
 ·rw [if_pos c10] at H
  have c10b0 : (t476 == 0) = true := beq_iff_eq.mpr c10
  have c10b1 : (t476 != 0) = false := bne_eq_false_iff_eq.mpr c10
  clear c10
  (first | rw [c10b0] | (simp only [i64_w, i32_w]; rw [c10b0]) | skip)
  (try rw [c10b1])
  replace H := Option.bind_eq_some_iff.mp H
  obtain ⟨t477, A110, H⟩ := H
  replace H : (if t477 = 0 then ((table_vital.f k l0_0 l0_1).bind fun bt478 => ((table_vital.f k l1_0 l1_1).bind fun bt484 => ((slices_Equal_int_int.f k bt478.1 bt484.1).bind fun t492 => (if t492 = true then ((slices_Equal_int_int.f k bt478.2 bt484.2).bind fun t493 => (some (t493, 0))) else (some (false, 0)))))) else (some (false, t477))) = some (r1, r2) := H
  have A11 := Aside0.mk A110
  clear A110
  have HC12 := Aside0.mk H
  clear H
  have hnb13 := NB475_474.out
  have hnc13 := NB474_475.out
  have hcz14_0 : w9.cell? ⟨gb475, 0, none⟩ = some (.slice A1_0 l1_0.length c1_0) := (blk_cell BK475.out 0).trans rfl
  have hcz14_1 : w9.cell? ⟨gb475, 1, none⟩ = some (.slice A1_1 l1_1.length c1_1) := (blk_cell BK475.out 1).trans rfl
  have hfz14_0 := blk_frozen BK475.out 0
  have hfz14_1 := blk_frozen BK475.out 1
  go_upto_if 18 with (first | ((with_reducible refine gate_callee (f := 25) rfl ?_); refine goesL_ (some 16) rfl rfl Try.func25 zK rfl #[.agg #[.slice A1_0 l1_0.length c1_0, .slice A1_1 l1_1.length c1_1]] rfl zM ?_; (with_reducible refine (table_Valid.calls k _ _ l1_0 _ _ l1_1 t477 _ ?side1 ?side2 ?side3 ?side4 A11.out).mono ?_); (case side1 => repeat (first | exact (Kd.C_below HR1_0.out HB.out) | (with_reducible refine Kd.C_alloc ?_ _) | (with_reducible refine Kd.C_drewN ?_ _) | (with_reducible refine Kd.C_drew ?_))); (case side2 => exact HC1_0.out); (case side3 => repeat (first | exact (Kd.C_below HR1_1.out HB.out) | (with_reducible refine Kd.C_alloc ?_ _) | (with_reducible refine Kd.C_drewN ?_ _) | (with_reducible refine Kd.C_drew ?_))); (case side4 => exact HC1_1.out); rintro e w15 ⟨rfl, hb⟩; refine ⟨_, rfl, ?_⟩; have n0_ := Aside0.mk (blk_below (g := gb474) (o := .cells #[.slice A0_0 l0_0.length c0_0, .slice A0_1 l0_1.length c0_1] 29 (0, 0)) (zk BK474) hb); have n1_ := Aside0.mk (blk_below (g := gb475) (o := .cells #[.slice A1_0 l1_0.length c1_0, .slice A1_1 l1_1.length c1_1] 29 (0, 0)) (zk BK475) hb); have n2_ := Aside0.mk (below_step zB hb); clear BK474; clear BK475; clear HB; have BK474 := n0_; have BK475 := n1_; have HB := n2_; clear n0_ n1_ n2_; (try clear hb); (try clear hb2); (try clear hk); (try clear hi)))
  (try simp only [Act.put, List.setIfInBounds_toArray, List.set_cons_zero, List.set_cons_succ])
  have H := HC12.out
  clear HC12
  by_cases c16 : t477 = 0
  ·rw [if_pos c16] at H
   have c16b0 : (t477 == 0) = true := beq_iff_eq.mpr c16
   have c16b1 : (t477 != 0) = false := bne_eq_false_iff_eq.mpr c16
   clear c16
   (first | rw [c16b0] | (simp only [i64_w, i32_w]; rw [c16b0]) | skip)
   (try rw [c16b1])
   replace H := Option.bind_eq_some_iff.mp H
   obtain ⟨⟨t478, t481⟩, A170, H⟩ := H
   replace H : ((table_vital.f k l1_0 l1_1).bind fun bt484 => ((slices_Equal_int_int.f k t478 bt484.1).bind fun t492 => (if t492 = true then ((slices_Equal_int_int.f k t481 bt484.2).bind fun t493 => (some (t493, 0))) else (some (false, 0))))) = some (r1, r2) := H
   have A17 := Aside0.mk A170
   clear A170
   replace H := Option.bind_eq_some_iff.mp H
   obtain ⟨⟨t484, t487⟩, A180, H⟩ := H
   replace H : ((slices_Equal_int_int.f k t478 t484).bind fun t492 => (if t492 = true then ((slices_Equal_int_int.f k t481 t487).bind fun t493 => (some (t493, 0))) else (some (false, 0)))) = some (r1, r2) := H
   have A18 := Aside0.mk A180
   clear A180
   have HC19 := Aside0.mk H
   clear H
   try go_wp2
   have n0_ := Aside0.mk (blk_drew BK474.out)
   have n1_ := Aside0.mk (blk_drew BK475.out)
   have n2_ := Aside0.mk (below_drew1 HB.out)
   clear BK474
   clear BK475
   clear HB
   have BK474 := n0_
   have BK475 := n1_
   have HB := n2_
   clear n0_ n1_ n2_
   refine start_ (n := 8) (S := fun w' => w'.cell? ⟨gb474, 0, none⟩ = some (.slice A0_0 l0_0.length c0_0) ∧ w'.cell? ⟨gb474, 1, none⟩ = some (.slice A0_1 l0_1.length c0_1) ∧ w'.cell? ⟨gb475, 0, none⟩ = some (.slice A1_0 l1_0.length c1_0) ∧ w'.cell? ⟨gb475, 1, none⟩ = some (.slice A1_1 l1_1.length c1_1)) (ds := []) #[false, false, false, false, false, false, false, false] zK rfl rfl ⟨(blk_cell BK474.out 0).trans rfl, (blk_cell BK474.out 1).trans rfl, (blk_cell BK475.out 0).trans rfl, (blk_cell BK475.out 1).trans rfl⟩ (fun hHeld => ?_); refine with_tabW table_Same.tab7 table_Same.bits7 (fun HT_ HW_ => ?_)
   generalize w15.drew = w20 at BK474 BK475 HB hHeld ⊢
   refine take_ (i := 0) (N := some 20) (v := ?_) (a' := ?_) #[true, false, false, false, false, false, false, false] rfl rfl (take_ofW HT_.out HW_.out zK) (fun _ _ _ h => h) (Or.inl ⟨by rfl, ?_⟩) hHeld ?_ ?_
   rotate_left
   ·rintro w' ⟨s0, s1, s2, s3⟩
    go_simp
    with_reducible rfl
   rotate_left
   ·simp only [Act.put, List.setIfInBounds_toArray, List.set_cons_zero, List.set_cons_succ, i64_w, i32_w]
    rfl
   refine take_ (i := 2) (N := some 22) (v := ?_) (a' := ?_) #[true, false, true, false, false, false, false, false] rfl rfl (take_ofW HT_.out HW_.out zK) (fun _ _ _ h => h) (Or.inl ⟨by rfl, ?_⟩) hHeld ?_ ?_
   rotate_left
   ·rintro w' ⟨s0, s1, s2, s3⟩
    go_simp
    with_reducible rfl
   rotate_left
   ·simp only [Act.put, List.setIfInBounds_toArray, List.set_cons_zero, List.set_cons_succ, i64_w, i32_w]
    rfl
   refine join_ (σ := Value × Value × Value × Value × Nat × Nat) 2 #[true, true, true, true, true, true, false, false] (fun s_ => [(21, .agg #[s_.1, s_.2.1]), (23, .agg #[s_.2.2.1, s_.2.2.2.1]), (8, .pointer (some ⟨s_.2.2.2.2.1, 0, none⟩)), (9, .pointer (some ⟨s_.2.2.2.2.2, 0, none⟩))]) (fun s_ w' => (w'.cell? ⟨gb474, 0, none⟩ = some (.slice A0_0 l0_0.length c0_0) ∧ w'.cell? ⟨gb474, 1, none⟩ = some (.slice A0_1 l0_1.length c0_1) ∧ w'.cell? ⟨gb475, 0, none⟩ = some (.slice A1_0 l1_0.length c1_0) ∧ w'.cell? ⟨gb475, 1, none⟩ = some (.slice A1_1 l1_1.length c1_1)) ∧ (Kd.R (Kd.int .i64) 3 w' w.heap.size (fun k_ => some k_ ≠ (s_.2.1 : Value).ownBlock ∧ some k_ ≠ (s_.2.2.1 : Value).ownBlock ∧ some k_ ≠ (s_.2.2.2.1 : Value).ownBlock) s_.1 t478) ∧ (Kd.R (Kd.int .i64) 3 w' w.heap.size (fun k_ => some k_ ≠ (s_.1 : Value).ownBlock ∧ some k_ ≠ (s_.2.2.1 : Value).ownBlock ∧ some k_ ≠ (s_.2.2.2.1 : Value).ownBlock) s_.2.1 t481) ∧ (Kd.R (Kd.int .i64) 3 w' w.heap.size (fun k_ => some k_ ≠ (s_.1 : Value).ownBlock ∧ some k_ ≠ (s_.2.1 : Value).ownBlock ∧ some k_ ≠ (s_.2.2.2.1 : Value).ownBlock) s_.2.2.1 t484) ∧ (Kd.R (Kd.int .i64) 3 w' w.heap.size (fun k_ => some k_ ≠ (s_.1 : Value).ownBlock ∧ some k_ ≠ (s_.2.1 : Value).ownBlock ∧ some k_ ≠ (s_.2.2.1 : Value).ownBlock) s_.2.2.2.1 t487) ∧ (w'.heap[gb474]? = some (.cells #[.slice A0_0 l0_0.length c0_0, .slice A0_1 l0_1.length c0_1] 29 (0, 0))) ∧ (w'.heap[gb475]? = some (.cells #[.slice A1_0 l1_0.length c1_0, .slice A1_1 l1_1.length c1_1] 29 (0, 0))) ∧ (w'.heap[s_.2.2.2.2.1]? = some (.cells #[.slice none 0 0, .slice none 0 0] 29 (0, 0))) ∧ (w'.heap[s_.2.2.2.2.2]? = some (.cells #[.slice none 0 0, .slice none 0 0] 29 (0, 0))) ∧ (w.heap.size ≤ s_.2.2.2.2.1) ∧ (w.heap.size ≤ s_.2.2.2.2.1) ∧ (gb474 ≠ s_.2.2.2.2.1) ∧ (s_.2.2.2.2.1 ≠ gb474) ∧ (gb475 ≠ s_.2.2.2.2.1) ∧ (s_.2.2.2.2.1 ≠ gb475) ∧ (s_.2.2.2.2.2 ≠ s_.2.2.2.2.1) ∧ (s_.2.2.2.2.1 ≠ s_.2.2.2.2.2) ∧ (w.heap.size ≤ s_.2.2.2.2.2) ∧ (w.heap.size ≤ s_.2.2.2.2.2) ∧ (gb474 ≠ s_.2.2.2.2.2) ∧ (s_.2.2.2.2.2 ≠ gb474) ∧ (gb475 ≠ s_.2.2.2.2.2) ∧ (s_.2.2.2.2.2 ≠ gb475) ∧ (Below w.heap.size w w')) ?_ ?_
   rotate_left
   ·intro hJ1_3_4_5
    refine join_ (σ := Value × Value × Value × Value × Nat) 3 #[true, true, true, true, true, false, false, false] (fun s_ => [(21, .agg #[s_.1, s_.2.1]), (23, .agg #[s_.2.2.1, s_.2.2.2.1]), (8, .pointer (some ⟨s_.2.2.2.2, 0, none⟩))]) (fun s_ w' => (w'.cell? ⟨gb474, 0, none⟩ = some (.slice A0_0 l0_0.length c0_0) ∧ w'.cell? ⟨gb474, 1, none⟩ = some (.slice A0_1 l0_1.length c0_1) ∧ w'.cell? ⟨gb475, 0, none⟩ = some (.slice A1_0 l1_0.length c1_0) ∧ w'.cell? ⟨gb475, 1, none⟩ = some (.slice A1_1 l1_1.length c1_1)) ∧ (Kd.R (Kd.int .i64) 3 w' w.heap.size (fun k_ => some k_ ≠ (s_.2.1 : Value).ownBlock ∧ some k_ ≠ (s_.2.2.1 : Value).ownBlock ∧ some k_ ≠ (s_.2.2.2.1 : Value).ownBlock) s_.1 t478) ∧ (Kd.R (Kd.int .i64) 3 w' w.heap.size (fun k_ => some k_ ≠ (s_.1 : Value).ownBlock ∧ some k_ ≠ (s_.2.2.1 : Value).ownBlock ∧ some k_ ≠ (s_.2.2.2.1 : Value).ownBlock) s_.2.1 t481) ∧ (Kd.R (Kd.int .i64) 3 w' w.heap.size (fun k_ => some k_ ≠ (s_.1 : Value).ownBlock ∧ some k_ ≠ (s_.2.1 : Value).ownBlock ∧ some k_ ≠ (s_.2.2.2.1 : Value).ownBlock) s_.2.2.1 t484) ∧ (Kd.R (Kd.int .i64) 3 w' w.heap.size (fun k_ => some k_ ≠ (s_.1 : Value).ownBlock ∧ some k_ ≠ (s_.2.1 : Value).ownBlock ∧ some k_ ≠ (s_.2.2.1 : Value).ownBlock) s_.2.2.2.1 t487) ∧ (w'.heap[gb474]? = some (.cells #[.slice A0_0 l0_0.length c0_0, .slice A0_1 l0_1.length c0_1] 29 (0, 0))) ∧ (w'.heap[gb475]? = some (.cells #[.slice A1_0 l1_0.length c1_0, .slice A1_1 l1_1.length c1_1] 29 (0, 0))) ∧ (w'.heap[s_.2.2.2.2]? = some (.cells #[.slice none 0 0, .slice none 0 0] 29 (0, 0))) ∧ (w.heap.size ≤ s_.2.2.2.2) ∧ (w.heap.size ≤ s_.2.2.2.2) ∧ (gb474 ≠ s_.2.2.2.2) ∧ (s_.2.2.2.2 ≠ gb474) ∧ (gb475 ≠ s_.2.2.2.2) ∧ (s_.2.2.2.2 ≠ gb475) ∧ (Below w.heap.size w w')) ?_ ?_
    rotate_left
    ·intro hJ1_3_4
     refine join_ (σ := Value × Value × Value × Value × Nat) 3 #[true, true, true, true, false, true, false, false] (fun s_ => [(21, .agg #[s_.1, s_.2.1]), (23, .agg #[s_.2.2.1, s_.2.2.2.1]), (9, .pointer (some ⟨s_.2.2.2.2, 0, none⟩))]) (fun s_ w' => (w'.cell? ⟨gb474, 0, none⟩ = some (.slice A0_0 l0_0.length c0_0) ∧ w'.cell? ⟨gb474, 1, none⟩ = some (.slice A0_1 l0_1.length c0_1) ∧ w'.cell? ⟨gb475, 0, none⟩ = some (.slice A1_0 l1_0.length c1_0) ∧ w'.cell? ⟨gb475, 1, none⟩ = some (.slice A1_1 l1_1.length c1_1)) ∧ (Kd.R (Kd.int .i64) 3 w' w.heap.size (fun k_ => some k_ ≠ (s_.2.1 : Value).ownBlock ∧ some k_ ≠ (s_.2.2.1 : Value).ownBlock ∧ some k_ ≠ (s_.2.2.2.1 : Value).ownBlock) s_.1 t478) ∧ (Kd.R (Kd.int .i64) 3 w' w.heap.size (fun k_ => some k_ ≠ (s_.1 : Value).ownBlock ∧ some k_ ≠ (s_.2.2.1 : Value).ownBlock ∧ some k_ ≠ (s_.2.2.2.1 : Value).ownBlock) s_.2.1 t481) ∧ (Kd.R (Kd.int .i64) 3 w' w.heap.size (fun k_ => some k_ ≠ (s_.1 : Value).ownBlock ∧ some k_ ≠ (s_.2.1 : Value).ownBlock ∧ some k_ ≠ (s_.2.2.2.1 : Value).ownBlock) s_.2.2.1 t484) ∧ (Kd.R (Kd.int .i64) 3 w' w.heap.size (fun k_ => some k_ ≠ (s_.1 : Value).ownBlock ∧ some k_ ≠ (s_.2.1 : Value).ownBlock ∧ some k_ ≠ (s_.2.2.1 : Value).ownBlock) s_.2.2.2.1 t487) ∧ (w'.heap[gb474]? = some (.cells #[.slice A0_0 l0_0.length c0_0, .slice A0_1 l0_1.length c0_1] 29 (0, 0))) ∧ (w'.heap[gb475]? = some (.cells #[.slice A1_0 l1_0.length c1_0, .slice A1_1 l1_1.length c1_1] 29 (0, 0))) ∧ (w'.heap[s_.2.2.2.2]? = some (.cells #[.slice none 0 0, .slice none 0 0] 29 (0, 0))) ∧ (w.heap.size ≤ s_.2.2.2.2) ∧ (w.heap.size ≤ s_.2.2.2.2) ∧ (gb474 ≠ s_.2.2.2.2) ∧ (s_.2.2.2.2 ≠ gb474) ∧ (gb475 ≠ s_.2.2.2.2) ∧ (s_.2.2.2.2 ≠ gb475) ∧ (Below w.heap.size w w')) ?_ ?_
     rotate_left
     ·intro hJ1_3_5
      refine join_ (σ := Value × Value × Nat × Nat) 3 #[true, true, true, false, true, true, false, false] (fun s_ => [(21, .agg #[s_.1, s_.2.1]), (8, .pointer (some ⟨s_.2.2.1, 0, none⟩)), (9, .pointer (some ⟨s_.2.2.2, 0, none⟩))]) (fun s_ w' => (w'.cell? ⟨gb474, 0, none⟩ = some (.slice A0_0 l0_0.length c0_0) ∧ w'.cell? ⟨gb474, 1, none⟩ = some (.slice A0_1 l0_1.length c0_1) ∧ w'.cell? ⟨gb475, 0, none⟩ = some (.slice A1_0 l1_0.length c1_0) ∧ w'.cell? ⟨gb475, 1, none⟩ = some (.slice A1_1 l1_1.length c1_1)) ∧ (Kd.R (Kd.int .i64) 3 w' w.heap.size (fun k_ => some k_ ≠ (s_.2.1 : Value).ownBlock) s_.1 t478) ∧ (Kd.R (Kd.int .i64) 3 w' w.heap.size (fun k_ => some k_ ≠ (s_.1 : Value).ownBlock) s_.2.1 t481) ∧ (w'.heap[gb474]? = some (.cells #[.slice A0_0 l0_0.length c0_0, .slice A0_1 l0_1.length c0_1] 29 (0, 0))) ∧ (w'.heap[gb475]? = some (.cells #[.slice A1_0 l1_0.length c1_0, .slice A1_1 l1_1.length c1_1] 29 (0, 0))) ∧ (w'.heap[s_.2.2.1]? = some (.cells #[.slice none 0 0, .slice none 0 0] 29 (0, 0))) ∧ (w'.heap[s_.2.2.2]? = some (.cells #[.slice none 0 0, .slice none 0 0] 29 (0, 0))) ∧ (w.heap.size ≤ s_.2.2.1) ∧ (w.heap.size ≤ s_.2.2.1) ∧ (gb474 ≠ s_.2.2.1) ∧ (s_.2.2.1 ≠ gb474) ∧ (gb475 ≠ s_.2.2.1) ∧ (s_.2.2.1 ≠ gb475) ∧ (s_.2.2.2 ≠ s_.2.2.1) ∧ (s_.2.2.1 ≠ s_.2.2.2) ∧ (w.heap.size ≤ s_.2.2.2) ∧ (w.heap.size ≤ s_.2.2.2) ∧ (gb474 ≠ s_.2.2.2) ∧ (s_.2.2.2 ≠ gb474) ∧ (gb475 ≠ s_.2.2.2) ∧ (s_.2.2.2 ≠ gb475) ∧ (Below w.heap.size w w')) ?_ ?_
      rotate_left
      ·intro hJ1_4_5
       refine join_ (σ := Value × Value × Value × Value) 4 #[true, true, true, true, false, false, false, false] (fun s_ => [(21, .agg #[s_.1, s_.2.1]), (23, .agg #[s_.2.2.1, s_.2.2.2])]) (fun s_ w' => (w'.cell? ⟨gb474, 0, none⟩ = some (.slice A0_0 l0_0.length c0_0) ∧ w'.cell? ⟨gb474, 1, none⟩ = some (.slice A0_1 l0_1.length c0_1) ∧ w'.cell? ⟨gb475, 0, none⟩ = some (.slice A1_0 l1_0.length c1_0) ∧ w'.cell? ⟨gb475, 1, none⟩ = some (.slice A1_1 l1_1.length c1_1)) ∧ (Kd.R (Kd.int .i64) 3 w' w.heap.size (fun k_ => some k_ ≠ (s_.2.1 : Value).ownBlock ∧ some k_ ≠ (s_.2.2.1 : Value).ownBlock ∧ some k_ ≠ (s_.2.2.2 : Value).ownBlock) s_.1 t478) ∧ (Kd.R (Kd.int .i64) 3 w' w.heap.size (fun k_ => some k_ ≠ (s_.1 : Value).ownBlock ∧ some k_ ≠ (s_.2.2.1 : Value).ownBlock ∧ some k_ ≠ (s_.2.2.2 : Value).ownBlock) s_.2.1 t481) ∧ (Kd.R (Kd.int .i64) 3 w' w.heap.size (fun k_ => some k_ ≠ (s_.1 : Value).ownBlock ∧ some k_ ≠ (s_.2.1 : Value).ownBlock ∧ some k_ ≠ (s_.2.2.2 : Value).ownBlock) s_.2.2.1 t484) ∧ (Kd.R (Kd.int .i64) 3 w' w.heap.size (fun k_ => some k_ ≠ (s_.1 : Value).ownBlock ∧ some k_ ≠ (s_.2.1 : Value).ownBlock ∧ some k_ ≠ (s_.2.2.1 : Value).ownBlock) s_.2.2.2 t487) ∧ (w'.heap[gb474]? = some (.cells #[.slice A0_0 l0_0.length c0_0, .slice A0_1 l0_1.length c0_1] 29 (0, 0))) ∧ (w'.heap[gb475]? = some (.cells #[.slice A1_0 l1_0.length c1_0, .slice A1_1 l1_1.length c1_1] 29 (0, 0))) ∧ (Below w.heap.size w w')) ?_ ?_
       rotate_left
       ·intro hJ1_3
        refine join_ (σ := Value × Value × Nat) 4 #[true, true, true, false, true, false, false, false] (fun s_ => [(21, .agg #[s_.1, s_.2.1]), (8, .pointer (some ⟨s_.2.2, 0, none⟩))]) (fun s_ w' => (w'.cell? ⟨gb474, 0, none⟩ = some (.slice A0_0 l0_0.length c0_0) ∧ w'.cell? ⟨gb474, 1, none⟩ = some (.slice A0_1 l0_1.length c0_1) ∧ w'.cell? ⟨gb475, 0, none⟩ = some (.slice A1_0 l1_0.length c1_0) ∧ w'.cell? ⟨gb475, 1, none⟩ = some (.slice A1_1 l1_1.length c1_1)) ∧ (Kd.R (Kd.int .i64) 3 w' w.heap.size (fun k_ => some k_ ≠ (s_.2.1 : Value).ownBlock) s_.1 t478) ∧ (Kd.R (Kd.int .i64) 3 w' w.heap.size (fun k_ => some k_ ≠ (s_.1 : Value).ownBlock) s_.2.1 t481) ∧ (w'.heap[gb474]? = some (.cells #[.slice A0_0 l0_0.length c0_0, .slice A0_1 l0_1.length c0_1] 29 (0, 0))) ∧ (w'.heap[gb475]? = some (.cells #[.slice A1_0 l1_0.length c1_0, .slice A1_1 l1_1.length c1_1] 29 (0, 0))) ∧ (w'.heap[s_.2.2]? = some (.cells #[.slice none 0 0, .slice none 0 0] 29 (0, 0))) ∧ (w.heap.size ≤ s_.2.2) ∧ (w.heap.size ≤ s_.2.2) ∧ (gb474 ≠ s_.2.2) ∧ (s_.2.2 ≠ gb474) ∧ (gb475 ≠ s_.2.2) ∧ (s_.2.2 ≠ gb475) ∧ (Below w.heap.size w w')) ?_ ?_
        rotate_left
        ·intro hJ1_4
         refine join_ (σ := Value × Value × Nat) 4 #[true, true, true, false, false, true, false, false] (fun s_ => [(21, .agg #[s_.1, s_.2.1]), (9, .pointer (some ⟨s_.2.2, 0, none⟩))]) (fun s_ w' => (w'.cell? ⟨gb474, 0, none⟩ = some (.slice A0_0 l0_0.length c0_0) ∧ w'.cell? ⟨gb474, 1, none⟩ = some (.slice A0_1 l0_1.length c0_1) ∧ w'.cell? ⟨gb475, 0, none⟩ = some (.slice A1_0 l1_0.length c1_0) ∧ w'.cell? ⟨gb475, 1, none⟩ = some (.slice A1_1 l1_1.length c1_1)) ∧ (Kd.R (Kd.int .i64) 3 w' w.heap.size (fun k_ => some k_ ≠ (s_.2.1 : Value).ownBlock) s_.1 t478) ∧ (Kd.R (Kd.int .i64) 3 w' w.heap.size (fun k_ => some k_ ≠ (s_.1 : Value).ownBlock) s_.2.1 t481) ∧ (w'.heap[gb474]? = some (.cells #[.slice A0_0 l0_0.length c0_0, .slice A0_1 l0_1.length c0_1] 29 (0, 0))) ∧ (w'.heap[gb475]? = some (.cells #[.slice A1_0 l1_0.length c1_0, .slice A1_1 l1_1.length c1_1] 29 (0, 0))) ∧ (w'.heap[s_.2.2]? = some (.cells #[.slice none 0 0, .slice none 0 0] 29 (0, 0))) ∧ (w.heap.size ≤ s_.2.2) ∧ (w.heap.size ≤ s_.2.2) ∧ (gb474 ≠ s_.2.2) ∧ (s_.2.2 ≠ gb474) ∧ (gb475 ≠ s_.2.2) ∧ (s_.2.2 ≠ gb475) ∧ (Below w.heap.size w w')) ?_ ?_
         rotate_left
         ·intro hJ1_5
          refine join_ (σ := Nat × Nat) 4 #[true, false, true, false, true, true, false, false] (fun s_ => [(8, .pointer (some ⟨s_.1, 0, none⟩)), (9, .pointer (some ⟨s_.2, 0, none⟩))]) (fun s_ w' => (w'.cell? ⟨gb474, 0, none⟩ = some (.slice A0_0 l0_0.length c0_0) ∧ w'.cell? ⟨gb474, 1, none⟩ = some (.slice A0_1 l0_1.length c0_1) ∧ w'.cell? ⟨gb475, 0, none⟩ = some (.slice A1_0 l1_0.length c1_0) ∧ w'.cell? ⟨gb475, 1, none⟩ = some (.slice A1_1 l1_1.length c1_1)) ∧ (w'.heap[gb474]? = some (.cells #[.slice A0_0 l0_0.length c0_0, .slice A0_1 l0_1.length c0_1] 29 (0, 0))) ∧ (w'.heap[gb475]? = some (.cells #[.slice A1_0 l1_0.length c1_0, .slice A1_1 l1_1.length c1_1] 29 (0, 0))) ∧ (w'.heap[s_.1]? = some (.cells #[.slice none 0 0, .slice none 0 0] 29 (0, 0))) ∧ (w'.heap[s_.2]? = some (.cells #[.slice none 0 0, .slice none 0 0] 29 (0, 0))) ∧ (w.heap.size ≤ s_.1) ∧ (w.heap.size ≤ s_.1) ∧ (gb474 ≠ s_.1) ∧ (s_.1 ≠ gb474) ∧ (gb475 ≠ s_.1) ∧ (s_.1 ≠ gb475) ∧ (s_.2 ≠ s_.1) ∧ (s_.1 ≠ s_.2) ∧ (w.heap.size ≤ s_.2) ∧ (w.heap.size ≤ s_.2) ∧ (gb474 ≠ s_.2) ∧ (s_.2 ≠ gb474) ∧ (gb475 ≠ s_.2) ∧ (s_.2 ≠ gb475) ∧ (Below w.heap.size w w')) ?_ ?_
          rotate_left
          ·intro hJ4_5
           refine join_ (σ := Value × Value) 5 #[true, true, true, false, false, false, false, false] (fun s_ => [(21, .agg #[s_.1, s_.2])]) (fun s_ w' => (w'.cell? ⟨gb474, 0, none⟩ = some (.slice A0_0 l0_0.length c0_0) ∧ w'.cell? ⟨gb474, 1, none⟩ = some (.slice A0_1 l0_1.length c0_1) ∧ w'.cell? ⟨gb475, 0, none⟩ = some (.slice A1_0 l1_0.length c1_0) ∧ w'.cell? ⟨gb475, 1, none⟩ = some (.slice A1_1 l1_1.length c1_1)) ∧ (Kd.R (Kd.int .i64) 3 w' w.heap.size (fun k_ => some k_ ≠ (s_.2 : Value).ownBlock) s_.1 t478) ∧ (Kd.R (Kd.int .i64) 3 w' w.heap.size (fun k_ => some k_ ≠ (s_.1 : Value).ownBlock) s_.2 t481) ∧ (w'.heap[gb474]? = some (.cells #[.slice A0_0 l0_0.length c0_0, .slice A0_1 l0_1.length c0_1] 29 (0, 0))) ∧ (w'.heap[gb475]? = some (.cells #[.slice A1_0 l1_0.length c1_0, .slice A1_1 l1_1.length c1_1] 29 (0, 0))) ∧ (Below w.heap.size w w')) ?_ ?_
           rotate_left
           ·intro hJ1
            refine join_ (σ := Nat) 5 #[true, false, true, false, true, false, false, false] (fun s_ => [(8, .pointer (some ⟨s_, 0, none⟩))]) (fun s_ w' => (w'.cell? ⟨gb474, 0, none⟩ = some (.slice A0_0 l0_0.length c0_0) ∧ w'.cell? ⟨gb474, 1, none⟩ = some (.slice A0_1 l0_1.length c0_1) ∧ w'.cell? ⟨gb475, 0, none⟩ = some (.slice A1_0 l1_0.length c1_0) ∧ w'.cell? ⟨gb475, 1, none⟩ = some (.slice A1_1 l1_1.length c1_1)) ∧ (w'.heap[gb474]? = some (.cells #[.slice A0_0 l0_0.length c0_0, .slice A0_1 l0_1.length c0_1] 29 (0, 0))) ∧ (w'.heap[gb475]? = some (.cells #[.slice A1_0 l1_0.length c1_0, .slice A1_1 l1_1.length c1_1] 29 (0, 0))) ∧ (w'.heap[s_]? = some (.cells #[.slice none 0 0, .slice none 0 0] 29 (0, 0))) ∧ (w.heap.size ≤ s_) ∧ (w.heap.size ≤ s_) ∧ (gb474 ≠ s_) ∧ (s_ ≠ gb474) ∧ (gb475 ≠ s_) ∧ (s_ ≠ gb475) ∧ (Below w.heap.size w w')) ?_ ?_
            rotate_left
            ·intro hJ4
             refine join_ (σ := Nat) 5 #[true, false, true, false, false, true, false, false] (fun s_ => [(9, .pointer (some ⟨s_, 0, none⟩))]) (fun s_ w' => (w'.cell? ⟨gb474, 0, none⟩ = some (.slice A0_0 l0_0.length c0_0) ∧ w'.cell? ⟨gb474, 1, none⟩ = some (.slice A0_1 l0_1.length c0_1) ∧ w'.cell? ⟨gb475, 0, none⟩ = some (.slice A1_0 l1_0.length c1_0) ∧ w'.cell? ⟨gb475, 1, none⟩ = some (.slice A1_1 l1_1.length c1_1)) ∧ (w'.heap[gb474]? = some (.cells #[.slice A0_0 l0_0.length c0_0, .slice A0_1 l0_1.length c0_1] 29 (0, 0))) ∧ (w'.heap[gb475]? = some (.cells #[.slice A1_0 l1_0.length c1_0, .slice A1_1 l1_1.length c1_1] 29 (0, 0))) ∧ (w'.heap[s_]? = some (.cells #[.slice none 0 0, .slice none 0 0] 29 (0, 0))) ∧ (w.heap.size ≤ s_) ∧ (w.heap.size ≤ s_) ∧ (gb474 ≠ s_) ∧ (s_ ≠ gb474) ∧ (gb475 ≠ s_) ∧ (s_ ≠ gb475) ∧ (Below w.heap.size w w')) ?_ ?_
             rotate_left
             ·intro hJ5
              refine three_ (i := 1) (j := 4) (k := 5) (Ni := some 21) (Nj := some 8) (Nk := some 9) #[true, true, true, false, false, false, false, false] #[true, false, true, false, true, false, false, false] #[true, false, true, false, false, true, false, false] rfl rfl rfl rfl rfl rfl (three_of HT_.out zK) (by decide) (by decide) (by decide) (fun K hK => ?_) (fun K hK => ?_) (fun K hK => ?_)
              ·skip
               refine goes_ Try.func51 zK rfl #[.agg #[.slice A0_0 l0_0.length c0_0, .slice A0_1 l0_1.length c0_1]] (by rfl) rfl rfl zM ?_
               with_reducible refine (table_vital.calls k _ _ l0_0 _ _ l0_1 t478 t481 _ ?side1 ?side2 ?side3 ?side4 A17.out).mono ?_
               (case side1 => repeat (first | exact (Kd.C_below HR0_0.out HB.out) | (with_reducible refine Kd.C_alloc ?_ _) | (with_reducible refine Kd.C_drewN ?_ _) | (with_reducible refine Kd.C_drew ?_)))
               (case side2 => exact HC0_0.out)
               (case side3 => repeat (first | exact (Kd.C_below HR0_1.out HB.out) | (with_reducible refine Kd.C_alloc ?_ _) | (with_reducible refine Kd.C_drewN ?_ _) | (with_reducible refine Kd.C_drew ?_)))
               (case side4 => exact HC0_1.out)
               rintro e w21 ⟨v479, v482, rfl, ho0, ho1, hb⟩
               refine ⟨_, rfl, ?_⟩
               have n0_ := Aside0.mk (Kd.R_lower ho0 (below_size zB))
               have n1_ := Aside0.mk (Kd.R_lower ho1 (below_size zB))
               have n2_ := Aside0.mk (blk_below (g := gb474) (o := .cells #[.slice A0_0 l0_0.length c0_0, .slice A0_1 l0_1.length c0_1] 29 (0, 0)) (zk BK474) hb)
               have n3_ := Aside0.mk (blk_below (g := gb475) (o := .cells #[.slice A1_0 l1_0.length c1_0, .slice A1_1 l1_1.length c1_1] 29 (0, 0)) (zk BK475) hb)
               have n4_ := Aside0.mk (below_step zB hb)
               clear BK474
               clear BK475
               clear HB
               have HO480 := n0_
               have HO483 := n1_
               have BK474 := n2_
               have BK475 := n3_
               have HB := n4_
               clear n0_ n1_ n2_ n3_ n4_
               (try clear hb)
               (try clear hb2)
               (try clear hk)
               (try clear hi)
               (try clear ho0)
               (try clear ho1)
               refine hK.out _ _ ⟨(blk_cell BK474.out 0).trans rfl, (blk_cell BK474.out 1).trans rfl, (blk_cell BK475.out 0).trans rfl, (blk_cell BK475.out 1).trans rfl⟩ (fun hHeld => ?_)
               clear hK K
               refine norm_ (a' := ?_) ?_ ?_
               rotate_left
               ·show Act.put _ (some 21) _ = _
                simp only [Act.put, List.setIfInBounds_toArray, List.set_cons_zero, List.set_cons_succ, i64_w, i32_w]
                rfl
               exact norm_ (by first | (simp only [putAll, Act.put, List.setIfInBounds_toArray, List.set_cons_zero, List.set_cons_succ]; done) | (simp only [putAll, Act.put, List.setIfInBounds_toArray, List.set_cons_zero, List.set_cons_succ]; rfl)) (hJ1 (v479, v482) _ ⟨hHeld, (zR HO480), (zR HO483), (zk BK474), (zk BK475), zB⟩)
              ·skip
               refine box_step ?hg (N := 8) ?hd (cs := #[.slice none 0 0, .slice none 0 0]) (t := 29) ?hr ?_; (case hd => rfl); (case hg => rfl); (case hr => first | (go_simp; done) | (go_simp; rfl))
               intro gb490 hg w21 hbox hb
               have n0_ := Aside0.mk (blk_below (g := gb474) (o := .cells #[.slice A0_0 l0_0.length c0_0, .slice A0_1 l0_1.length c0_1] 29 (0, 0)) (zk BK474) hb)
               have n1_ := Aside0.mk (blk_below (g := gb475) (o := .cells #[.slice A1_0 l1_0.length c1_0, .slice A1_1 l1_1.length c1_1] 29 (0, 0)) (zk BK475) hb)
               have n2_ := Aside0.mk (below_step zB hb)
               have n3_ := Aside0.mk (hbox)
               have n4_ := Aside0.mk ((by rw [hg]; exact (below_size zB) : w.heap.size ≤ gb490))
               have n5_ := Aside0.mk ((by rw [hg]; exact (below_size zB) : w.heap.size ≤ gb490))
               have n6_ := Aside0.mk ((by rw [hg]; exact Nat.ne_of_lt (blk_lt (g := gb474) (o := .cells #[.slice A0_0 l0_0.length c0_0, .slice A0_1 l0_1.length c0_1] 29 (0, 0)) (zk BK474)) : gb474 ≠ gb490))
               have n7_ := Aside0.mk ((by rw [hg]; exact Nat.ne_of_gt (blk_lt (g := gb474) (o := .cells #[.slice A0_0 l0_0.length c0_0, .slice A0_1 l0_1.length c0_1] 29 (0, 0)) (zk BK474)) : gb490 ≠ gb474))
               have n8_ := Aside0.mk ((by rw [hg]; exact Nat.ne_of_lt (blk_lt (g := gb475) (o := .cells #[.slice A1_0 l1_0.length c1_0, .slice A1_1 l1_1.length c1_1] 29 (0, 0)) (zk BK475)) : gb475 ≠ gb490))
               have n9_ := Aside0.mk ((by rw [hg]; exact Nat.ne_of_gt (blk_lt (g := gb475) (o := .cells #[.slice A1_0 l1_0.length c1_0, .slice A1_1 l1_1.length c1_1] 29 (0, 0)) (zk BK475)) : gb490 ≠ gb475))
               clear BK474
               clear BK475
               clear HB
               have BK474 := n0_
               have BK475 := n1_
               have HB := n2_
               have BK490 := n3_
               have GW490 := n4_
               have GE490 := n5_
               have NB474_490 := n6_
               have NB490_474 := n7_
               have NB475_490 := n8_
               have NB490_475 := n9_
               clear n0_ n1_ n2_ n3_ n4_ n5_ n6_ n7_ n8_ n9_
               clear hb hbox hg
               refine hK.out _ _ ⟨(blk_cell BK474.out 0).trans rfl, (blk_cell BK474.out 1).trans rfl, (blk_cell BK475.out 0).trans rfl, (blk_cell BK475.out 1).trans rfl⟩ (fun hHeld => ?_)
               clear hK K
               refine norm_ (a' := ?_) ?_ ?_
               rotate_left
               ·show Act.put _ (some 8) _ = _
                simp only [Act.put, List.setIfInBounds_toArray, List.set_cons_zero, List.set_cons_succ, i64_w, i32_w]
                rfl
               exact norm_ (by first | (simp only [putAll, Act.put, List.setIfInBounds_toArray, List.set_cons_zero, List.set_cons_succ]; done) | (simp only [putAll, Act.put, List.setIfInBounds_toArray, List.set_cons_zero, List.set_cons_succ]; rfl)) (hJ4 (gb490) _ ⟨hHeld, (zk BK474), (zk BK475), (zk BK490), GW490.out, GE490.out, NB474_490.out, NB490_474.out, NB475_490.out, NB490_475.out, zB⟩)
              ·skip
               refine box_step ?hg (N := 9) ?hd (cs := #[.slice none 0 0, .slice none 0 0]) (t := 29) ?hr ?_; (case hd => rfl); (case hg => rfl); (case hr => first | (go_simp; done) | (go_simp; rfl))
               intro gb491 hg w21 hbox hb
               have n0_ := Aside0.mk (blk_below (g := gb474) (o := .cells #[.slice A0_0 l0_0.length c0_0, .slice A0_1 l0_1.length c0_1] 29 (0, 0)) (zk BK474) hb)
               have n1_ := Aside0.mk (blk_below (g := gb475) (o := .cells #[.slice A1_0 l1_0.length c1_0, .slice A1_1 l1_1.length c1_1] 29 (0, 0)) (zk BK475) hb)
               have n2_ := Aside0.mk (below_step zB hb)
               have n3_ := Aside0.mk (hbox)
               have n4_ := Aside0.mk ((by rw [hg]; exact (below_size zB) : w.heap.size ≤ gb491))
               have n5_ := Aside0.mk ((by rw [hg]; exact (below_size zB) : w.heap.size ≤ gb491))
               have n6_ := Aside0.mk ((by rw [hg]; exact Nat.ne_of_lt (blk_lt (g := gb474) (o := .cells #[.slice A0_0 l0_0.length c0_0, .slice A0_1 l0_1.length c0_1] 29 (0, 0)) (zk BK474)) : gb474 ≠ gb491))
               have n7_ := Aside0.mk ((by rw [hg]; exact Nat.ne_of_gt (blk_lt (g := gb474) (o := .cells #[.slice A0_0 l0_0.length c0_0, .slice A0_1 l0_1.length c0_1] 29 (0, 0)) (zk BK474)) : gb491 ≠ gb474))
               have n8_ := Aside0.mk ((by rw [hg]; exact Nat.ne_of_lt (blk_lt (g := gb475) (o := .cells #[.slice A1_0 l1_0.length c1_0, .slice A1_1 l1_1.length c1_1] 29 (0, 0)) (zk BK475)) : gb475 ≠ gb491))
               have n9_ := Aside0.mk ((by rw [hg]; exact Nat.ne_of_gt (blk_lt (g := gb475) (o := .cells #[.slice A1_0 l1_0.length c1_0, .slice A1_1 l1_1.length c1_1] 29 (0, 0)) (zk BK475)) : gb491 ≠ gb475))
               clear BK474
               clear BK475
               clear HB
               have BK474 := n0_
               have BK475 := n1_
               have HB := n2_
               have BK491 := n3_
               have GW491 := n4_
               have GE491 := n5_
               have NB474_491 := n6_
               have NB491_474 := n7_
               have NB475_491 := n8_
               have NB491_475 := n9_
               clear n0_ n1_ n2_ n3_ n4_ n5_ n6_ n7_ n8_ n9_
               clear hb hbox hg
               refine hK.out _ _ ⟨(blk_cell BK474.out 0).trans rfl, (blk_cell BK474.out 1).trans rfl, (blk_cell BK475.out 0).trans rfl, (blk_cell BK475.out 1).trans rfl⟩ (fun hHeld => ?_)
               clear hK K
               refine norm_ (a' := ?_) ?_ ?_
               rotate_left
               ·show Act.put _ (some 9) _ = _
                simp only [Act.put, List.setIfInBounds_toArray, List.set_cons_zero, List.set_cons_succ, i64_w, i32_w]
                rfl
               exact norm_ (by first | (simp only [putAll, Act.put, List.setIfInBounds_toArray, List.set_cons_zero, List.set_cons_succ]; done) | (simp only [putAll, Act.put, List.setIfInBounds_toArray, List.set_cons_zero, List.set_cons_succ]; rfl)) (hJ5 (gb491) _ ⟨hHeld, (zk BK474), (zk BK475), (zk BK491), GW491.out, GE491.out, NB474_491.out, NB491_474.out, NB475_491.out, NB491_475.out, zB⟩)
             ·skip
              rintro gb491 w22 ⟨hS_, h0_, h1_, h2_, h3_, h4_, h5_, h6_, h7_, h8_, h9_⟩
              have n0_ : Aside0 (w22.heap[gb474]? = some (.cells #[.slice A0_0 l0_0.length c0_0, .slice A0_1 l0_1.length c0_1] 29 (0, 0))) := ⟨h0_⟩
              have n1_ : Aside0 (w22.heap[gb475]? = some (.cells #[.slice A1_0 l1_0.length c1_0, .slice A1_1 l1_1.length c1_1] 29 (0, 0))) := ⟨h1_⟩
              have n2_ : Aside0 (w22.heap[gb491]? = some (.cells #[.slice none 0 0, .slice none 0 0] 29 (0, 0))) := ⟨h2_⟩
              have n3_ : Aside0 (w.heap.size ≤ gb491) := ⟨h3_⟩
              have n4_ : Aside0 (w.heap.size ≤ gb491) := ⟨h4_⟩
              have n5_ : Aside0 (gb474 ≠ gb491) := ⟨h5_⟩
              have n6_ : Aside0 (gb491 ≠ gb474) := ⟨h6_⟩
              have n7_ : Aside0 (gb475 ≠ gb491) := ⟨h7_⟩
              have n8_ : Aside0 (gb491 ≠ gb475) := ⟨h8_⟩
              have n9_ : Aside0 (Below w.heap.size w w22) := ⟨h9_⟩
              clear BK474
              clear BK475
              clear HB
              clear h0_ h1_ h2_ h3_ h4_ h5_ h6_ h7_ h8_ h9_
              have BK474 := n0_
              have BK475 := n1_
              have BK491 := n2_
              have GW491 := n3_
              have GE491 := n4_
              have NB474_491 := n5_
              have NB491_474 := n6_
              have NB475_491 := n7_
              have NB491_475 := n8_
              have HB := n9_
              clear n0_ n1_ n2_ n3_ n4_ n5_ n6_ n7_ n8_ n9_
              have hHeld : w22.cell? ⟨gb474, 0, none⟩ = some (.slice A0_0 l0_0.length c0_0) ∧ w22.cell? ⟨gb474, 1, none⟩ = some (.slice A0_1 l0_1.length c0_1) ∧ w22.cell? ⟨gb475, 0, none⟩ = some (.slice A1_0 l1_0.length c1_0) ∧ w22.cell? ⟨gb475, 1, none⟩ = some (.slice A1_1 l1_1.length c1_1) := hS_
              refine norm_ (a' := ?_) ?_ ?_
              rotate_left
              ·simp only [putAll, Act.put, List.setIfInBounds_toArray, List.set_cons_zero, List.set_cons_succ]
               rfl
              refine two_ (i := 1) (j := 4) (Ni := some 21) (Nj := some 8) #[true, true, true, false, false, true, false, false] #[true, false, true, false, true, true, false, false] rfl rfl rfl rfl (two_of HT_.out zK) (by decide) (by decide) (fun K hK => ?_) (fun K hK => ?_)
              ·skip
               refine goes_ Try.func51 zK rfl #[.agg #[.slice A0_0 l0_0.length c0_0, .slice A0_1 l0_1.length c0_1]] (by rfl) rfl rfl zM ?_
               with_reducible refine (table_vital.calls k _ _ l0_0 _ _ l0_1 t478 t481 _ ?side1 ?side2 ?side3 ?side4 A17.out).mono ?_
               (case side1 => repeat (first | exact (Kd.C_below HR0_0.out HB.out) | (with_reducible refine Kd.C_alloc ?_ _) | (with_reducible refine Kd.C_drewN ?_ _) | (with_reducible refine Kd.C_drew ?_)))
               (case side2 => exact HC0_0.out)
               (case side3 => repeat (first | exact (Kd.C_below HR0_1.out HB.out) | (with_reducible refine Kd.C_alloc ?_ _) | (with_reducible refine Kd.C_drewN ?_ _) | (with_reducible refine Kd.C_drew ?_)))
               (case side4 => exact HC0_1.out)
               rintro e w23 ⟨v479, v482, rfl, ho0, ho1, hb⟩
               refine ⟨_, rfl, ?_⟩
               have n0_ := Aside0.mk (Kd.R_lower ho0 (below_size zB))
               have n1_ := Aside0.mk (Kd.R_lower ho1 (below_size zB))
               have n2_ := Aside0.mk (blk_below (g := gb474) (o := .cells #[.slice A0_0 l0_0.length c0_0, .slice A0_1 l0_1.length c0_1] 29 (0, 0)) (zk BK474) hb)
               have n3_ := Aside0.mk (blk_below (g := gb475) (o := .cells #[.slice A1_0 l1_0.length c1_0, .slice A1_1 l1_1.length c1_1] 29 (0, 0)) (zk BK475) hb)
               have n4_ := Aside0.mk (blk_below (g := gb491) (o := .cells #[.slice none 0 0, .slice none 0 0] 29 (0, 0)) (zk BK491) hb)
               have n5_ := Aside0.mk (below_step zB hb)
               clear BK474
               clear BK475
               clear BK491
               clear HB
               have HO480 := n0_
               have HO483 := n1_
               have BK474 := n2_
               have BK475 := n3_
               have BK491 := n4_
               have HB := n5_
               clear n0_ n1_ n2_ n3_ n4_ n5_
               (try clear hb)
               (try clear hb2)
               (try clear hk)
               (try clear hi)
               (try clear ho0)
               (try clear ho1)
               refine hK.out _ _ ⟨(blk_cell BK474.out 0).trans rfl, (blk_cell BK474.out 1).trans rfl, (blk_cell BK475.out 0).trans rfl, (blk_cell BK475.out 1).trans rfl⟩ (fun hHeld => ?_)
               clear hK K
               refine norm_ (a' := ?_) ?_ ?_
               rotate_left
               ·show Act.put _ (some 21) _ = _
                simp only [Act.put, List.setIfInBounds_toArray, List.set_cons_zero, List.set_cons_succ, i64_w, i32_w]
                rfl
               exact norm_ (by first | (simp only [putAll, Act.put, List.setIfInBounds_toArray, List.set_cons_zero, List.set_cons_succ]; done) | (simp only [putAll, Act.put, List.setIfInBounds_toArray, List.set_cons_zero, List.set_cons_succ]; rfl)) (hJ1_5 (v479, v482, gb491) _ ⟨hHeld, (zR HO480), (zR HO483), (zk BK474), (zk BK475), (zk BK491), GW491.out, GE491.out, NB474_491.out, NB491_474.out, NB475_491.out, NB491_475.out, zB⟩)
              ·skip
               refine box_step ?hg (N := 8) ?hd (cs := #[.slice none 0 0, .slice none 0 0]) (t := 29) ?hr ?_; (case hd => rfl); (case hg => rfl); (case hr => first | (go_simp; done) | (go_simp; rfl))
               intro gb490 hg w23 hbox hb
               have n0_ := Aside0.mk (blk_below (g := gb474) (o := .cells #[.slice A0_0 l0_0.length c0_0, .slice A0_1 l0_1.length c0_1] 29 (0, 0)) (zk BK474) hb)
               have n1_ := Aside0.mk (blk_below (g := gb475) (o := .cells #[.slice A1_0 l1_0.length c1_0, .slice A1_1 l1_1.length c1_1] 29 (0, 0)) (zk BK475) hb)
               have n2_ := Aside0.mk (blk_below (g := gb491) (o := .cells #[.slice none 0 0, .slice none 0 0] 29 (0, 0)) (zk BK491) hb)
               have n3_ := Aside0.mk (below_step zB hb)
               have n4_ := Aside0.mk (hbox)
               have n5_ := Aside0.mk ((by rw [hg]; exact (below_size zB) : w.heap.size ≤ gb490))
               have n6_ := Aside0.mk ((by rw [hg]; exact (below_size zB) : w.heap.size ≤ gb490))
               have n7_ := Aside0.mk ((by rw [hg]; exact Nat.ne_of_lt (blk_lt (g := gb474) (o := .cells #[.slice A0_0 l0_0.length c0_0, .slice A0_1 l0_1.length c0_1] 29 (0, 0)) (zk BK474)) : gb474 ≠ gb490))
               have n8_ := Aside0.mk ((by rw [hg]; exact Nat.ne_of_gt (blk_lt (g := gb474) (o := .cells #[.slice A0_0 l0_0.length c0_0, .slice A0_1 l0_1.length c0_1] 29 (0, 0)) (zk BK474)) : gb490 ≠ gb474))
               have n9_ := Aside0.mk ((by rw [hg]; exact Nat.ne_of_lt (blk_lt (g := gb475) (o := .cells #[.slice A1_0 l1_0.length c1_0, .slice A1_1 l1_1.length c1_1] 29 (0, 0)) (zk BK475)) : gb475 ≠ gb490))
               have n10_ := Aside0.mk ((by rw [hg]; exact Nat.ne_of_gt (blk_lt (g := gb475) (o := .cells #[.slice A1_0 l1_0.length c1_0, .slice A1_1 l1_1.length c1_1] 29 (0, 0)) (zk BK475)) : gb490 ≠ gb475))
               have n11_ := Aside0.mk ((by rw [hg]; exact Nat.ne_of_lt (blk_lt (g := gb491) (o := .cells #[.slice none 0 0, .slice none 0 0] 29 (0, 0)) (zk BK491)) : gb491 ≠ gb490))
               have n12_ := Aside0.mk ((by rw [hg]; exact Nat.ne_of_gt (blk_lt (g := gb491) (o := .cells #[.slice none 0 0, .slice none 0 0] 29 (0, 0)) (zk BK491)) : gb490 ≠ gb491))
               clear BK474
               clear BK475
               clear BK491
               clear HB
               have BK474 := n0_
               have BK475 := n1_
               have BK491 := n2_
               have HB := n3_
               have BK490 := n4_
               have GW490 := n5_
               have GE490 := n6_
               have NB474_490 := n7_
               have NB490_474 := n8_
               have NB475_490 := n9_
               have NB490_475 := n10_
               have NB491_490 := n11_
               have NB490_491 := n12_
               clear n0_ n1_ n2_ n3_ n4_ n5_ n6_ n7_ n8_ n9_ n10_ n11_ n12_
               clear hb hbox hg
               refine hK.out _ _ ⟨(blk_cell BK474.out 0).trans rfl, (blk_cell BK474.out 1).trans rfl, (blk_cell BK475.out 0).trans rfl, (blk_cell BK475.out 1).trans rfl⟩ (fun hHeld => ?_)
               clear hK K
               refine norm_ (a' := ?_) ?_ ?_
               rotate_left
               ·show Act.put _ (some 8) _ = _
                simp only [Act.put, List.setIfInBounds_toArray, List.set_cons_zero, List.set_cons_succ, i64_w, i32_w]
                rfl
               exact norm_ (by first | (simp only [putAll, Act.put, List.setIfInBounds_toArray, List.set_cons_zero, List.set_cons_succ]; done) | (simp only [putAll, Act.put, List.setIfInBounds_toArray, List.set_cons_zero, List.set_cons_succ]; rfl)) (hJ4_5 (gb490, gb491) _ ⟨hHeld, (zk BK474), (zk BK475), (zk BK490), (zk BK491), GW490.out, GE490.out, NB474_490.out, NB490_474.out, NB475_490.out, NB490_475.out, NB491_490.out, NB490_491.out, GW491.out, GE491.out, NB474_491.out, NB491_474.out, NB475_491.out, NB491_475.out, zB⟩)
            ·skip
             rintro gb490 w22 ⟨hS_, h0_, h1_, h2_, h3_, h4_, h5_, h6_, h7_, h8_, h9_⟩
             have n0_ : Aside0 (w22.heap[gb474]? = some (.cells #[.slice A0_0 l0_0.length c0_0, .slice A0_1 l0_1.length c0_1] 29 (0, 0))) := ⟨h0_⟩
             have n1_ : Aside0 (w22.heap[gb475]? = some (.cells #[.slice A1_0 l1_0.length c1_0, .slice A1_1 l1_1.length c1_1] 29 (0, 0))) := ⟨h1_⟩
             have n2_ : Aside0 (w22.heap[gb490]? = some (.cells #[.slice none 0 0, .slice none 0 0] 29 (0, 0))) := ⟨h2_⟩
             have n3_ : Aside0 (w.heap.size ≤ gb490) := ⟨h3_⟩
             have n4_ : Aside0 (w.heap.size ≤ gb490) := ⟨h4_⟩
             have n5_ : Aside0 (gb474 ≠ gb490) := ⟨h5_⟩
             have n6_ : Aside0 (gb490 ≠ gb474) := ⟨h6_⟩
             have n7_ : Aside0 (gb475 ≠ gb490) := ⟨h7_⟩
             have n8_ : Aside0 (gb490 ≠ gb475) := ⟨h8_⟩
             have n9_ : Aside0 (Below w.heap.size w w22) := ⟨h9_⟩
             clear BK474
             clear BK475
             clear HB
             clear h0_ h1_ h2_ h3_ h4_ h5_ h6_ h7_ h8_ h9_
             have BK474 := n0_
             have BK475 := n1_
             have BK490 := n2_
             have GW490 := n3_
             have GE490 := n4_
             have NB474_490 := n5_
             have NB490_474 := n6_
             have NB475_490 := n7_
             have NB490_475 := n8_
             have HB := n9_
             clear n0_ n1_ n2_ n3_ n4_ n5_ n6_ n7_ n8_ n9_
             have hHeld : w22.cell? ⟨gb474, 0, none⟩ = some (.slice A0_0 l0_0.length c0_0) ∧ w22.cell? ⟨gb474, 1, none⟩ = some (.slice A0_1 l0_1.length c0_1) ∧ w22.cell? ⟨gb475, 0, none⟩ = some (.slice A1_0 l1_0.length c1_0) ∧ w22.cell? ⟨gb475, 1, none⟩ = some (.slice A1_1 l1_1.length c1_1) := hS_
             refine norm_ (a' := ?_) ?_ ?_
             rotate_left
             ·simp only [putAll, Act.put, List.setIfInBounds_toArray, List.set_cons_zero, List.set_cons_succ]
              rfl
             refine two_ (i := 1) (j := 5) (Ni := some 21) (Nj := some 9) #[true, true, true, false, true, false, false, false] #[true, false, true, false, true, true, false, false] rfl rfl rfl rfl (two_of HT_.out zK) (by decide) (by decide) (fun K hK => ?_) (fun K hK => ?_)
             ·skip
              refine goes_ Try.func51 zK rfl #[.agg #[.slice A0_0 l0_0.length c0_0, .slice A0_1 l0_1.length c0_1]] (by rfl) rfl rfl zM ?_
              with_reducible refine (table_vital.calls k _ _ l0_0 _ _ l0_1 t478 t481 _ ?side1 ?side2 ?side3 ?side4 A17.out).mono ?_
              (case side1 => repeat (first | exact (Kd.C_below HR0_0.out HB.out) | (with_reducible refine Kd.C_alloc ?_ _) | (with_reducible refine Kd.C_drewN ?_ _) | (with_reducible refine Kd.C_drew ?_)))
              (case side2 => exact HC0_0.out)
              (case side3 => repeat (first | exact (Kd.C_below HR0_1.out HB.out) | (with_reducible refine Kd.C_alloc ?_ _) | (with_reducible refine Kd.C_drewN ?_ _) | (with_reducible refine Kd.C_drew ?_)))
              (case side4 => exact HC0_1.out)
              rintro e w23 ⟨v479, v482, rfl, ho0, ho1, hb⟩
              refine ⟨_, rfl, ?_⟩
              have n0_ := Aside0.mk (Kd.R_lower ho0 (below_size zB))
              have n1_ := Aside0.mk (Kd.R_lower ho1 (below_size zB))
              have n2_ := Aside0.mk (blk_below (g := gb474) (o := .cells #[.slice A0_0 l0_0.length c0_0, .slice A0_1 l0_1.length c0_1] 29 (0, 0)) (zk BK474) hb)
              have n3_ := Aside0.mk (blk_below (g := gb475) (o := .cells #[.slice A1_0 l1_0.length c1_0, .slice A1_1 l1_1.length c1_1] 29 (0, 0)) (zk BK475) hb)
              have n4_ := Aside0.mk (blk_below (g := gb490) (o := .cells #[.slice none 0 0, .slice none 0 0] 29 (0, 0)) (zk BK490) hb)
              have n5_ := Aside0.mk (below_step zB hb)
              clear BK474
              clear BK475
              clear BK490
              clear HB
              have HO480 := n0_
              have HO483 := n1_
              have BK474 := n2_
              have BK475 := n3_
              have BK490 := n4_
              have HB := n5_
              clear n0_ n1_ n2_ n3_ n4_ n5_
              (try clear hb)
              (try clear hb2)
              (try clear hk)
              (try clear hi)
              (try clear ho0)
              (try clear ho1)
              refine hK.out _ _ ⟨(blk_cell BK474.out 0).trans rfl, (blk_cell BK474.out 1).trans rfl, (blk_cell BK475.out 0).trans rfl, (blk_cell BK475.out 1).trans rfl⟩ (fun hHeld => ?_)
              clear hK K
              refine norm_ (a' := ?_) ?_ ?_
              rotate_left
              ·show Act.put _ (some 21) _ = _
               simp only [Act.put, List.setIfInBounds_toArray, List.set_cons_zero, List.set_cons_succ, i64_w, i32_w]
               rfl
              exact norm_ (by first | (simp only [putAll, Act.put, List.setIfInBounds_toArray, List.set_cons_zero, List.set_cons_succ]; done) | (simp only [putAll, Act.put, List.setIfInBounds_toArray, List.set_cons_zero, List.set_cons_succ]; rfl)) (hJ1_4 (v479, v482, gb490) _ ⟨hHeld, (zR HO480), (zR HO483), (zk BK474), (zk BK475), (zk BK490), GW490.out, GE490.out, NB474_490.out, NB490_474.out, NB475_490.out, NB490_475.out, zB⟩)
             ·skip
              refine box_step ?hg (N := 9) ?hd (cs := #[.slice none 0 0, .slice none 0 0]) (t := 29) ?hr ?_; (case hd => rfl); (case hg => rfl); (case hr => first | (go_simp; done) | (go_simp; rfl))
              intro gb491 hg w23 hbox hb
              have n0_ := Aside0.mk (blk_below (g := gb474) (o := .cells #[.slice A0_0 l0_0.length c0_0, .slice A0_1 l0_1.length c0_1] 29 (0, 0)) (zk BK474) hb)
              have n1_ := Aside0.mk (blk_below (g := gb475) (o := .cells #[.slice A1_0 l1_0.length c1_0, .slice A1_1 l1_1.length c1_1] 29 (0, 0)) (zk BK475) hb)
              have n2_ := Aside0.mk (blk_below (g := gb490) (o := .cells #[.slice none 0 0, .slice none 0 0] 29 (0, 0)) (zk BK490) hb)
              have n3_ := Aside0.mk (below_step zB hb)
              have n4_ := Aside0.mk (hbox)
              have n5_ := Aside0.mk ((by rw [hg]; exact (below_size zB) : w.heap.size ≤ gb491))
              have n6_ := Aside0.mk ((by rw [hg]; exact (below_size zB) : w.heap.size ≤ gb491))
              have n7_ := Aside0.mk ((by rw [hg]; exact Nat.ne_of_lt (blk_lt (g := gb474) (o := .cells #[.slice A0_0 l0_0.length c0_0, .slice A0_1 l0_1.length c0_1] 29 (0, 0)) (zk BK474)) : gb474 ≠ gb491))
              have n8_ := Aside0.mk ((by rw [hg]; exact Nat.ne_of_gt (blk_lt (g := gb474) (o := .cells #[.slice A0_0 l0_0.length c0_0, .slice A0_1 l0_1.length c0_1] 29 (0, 0)) (zk BK474)) : gb491 ≠ gb474))
              have n9_ := Aside0.mk ((by rw [hg]; exact Nat.ne_of_lt (blk_lt (g := gb475) (o := .cells #[.slice A1_0 l1_0.length c1_0, .slice A1_1 l1_1.length c1_1] 29 (0, 0)) (zk BK475)) : gb475 ≠ gb491))
              have n10_ := Aside0.mk ((by rw [hg]; exact Nat.ne_of_gt (blk_lt (g := gb475) (o := .cells #[.slice A1_0 l1_0.length c1_0, .slice A1_1 l1_1.length c1_1] 29 (0, 0)) (zk BK475)) : gb491 ≠ gb475))
              have n11_ := Aside0.mk ((by rw [hg]; exact Nat.ne_of_lt (blk_lt (g := gb490) (o := .cells #[.slice none 0 0, .slice none 0 0] 29 (0, 0)) (zk BK490)) : gb490 ≠ gb491))
              have n12_ := Aside0.mk ((by rw [hg]; exact Nat.ne_of_gt (blk_lt (g := gb490) (o := .cells #[.slice none 0 0, .slice none 0 0] 29 (0, 0)) (zk BK490)) : gb491 ≠ gb490))
              clear BK474
              clear BK475
              clear BK490
              clear HB
              have BK474 := n0_
              have BK475 := n1_
              have BK490 := n2_
              have HB := n3_
              have BK491 := n4_
              have GW491 := n5_
              have GE491 := n6_
              have NB474_491 := n7_
              have NB491_474 := n8_
              have NB475_491 := n9_
              have NB491_475 := n10_
              have NB490_491 := n11_
              have NB491_490 := n12_
              clear n0_ n1_ n2_ n3_ n4_ n5_ n6_ n7_ n8_ n9_ n10_ n11_ n12_
              clear hb hbox hg
              refine hK.out _ _ ⟨(blk_cell BK474.out 0).trans rfl, (blk_cell BK474.out 1).trans rfl, (blk_cell BK475.out 0).trans rfl, (blk_cell BK475.out 1).trans rfl⟩ (fun hHeld => ?_)
              clear hK K
              refine norm_ (a' := ?_) ?_ ?_
              rotate_left
              ·show Act.put _ (some 9) _ = _
               simp only [Act.put, List.setIfInBounds_toArray, List.set_cons_zero, List.set_cons_succ, i64_w, i32_w]
               rfl
              exact norm_ (by first | (simp only [putAll, Act.put, List.setIfInBounds_toArray, List.set_cons_zero, List.set_cons_succ]; done) | (simp only [putAll, Act.put, List.setIfInBounds_toArray, List.set_cons_zero, List.set_cons_succ]; rfl)) (hJ4_5 (gb490, gb491) _ ⟨hHeld, (zk BK474), (zk BK475), (zk BK490), (zk BK491), GW490.out, GE490.out, NB474_490.out, NB490_474.out, NB475_490.out, NB490_475.out, NB491_490.out, NB490_491.out, GW491.out, GE491.out, NB474_491.out, NB491_474.out, NB475_491.out, NB491_475.out, zB⟩)
           ·skip
            rintro ⟨v479, v482⟩ w22 ⟨hS_, h0_, h1_, h2_, h3_, h4_⟩
            have n0_ : Aside0 (Kd.R (Kd.int .i64) 3 w22 w.heap.size (fun k_ => some k_ ≠ (v482 : Value).ownBlock) v479 t478) := ⟨h0_⟩
            have n1_ : Aside0 (Kd.R (Kd.int .i64) 3 w22 w.heap.size (fun k_ => some k_ ≠ (v479 : Value).ownBlock) v482 t481) := ⟨h1_⟩
            have n2_ : Aside0 (w22.heap[gb474]? = some (.cells #[.slice A0_0 l0_0.length c0_0, .slice A0_1 l0_1.length c0_1] 29 (0, 0))) := ⟨h2_⟩
            have n3_ : Aside0 (w22.heap[gb475]? = some (.cells #[.slice A1_0 l1_0.length c1_0, .slice A1_1 l1_1.length c1_1] 29 (0, 0))) := ⟨h3_⟩
            have n4_ : Aside0 (Below w.heap.size w w22) := ⟨h4_⟩
            clear BK474
            clear BK475
            clear HB
            clear h0_ h1_ h2_ h3_ h4_
            have HO480 := n0_
            have HO483 := n1_
            have BK474 := n2_
            have BK475 := n3_
            have HB := n4_
            clear n0_ n1_ n2_ n3_ n4_
            have hHeld : w22.cell? ⟨gb474, 0, none⟩ = some (.slice A0_0 l0_0.length c0_0) ∧ w22.cell? ⟨gb474, 1, none⟩ = some (.slice A0_1 l0_1.length c0_1) ∧ w22.cell? ⟨gb475, 0, none⟩ = some (.slice A1_0 l1_0.length c1_0) ∧ w22.cell? ⟨gb475, 1, none⟩ = some (.slice A1_1 l1_1.length c1_1) := hS_
            refine norm_ (a' := ?_) ?_ ?_
            rotate_left
            ·simp only [putAll, Act.put, List.setIfInBounds_toArray, List.set_cons_zero, List.set_cons_succ]
             rfl
            refine three_ (i := 3) (j := 4) (k := 5) (Ni := some 23) (Nj := some 8) (Nk := some 9) #[true, true, true, true, false, false, false, false] #[true, true, true, false, true, false, false, false] #[true, true, true, false, false, true, false, false] rfl rfl rfl rfl rfl rfl (three_of HT_.out zK) (by decide) (by decide) (by decide) (fun K hK => ?_) (fun K hK => ?_) (fun K hK => ?_)
            ·skip
             refine goes_ Try.func51 zK rfl #[.agg #[.slice A1_0 l1_0.length c1_0, .slice A1_1 l1_1.length c1_1]] (by rfl) rfl rfl zM ?_
             with_reducible refine (table_vital.calls k _ _ l1_0 _ _ l1_1 t484 t487 _ ?side1 ?side2 ?side3 ?side4 A18.out).mono ?_
             (case side1 => repeat (first | exact (Kd.C_below HR1_0.out HB.out) | (with_reducible refine Kd.C_alloc ?_ _) | (with_reducible refine Kd.C_drewN ?_ _) | (with_reducible refine Kd.C_drew ?_)))
             (case side2 => exact HC1_0.out)
             (case side3 => repeat (first | exact (Kd.C_below HR1_1.out HB.out) | (with_reducible refine Kd.C_alloc ?_ _) | (with_reducible refine Kd.C_drewN ?_ _) | (with_reducible refine Kd.C_drew ?_)))
             (case side4 => exact HC1_1.out)
             rintro e w23 ⟨v485, v488, rfl, ho0, ho1, hb⟩
             refine ⟨_, rfl, ?_⟩
             have n0_ := Aside0.mk (Kd.R_mono (Kd.R_told (Kd.R_told (Kd.R_old (zR HO480) hb) (Kd.R_base ho0)) (Kd.R_base ho1)) (fun _ h_ => h_.1))
             have n1_ := Aside0.mk (Kd.R_mono (Kd.R_told (Kd.R_told (Kd.R_old (zR HO483) hb) (Kd.R_base ho0)) (Kd.R_base ho1)) (fun _ h_ => h_.1))
             have n2_ := Aside0.mk (Kd.R_lower (Kd.R_new' (Kd.R_new' ho0 (Kd.R_lt (zR HO480))) (Kd.R_lt (zR HO483))) (below_size zB))
             have n3_ := Aside0.mk (Kd.R_lower (Kd.R_new' (Kd.R_new' ho1 (Kd.R_lt (zR HO480))) (Kd.R_lt (zR HO483))) (below_size zB))
             have n4_ := Aside0.mk (blk_below (g := gb474) (o := .cells #[.slice A0_0 l0_0.length c0_0, .slice A0_1 l0_1.length c0_1] 29 (0, 0)) (zk BK474) hb)
             have n5_ := Aside0.mk (blk_below (g := gb475) (o := .cells #[.slice A1_0 l1_0.length c1_0, .slice A1_1 l1_1.length c1_1] 29 (0, 0)) (zk BK475) hb)
             have n6_ := Aside0.mk (below_step zB hb)
             clear HO480
             clear HO483
             clear BK474
             clear BK475
             clear HB
             have HO480 := n0_
             have HO483 := n1_
             have HO486 := n2_
             have HO489 := n3_
             have BK474 := n4_
             have BK475 := n5_
             have HB := n6_
             clear n0_ n1_ n2_ n3_ n4_ n5_ n6_
             (try clear hb)
             (try clear hb2)
             (try clear hk)
             (try clear hi)
             (try clear ho0)
             (try clear ho1)
             refine hK.out _ _ ⟨(blk_cell BK474.out 0).trans rfl, (blk_cell BK474.out 1).trans rfl, (blk_cell BK475.out 0).trans rfl, (blk_cell BK475.out 1).trans rfl⟩ (fun hHeld => ?_)
             clear hK K
             refine norm_ (a' := ?_) ?_ ?_
             rotate_left
             ·show Act.put _ (some 23) _ = _
              simp only [Act.put, List.setIfInBounds_toArray, List.set_cons_zero, List.set_cons_succ, i64_w, i32_w]
              rfl
             exact norm_ (by first | (simp only [putAll, Act.put, List.setIfInBounds_toArray, List.set_cons_zero, List.set_cons_succ]; done) | (simp only [putAll, Act.put, List.setIfInBounds_toArray, List.set_cons_zero, List.set_cons_succ]; rfl)) (hJ1_3 (v479, v482, v485, v488) _ ⟨hHeld, (by (with_reducible repeat (first | apply Kd.R_alloc | apply Kd.R_drewN | apply Kd.R_drew)); exact Kd.R_mono HO480.out (fun _ hk => ⟨hk.1.1, ⟨hk.1.2, hk.2⟩⟩)), (by (with_reducible repeat (first | apply Kd.R_alloc | apply Kd.R_drewN | apply Kd.R_drew)); exact Kd.R_mono HO483.out (fun _ hk => ⟨hk.1.1, ⟨hk.1.2, hk.2⟩⟩)), (by (with_reducible repeat (first | apply Kd.R_alloc | apply Kd.R_drewN | apply Kd.R_drew)); exact Kd.R_mono HO486.out (fun _ hk => ⟨hk.1.2, ⟨hk.2, hk.1.1⟩⟩)), (by (with_reducible repeat (first | apply Kd.R_alloc | apply Kd.R_drewN | apply Kd.R_drew)); exact Kd.R_mono HO489.out (fun _ hk => ⟨hk.1.2, ⟨hk.2, hk.1.1⟩⟩)), (zk BK474), (zk BK475), zB⟩)
            ·skip
             refine box_step ?hg (N := 8) ?hd (cs := #[.slice none 0 0, .slice none 0 0]) (t := 29) ?hr ?_; (case hd => rfl); (case hg => rfl); (case hr => first | (go_simp; done) | (go_simp; rfl))
             intro gb490 hg w23 hbox hb
             have n0_ := Aside0.mk (Kd.R_below (zR HO480) hb)
             have n1_ := Aside0.mk (Kd.R_below (zR HO483) hb)
             have n2_ := Aside0.mk (blk_below (g := gb474) (o := .cells #[.slice A0_0 l0_0.length c0_0, .slice A0_1 l0_1.length c0_1] 29 (0, 0)) (zk BK474) hb)
             have n3_ := Aside0.mk (blk_below (g := gb475) (o := .cells #[.slice A1_0 l1_0.length c1_0, .slice A1_1 l1_1.length c1_1] 29 (0, 0)) (zk BK475) hb)
             have n4_ := Aside0.mk (below_step zB hb)
             have n5_ := Aside0.mk (hbox)
             have n6_ := Aside0.mk ((by rw [hg]; exact (below_size zB) : w.heap.size ≤ gb490))
             have n7_ := Aside0.mk ((by rw [hg]; exact (below_size zB) : w.heap.size ≤ gb490))
             have n8_ := Aside0.mk ((by rw [hg]; exact Nat.ne_of_lt (blk_lt (g := gb474) (o := .cells #[.slice A0_0 l0_0.length c0_0, .slice A0_1 l0_1.length c0_1] 29 (0, 0)) (zk BK474)) : gb474 ≠ gb490))
             have n9_ := Aside0.mk ((by rw [hg]; exact Nat.ne_of_gt (blk_lt (g := gb474) (o := .cells #[.slice A0_0 l0_0.length c0_0, .slice A0_1 l0_1.length c0_1] 29 (0, 0)) (zk BK474)) : gb490 ≠ gb474))
             have n10_ := Aside0.mk ((by rw [hg]; exact Nat.ne_of_lt (blk_lt (g := gb475) (o := .cells #[.slice A1_0 l1_0.length c1_0, .slice A1_1 l1_1.length c1_1] 29 (0, 0)) (zk BK475)) : gb475 ≠ gb490))
             have n11_ := Aside0.mk ((by rw [hg]; exact Nat.ne_of_gt (blk_lt (g := gb475) (o := .cells #[.slice A1_0 l1_0.length c1_0, .slice A1_1 l1_1.length c1_1] 29 (0, 0)) (zk BK475)) : gb490 ≠ gb475))
             clear HO480
             clear HO483
             clear BK474
             clear BK475
             clear HB
             have HO480 := n0_
             have HO483 := n1_
             have BK474 := n2_
             have BK475 := n3_
             have HB := n4_
             have BK490 := n5_
             have GW490 := n6_
             have GE490 := n7_
             have NB474_490 := n8_
             have NB490_474 := n9_
             have NB475_490 := n10_
             have NB490_475 := n11_
             clear n0_ n1_ n2_ n3_ n4_ n5_ n6_ n7_ n8_ n9_ n10_ n11_
             clear hb hbox hg
             refine hK.out _ _ ⟨(blk_cell BK474.out 0).trans rfl, (blk_cell BK474.out 1).trans rfl, (blk_cell BK475.out 0).trans rfl, (blk_cell BK475.out 1).trans rfl⟩ (fun hHeld => ?_)
             clear hK K
             refine norm_ (a' := ?_) ?_ ?_
             rotate_left
             ·show Act.put _ (some 8) _ = _
              simp only [Act.put, List.setIfInBounds_toArray, List.set_cons_zero, List.set_cons_succ, i64_w, i32_w]
              rfl
             exact norm_ (by first | (simp only [putAll, Act.put, List.setIfInBounds_toArray, List.set_cons_zero, List.set_cons_succ]; done) | (simp only [putAll, Act.put, List.setIfInBounds_toArray, List.set_cons_zero, List.set_cons_succ]; rfl)) (hJ1_4 (v479, v482, gb490) _ ⟨hHeld, (zR HO480), (zR HO483), (zk BK474), (zk BK475), (zk BK490), GW490.out, GE490.out, NB474_490.out, NB490_474.out, NB475_490.out, NB490_475.out, zB⟩)
            ·skip
             refine box_step ?hg (N := 9) ?hd (cs := #[.slice none 0 0, .slice none 0 0]) (t := 29) ?hr ?_; (case hd => rfl); (case hg => rfl); (case hr => first | (go_simp; done) | (go_simp; rfl))
             intro gb491 hg w23 hbox hb
             have n0_ := Aside0.mk (Kd.R_below (zR HO480) hb)
             have n1_ := Aside0.mk (Kd.R_below (zR HO483) hb)
             have n2_ := Aside0.mk (blk_below (g := gb474) (o := .cells #[.slice A0_0 l0_0.length c0_0, .slice A0_1 l0_1.length c0_1] 29 (0, 0)) (zk BK474) hb)
             have n3_ := Aside0.mk (blk_below (g := gb475) (o := .cells #[.slice A1_0 l1_0.length c1_0, .slice A1_1 l1_1.length c1_1] 29 (0, 0)) (zk BK475) hb)
             have n4_ := Aside0.mk (below_step zB hb)
             have n5_ := Aside0.mk (hbox)
             have n6_ := Aside0.mk ((by rw [hg]; exact (below_size zB) : w.heap.size ≤ gb491))
             have n7_ := Aside0.mk ((by rw [hg]; exact (below_size zB) : w.heap.size ≤ gb491))
             have n8_ := Aside0.mk ((by rw [hg]; exact Nat.ne_of_lt (blk_lt (g := gb474) (o := .cells #[.slice A0_0 l0_0.length c0_0, .slice A0_1 l0_1.length c0_1] 29 (0, 0)) (zk BK474)) : gb474 ≠ gb491))
             have n9_ := Aside0.mk ((by rw [hg]; exact Nat.ne_of_gt (blk_lt (g := gb474) (o := .cells #[.slice A0_0 l0_0.length c0_0, .slice A0_1 l0_1.length c0_1] 29 (0, 0)) (zk BK474)) : gb491 ≠ gb474))
             have n10_ := Aside0.mk ((by rw [hg]; exact Nat.ne_of_lt (blk_lt (g := gb475) (o := .cells #[.slice A1_0 l1_0.length c1_0, .slice A1_1 l1_1.length c1_1] 29 (0, 0)) (zk BK475)) : gb475 ≠ gb491))
             have n11_ := Aside0.mk ((by rw [hg]; exact Nat.ne_of_gt (blk_lt (g := gb475) (o := .cells #[.slice A1_0 l1_0.length c1_0, .slice A1_1 l1_1.length c1_1] 29 (0, 0)) (zk BK475)) : gb491 ≠ gb475))
             clear HO480
             clear HO483
             clear BK474
             clear BK475
             clear HB
             have HO480 := n0_
             have HO483 := n1_
             have BK474 := n2_
             have BK475 := n3_
             have HB := n4_
             have BK491 := n5_
             have GW491 := n6_
             have GE491 := n7_
             have NB474_491 := n8_
             have NB491_474 := n9_
             have NB475_491 := n10_
             have NB491_475 := n11_
             clear n0_ n1_ n2_ n3_ n4_ n5_ n6_ n7_ n8_ n9_ n10_ n11_
             clear hb hbox hg
             refine hK.out _ _ ⟨(blk_cell BK474.out 0).trans rfl, (blk_cell BK474.out 1).trans rfl, (blk_cell BK475.out 0).trans rfl, (blk_cell BK475.out 1).trans rfl⟩ (fun hHeld => ?_)
             clear hK K
             refine norm_ (a' := ?_) ?_ ?_
             rotate_left
             ·show Act.put _ (some 9) _ = _
              simp only [Act.put, List.setIfInBounds_toArray, List.set_cons_zero, List.set_cons_succ, i64_w, i32_w]
              rfl
             exact norm_ (by first | (simp only [putAll, Act.put, List.setIfInBounds_toArray, List.set_cons_zero, List.set_cons_succ]; done) | (simp only [putAll, Act.put, List.setIfInBounds_toArray, List.set_cons_zero, List.set_cons_succ]; rfl)) (hJ1_5 (v479, v482, gb491) _ ⟨hHeld, (zR HO480), (zR HO483), (zk BK474), (zk BK475), (zk BK491), GW491.out, GE491.out, NB474_491.out, NB491_474.out, NB475_491.out, NB491_475.out, zB⟩)
          ·skip
           rintro ⟨gb490, gb491⟩ w23 ⟨hS_, h0_, h1_, h2_, h3_, h4_, h5_, h6_, h7_, h8_, h9_, h10_, h11_, h12_, h13_, h14_, h15_, h16_, h17_, h18_⟩
           have n0_ : Aside0 (w23.heap[gb474]? = some (.cells #[.slice A0_0 l0_0.length c0_0, .slice A0_1 l0_1.length c0_1] 29 (0, 0))) := ⟨h0_⟩
           have n1_ : Aside0 (w23.heap[gb475]? = some (.cells #[.slice A1_0 l1_0.length c1_0, .slice A1_1 l1_1.length c1_1] 29 (0, 0))) := ⟨h1_⟩
           have n2_ : Aside0 (w23.heap[gb490]? = some (.cells #[.slice none 0 0, .slice none 0 0] 29 (0, 0))) := ⟨h2_⟩
           have n3_ : Aside0 (w23.heap[gb491]? = some (.cells #[.slice none 0 0, .slice none 0 0] 29 (0, 0))) := ⟨h3_⟩
           have n4_ : Aside0 (w.heap.size ≤ gb490) := ⟨h4_⟩
           have n5_ : Aside0 (w.heap.size ≤ gb490) := ⟨h5_⟩
           have n6_ : Aside0 (gb474 ≠ gb490) := ⟨h6_⟩
           have n7_ : Aside0 (gb490 ≠ gb474) := ⟨h7_⟩
           have n8_ : Aside0 (gb475 ≠ gb490) := ⟨h8_⟩
           have n9_ : Aside0 (gb490 ≠ gb475) := ⟨h9_⟩
           have n10_ : Aside0 (gb491 ≠ gb490) := ⟨h10_⟩
           have n11_ : Aside0 (gb490 ≠ gb491) := ⟨h11_⟩
           have n12_ : Aside0 (w.heap.size ≤ gb491) := ⟨h12_⟩
           have n13_ : Aside0 (w.heap.size ≤ gb491) := ⟨h13_⟩
           have n14_ : Aside0 (gb474 ≠ gb491) := ⟨h14_⟩
           have n15_ : Aside0 (gb491 ≠ gb474) := ⟨h15_⟩
           have n16_ : Aside0 (gb475 ≠ gb491) := ⟨h16_⟩
           have n17_ : Aside0 (gb491 ≠ gb475) := ⟨h17_⟩
           have n18_ : Aside0 (Below w.heap.size w w23) := ⟨h18_⟩
           clear BK474
           clear BK475
           clear HB
           clear h0_ h1_ h2_ h3_ h4_ h5_ h6_ h7_ h8_ h9_ h10_ h11_ h12_ h13_ h14_ h15_ h16_ h17_ h18_
           have BK474 := n0_
           have BK475 := n1_
           have BK490 := n2_
           have BK491 := n3_
           have GW490 := n4_
           have GE490 := n5_
           have NB474_490 := n6_
           have NB490_474 := n7_
           have NB475_490 := n8_
           have NB490_475 := n9_
           have NB491_490 := n10_
           have NB490_491 := n11_
           have GW491 := n12_
           have GE491 := n13_
           have NB474_491 := n14_
           have NB491_474 := n15_
           have NB475_491 := n16_
           have NB491_475 := n17_
           have HB := n18_
           clear n0_ n1_ n2_ n3_ n4_ n5_ n6_ n7_ n8_ n9_ n10_ n11_ n12_ n13_ n14_ n15_ n16_ n17_ n18_
           have hHeld : w23.cell? ⟨gb474, 0, none⟩ = some (.slice A0_0 l0_0.length c0_0) ∧ w23.cell? ⟨gb474, 1, none⟩ = some (.slice A0_1 l0_1.length c0_1) ∧ w23.cell? ⟨gb475, 0, none⟩ = some (.slice A1_0 l1_0.length c1_0) ∧ w23.cell? ⟨gb475, 1, none⟩ = some (.slice A1_1 l1_1.length c1_1) := hS_
           refine norm_ (a' := ?_) ?_ ?_
           rotate_left
           ·simp only [putAll, Act.put, List.setIfInBounds_toArray, List.set_cons_zero, List.set_cons_succ]
            rfl
           refine one_ (i := 1) (N := some 21) #[true, true, true, false, true, true, false, false] rfl rfl (one_of HT_.out zK) (by decide) (fun K hK => ?_)
           refine goes_ Try.func51 zK rfl #[.agg #[.slice A0_0 l0_0.length c0_0, .slice A0_1 l0_1.length c0_1]] (by rfl) rfl rfl zM ?_
           with_reducible refine (table_vital.calls k _ _ l0_0 _ _ l0_1 t478 t481 _ ?side1 ?side2 ?side3 ?side4 A17.out).mono ?_
           (case side1 => repeat (first | exact (Kd.C_below HR0_0.out HB.out) | (with_reducible refine Kd.C_alloc ?_ _) | (with_reducible refine Kd.C_drewN ?_ _) | (with_reducible refine Kd.C_drew ?_)))
           (case side2 => exact HC0_0.out)
           (case side3 => repeat (first | exact (Kd.C_below HR0_1.out HB.out) | (with_reducible refine Kd.C_alloc ?_ _) | (with_reducible refine Kd.C_drewN ?_ _) | (with_reducible refine Kd.C_drew ?_)))
           (case side4 => exact HC0_1.out)
           rintro e w24 ⟨v479, v482, rfl, ho0, ho1, hb⟩
           refine ⟨_, rfl, ?_⟩
           have n0_ := Aside0.mk (Kd.R_lower ho0 (below_size zB))
           have n1_ := Aside0.mk (Kd.R_lower ho1 (below_size zB))
           have n2_ := Aside0.mk (blk_below (g := gb474) (o := .cells #[.slice A0_0 l0_0.length c0_0, .slice A0_1 l0_1.length c0_1] 29 (0, 0)) (zk BK474) hb)
           have n3_ := Aside0.mk (blk_below (g := gb475) (o := .cells #[.slice A1_0 l1_0.length c1_0, .slice A1_1 l1_1.length c1_1] 29 (0, 0)) (zk BK475) hb)
           have n4_ := Aside0.mk (blk_below (g := gb490) (o := .cells #[.slice none 0 0, .slice none 0 0] 29 (0, 0)) (zk BK490) hb)
           have n5_ := Aside0.mk (blk_below (g := gb491) (o := .cells #[.slice none 0 0, .slice none 0 0] 29 (0, 0)) (zk BK491) hb)
           have n6_ := Aside0.mk (below_step zB hb)
           clear BK474
           clear BK475
           clear BK490
           clear BK491
           clear HB
           have HO480 := n0_
           have HO483 := n1_
           have BK474 := n2_
           have BK475 := n3_
           have BK490 := n4_
           have BK491 := n5_
           have HB := n6_
           clear n0_ n1_ n2_ n3_ n4_ n5_ n6_
           (try clear hb)
           (try clear hb2)
           (try clear hk)
           (try clear hi)
           (try clear ho0)
           (try clear ho1)
           refine hK.out _ _ ⟨(blk_cell BK474.out 0).trans rfl, (blk_cell BK474.out 1).trans rfl, (blk_cell BK475.out 0).trans rfl, (blk_cell BK475.out 1).trans rfl⟩ (fun hHeld => ?_)
           clear hK K
           refine norm_ (a' := ?_) ?_ ?_
           rotate_left
           ·show Act.put _ (some 21) _ = _
            simp only [Act.put, List.setIfInBounds_toArray, List.set_cons_zero, List.set_cons_succ, i64_w, i32_w]
            rfl
           exact norm_ (by first | (simp only [putAll, Act.put, List.setIfInBounds_toArray, List.set_cons_zero, List.set_cons_succ]; done) | (simp only [putAll, Act.put, List.setIfInBounds_toArray, List.set_cons_zero, List.set_cons_succ]; rfl)) (hJ1_4_5 (v479, v482, gb490, gb491) _ ⟨hHeld, (zR HO480), (zR HO483), (zk BK474), (zk BK475), (zk BK490), (zk BK491), GW490.out, GE490.out, NB474_490.out, NB490_474.out, NB475_490.out, NB490_475.out, NB491_490.out, NB490_491.out, GW491.out, GE491.out, NB474_491.out, NB491_474.out, NB475_491.out, NB491_475.out, zB⟩)
         ·skip
          rintro ⟨v479, v482, gb491⟩ w23 ⟨hS_, h0_, h1_, h2_, h3_, h4_, h5_, h6_, h7_, h8_, h9_, h10_, h11_⟩
          have n0_ : Aside0 (Kd.R (Kd.int .i64) 3 w23 w.heap.size (fun k_ => some k_ ≠ (v482 : Value).ownBlock) v479 t478) := ⟨h0_⟩
          have n1_ : Aside0 (Kd.R (Kd.int .i64) 3 w23 w.heap.size (fun k_ => some k_ ≠ (v479 : Value).ownBlock) v482 t481) := ⟨h1_⟩
          have n2_ : Aside0 (w23.heap[gb474]? = some (.cells #[.slice A0_0 l0_0.length c0_0, .slice A0_1 l0_1.length c0_1] 29 (0, 0))) := ⟨h2_⟩
          have n3_ : Aside0 (w23.heap[gb475]? = some (.cells #[.slice A1_0 l1_0.length c1_0, .slice A1_1 l1_1.length c1_1] 29 (0, 0))) := ⟨h3_⟩
          have n4_ : Aside0 (w23.heap[gb491]? = some (.cells #[.slice none 0 0, .slice none 0 0] 29 (0, 0))) := ⟨h4_⟩
          have n5_ : Aside0 (w.heap.size ≤ gb491) := ⟨h5_⟩
          have n6_ : Aside0 (w.heap.size ≤ gb491) := ⟨h6_⟩
          have n7_ : Aside0 (gb474 ≠ gb491) := ⟨h7_⟩
          have n8_ : Aside0 (gb491 ≠ gb474) := ⟨h8_⟩
          have n9_ : Aside0 (gb475 ≠ gb491) := ⟨h9_⟩
          have n10_ : Aside0 (gb491 ≠ gb475) := ⟨h10_⟩
          have n11_ : Aside0 (Below w.heap.size w w23) := ⟨h11_⟩
          clear BK474
          clear BK475
          clear HB
          clear h0_ h1_ h2_ h3_ h4_ h5_ h6_ h7_ h8_ h9_ h10_ h11_
          have HO480 := n0_
          have HO483 := n1_
          have BK474 := n2_
          have BK475 := n3_
          have BK491 := n4_
          have GW491 := n5_
          have GE491 := n6_
          have NB474_491 := n7_
          have NB491_474 := n8_
          have NB475_491 := n9_
          have NB491_475 := n10_
          have HB := n11_
          clear n0_ n1_ n2_ n3_ n4_ n5_ n6_ n7_ n8_ n9_ n10_ n11_
          have hHeld : w23.cell? ⟨gb474, 0, none⟩ = some (.slice A0_0 l0_0.length c0_0) ∧ w23.cell? ⟨gb474, 1, none⟩ = some (.slice A0_1 l0_1.length c0_1) ∧ w23.cell? ⟨gb475, 0, none⟩ = some (.slice A1_0 l1_0.length c1_0) ∧ w23.cell? ⟨gb475, 1, none⟩ = some (.slice A1_1 l1_1.length c1_1) := hS_
          refine norm_ (a' := ?_) ?_ ?_
          rotate_left
          ·simp only [putAll, Act.put, List.setIfInBounds_toArray, List.set_cons_zero, List.set_cons_succ]
           rfl
          refine two_ (i := 3) (j := 4) (Ni := some 23) (Nj := some 8) #[true, true, true, true, false, true, false, false] #[true, true, true, false, true, true, false, false] rfl rfl rfl rfl (two_of HT_.out zK) (by decide) (by decide) (fun K hK => ?_) (fun K hK => ?_)
          ·skip
           refine goes_ Try.func51 zK rfl #[.agg #[.slice A1_0 l1_0.length c1_0, .slice A1_1 l1_1.length c1_1]] (by rfl) rfl rfl zM ?_
           with_reducible refine (table_vital.calls k _ _ l1_0 _ _ l1_1 t484 t487 _ ?side1 ?side2 ?side3 ?side4 A18.out).mono ?_
           (case side1 => repeat (first | exact (Kd.C_below HR1_0.out HB.out) | (with_reducible refine Kd.C_alloc ?_ _) | (with_reducible refine Kd.C_drewN ?_ _) | (with_reducible refine Kd.C_drew ?_)))
           (case side2 => exact HC1_0.out)
           (case side3 => repeat (first | exact (Kd.C_below HR1_1.out HB.out) | (with_reducible refine Kd.C_alloc ?_ _) | (with_reducible refine Kd.C_drewN ?_ _) | (with_reducible refine Kd.C_drew ?_)))
           (case side4 => exact HC1_1.out)
           rintro e w24 ⟨v485, v488, rfl, ho0, ho1, hb⟩
           refine ⟨_, rfl, ?_⟩
           have n0_ := Aside0.mk (Kd.R_mono (Kd.R_told (Kd.R_told (Kd.R_old (zR HO480) hb) (Kd.R_base ho0)) (Kd.R_base ho1)) (fun _ h_ => h_.1))
           have n1_ := Aside0.mk (Kd.R_mono (Kd.R_told (Kd.R_told (Kd.R_old (zR HO483) hb) (Kd.R_base ho0)) (Kd.R_base ho1)) (fun _ h_ => h_.1))
           have n2_ := Aside0.mk (Kd.R_lower (Kd.R_new' (Kd.R_new' ho0 (Kd.R_lt (zR HO480))) (Kd.R_lt (zR HO483))) (below_size zB))
           have n3_ := Aside0.mk (Kd.R_lower (Kd.R_new' (Kd.R_new' ho1 (Kd.R_lt (zR HO480))) (Kd.R_lt (zR HO483))) (below_size zB))
           have n4_ := Aside0.mk (blk_below (g := gb474) (o := .cells #[.slice A0_0 l0_0.length c0_0, .slice A0_1 l0_1.length c0_1] 29 (0, 0)) (zk BK474) hb)
           have n5_ := Aside0.mk (blk_below (g := gb475) (o := .cells #[.slice A1_0 l1_0.length c1_0, .slice A1_1 l1_1.length c1_1] 29 (0, 0)) (zk BK475) hb)
           have n6_ := Aside0.mk (blk_below (g := gb491) (o := .cells #[.slice none 0 0, .slice none 0 0] 29 (0, 0)) (zk BK491) hb)
           have n7_ := Aside0.mk (below_step zB hb)
           clear HO480
           clear HO483
           clear BK474
           clear BK475
           clear BK491
           clear HB
           have HO480 := n0_
           have HO483 := n1_
           have HO486 := n2_
           have HO489 := n3_
           have BK474 := n4_
           have BK475 := n5_
           have BK491 := n6_
           have HB := n7_
           clear n0_ n1_ n2_ n3_ n4_ n5_ n6_ n7_
           (try clear hb)
           (try clear hb2)
           (try clear hk)
           (try clear hi)
           (try clear ho0)
           (try clear ho1)
           refine hK.out _ _ ⟨(blk_cell BK474.out 0).trans rfl, (blk_cell BK474.out 1).trans rfl, (blk_cell BK475.out 0).trans rfl, (blk_cell BK475.out 1).trans rfl⟩ (fun hHeld => ?_)
           clear hK K
           refine norm_ (a' := ?_) ?_ ?_
           rotate_left
           ·show Act.put _ (some 23) _ = _
            simp only [Act.put, List.setIfInBounds_toArray, List.set_cons_zero, List.set_cons_succ, i64_w, i32_w]
            rfl
           exact norm_ (by first | (simp only [putAll, Act.put, List.setIfInBounds_toArray, List.set_cons_zero, List.set_cons_succ]; done) | (simp only [putAll, Act.put, List.setIfInBounds_toArray, List.set_cons_zero, List.set_cons_succ]; rfl)) (hJ1_3_5 (v479, v482, v485, v488, gb491) _ ⟨hHeld, (by (with_reducible repeat (first | apply Kd.R_alloc | apply Kd.R_drewN | apply Kd.R_drew)); exact Kd.R_mono HO480.out (fun _ hk => ⟨hk.1.1, ⟨hk.1.2, hk.2⟩⟩)), (by (with_reducible repeat (first | apply Kd.R_alloc | apply Kd.R_drewN | apply Kd.R_drew)); exact Kd.R_mono HO483.out (fun _ hk => ⟨hk.1.1, ⟨hk.1.2, hk.2⟩⟩)), (by (with_reducible repeat (first | apply Kd.R_alloc | apply Kd.R_drewN | apply Kd.R_drew)); exact Kd.R_mono HO486.out (fun _ hk => ⟨hk.1.2, ⟨hk.2, hk.1.1⟩⟩)), (by (with_reducible repeat (first | apply Kd.R_alloc | apply Kd.R_drewN | apply Kd.R_drew)); exact Kd.R_mono HO489.out (fun _ hk => ⟨hk.1.2, ⟨hk.2, hk.1.1⟩⟩)), (zk BK474), (zk BK475), (zk BK491), GW491.out, GE491.out, NB474_491.out, NB491_474.out, NB475_491.out, NB491_475.out, zB⟩)
          ·skip
           refine box_step ?hg (N := 8) ?hd (cs := #[.slice none 0 0, .slice none 0 0]) (t := 29) ?hr ?_; (case hd => rfl); (case hg => rfl); (case hr => first | (go_simp; done) | (go_simp; rfl))
           intro gb490 hg w24 hbox hb
           have n0_ := Aside0.mk (Kd.R_below (zR HO480) hb)
           have n1_ := Aside0.mk (Kd.R_below (zR HO483) hb)
           have n2_ := Aside0.mk (blk_below (g := gb474) (o := .cells #[.slice A0_0 l0_0.length c0_0, .slice A0_1 l0_1.length c0_1] 29 (0, 0)) (zk BK474) hb)
           have n3_ := Aside0.mk (blk_below (g := gb475) (o := .cells #[.slice A1_0 l1_0.length c1_0, .slice A1_1 l1_1.length c1_1] 29 (0, 0)) (zk BK475) hb)
           have n4_ := Aside0.mk (blk_below (g := gb491) (o := .cells #[.slice none 0 0, .slice none 0 0] 29 (0, 0)) (zk BK491) hb)
           have n5_ := Aside0.mk (below_step zB hb)
           have n6_ := Aside0.mk (hbox)
           have n7_ := Aside0.mk ((by rw [hg]; exact (below_size zB) : w.heap.size ≤ gb490))
           have n8_ := Aside0.mk ((by rw [hg]; exact (below_size zB) : w.heap.size ≤ gb490))
           have n9_ := Aside0.mk ((by rw [hg]; exact Nat.ne_of_lt (blk_lt (g := gb474) (o := .cells #[.slice A0_0 l0_0.length c0_0, .slice A0_1 l0_1.length c0_1] 29 (0, 0)) (zk BK474)) : gb474 ≠ gb490))
           have n10_ := Aside0.mk ((by rw [hg]; exact Nat.ne_of_gt (blk_lt (g := gb474) (o := .cells #[.slice A0_0 l0_0.length c0_0, .slice A0_1 l0_1.length c0_1] 29 (0, 0)) (zk BK474)) : gb490 ≠ gb474))
           have n11_ := Aside0.mk ((by rw [hg]; exact Nat.ne_of_lt (blk_lt (g := gb475) (o := .cells #[.slice A1_0 l1_0.length c1_0, .slice A1_1 l1_1.length c1_1] 29 (0, 0)) (zk BK475)) : gb475 ≠ gb490))
           have n12_ := Aside0.mk ((by rw [hg]; exact Nat.ne_of_gt (blk_lt (g := gb475) (o := .cells #[.slice A1_0 l1_0.length c1_0, .slice A1_1 l1_1.length c1_1] 29 (0, 0)) (zk BK475)) : gb490 ≠ gb475))
           have n13_ := Aside0.mk ((by rw [hg]; exact Nat.ne_of_lt (blk_lt (g := gb491) (o := .cells #[.slice none 0 0, .slice none 0 0] 29 (0, 0)) (zk BK491)) : gb491 ≠ gb490))
           have n14_ := Aside0.mk ((by rw [hg]; exact Nat.ne_of_gt (blk_lt (g := gb491) (o := .cells #[.slice none 0 0, .slice none 0 0] 29 (0, 0)) (zk BK491)) : gb490 ≠ gb491))
           clear HO480
           clear HO483
           clear BK474
           clear BK475
           clear BK491
           clear HB
           have HO480 := n0_
           have HO483 := n1_
           have BK474 := n2_
           have BK475 := n3_
           have BK491 := n4_
           have HB := n5_
           have BK490 := n6_
           have GW490 := n7_
           have GE490 := n8_
           have NB474_490 := n9_
           have NB490_474 := n10_
           have NB475_490 := n11_
           have NB490_475 := n12_
           have NB491_490 := n13_
           have NB490_491 := n14_
           clear n0_ n1_ n2_ n3_ n4_ n5_ n6_ n7_ n8_ n9_ n10_ n11_ n12_ n13_ n14_
           clear hb hbox hg
           refine hK.out _ _ ⟨(blk_cell BK474.out 0).trans rfl, (blk_cell BK474.out 1).trans rfl, (blk_cell BK475.out 0).trans rfl, (blk_cell BK475.out 1).trans rfl⟩ (fun hHeld => ?_)
           clear hK K
           refine norm_ (a' := ?_) ?_ ?_
           rotate_left
           ·show Act.put _ (some 8) _ = _
            simp only [Act.put, List.setIfInBounds_toArray, List.set_cons_zero, List.set_cons_succ, i64_w, i32_w]
            rfl
           exact norm_ (by first | (simp only [putAll, Act.put, List.setIfInBounds_toArray, List.set_cons_zero, List.set_cons_succ]; done) | (simp only [putAll, Act.put, List.setIfInBounds_toArray, List.set_cons_zero, List.set_cons_succ]; rfl)) (hJ1_4_5 (v479, v482, gb490, gb491) _ ⟨hHeld, (zR HO480), (zR HO483), (zk BK474), (zk BK475), (zk BK490), (zk BK491), GW490.out, GE490.out, NB474_490.out, NB490_474.out, NB475_490.out, NB490_475.out, NB491_490.out, NB490_491.out, GW491.out, GE491.out, NB474_491.out, NB491_474.out, NB475_491.out, NB491_475.out, zB⟩)
        ·skip
         rintro ⟨v479, v482, gb490⟩ w23 ⟨hS_, h0_, h1_, h2_, h3_, h4_, h5_, h6_, h7_, h8_, h9_, h10_, h11_⟩
         have n0_ : Aside0 (Kd.R (Kd.int .i64) 3 w23 w.heap.size (fun k_ => some k_ ≠ (v482 : Value).ownBlock) v479 t478) := ⟨h0_⟩
         have n1_ : Aside0 (Kd.R (Kd.int .i64) 3 w23 w.heap.size (fun k_ => some k_ ≠ (v479 : Value).ownBlock) v482 t481) := ⟨h1_⟩
         have n2_ : Aside0 (w23.heap[gb474]? = some (.cells #[.slice A0_0 l0_0.length c0_0, .slice A0_1 l0_1.length c0_1] 29 (0, 0))) := ⟨h2_⟩
         have n3_ : Aside0 (w23.heap[gb475]? = some (.cells #[.slice A1_0 l1_0.length c1_0, .slice A1_1 l1_1.length c1_1] 29 (0, 0))) := ⟨h3_⟩
         have n4_ : Aside0 (w23.heap[gb490]? = some (.cells #[.slice none 0 0, .slice none 0 0] 29 (0, 0))) := ⟨h4_⟩
         have n5_ : Aside0 (w.heap.size ≤ gb490) := ⟨h5_⟩
         have n6_ : Aside0 (w.heap.size ≤ gb490) := ⟨h6_⟩
         have n7_ : Aside0 (gb474 ≠ gb490) := ⟨h7_⟩
         have n8_ : Aside0 (gb490 ≠ gb474) := ⟨h8_⟩
         have n9_ : Aside0 (gb475 ≠ gb490) := ⟨h9_⟩
         have n10_ : Aside0 (gb490 ≠ gb475) := ⟨h10_⟩
         have n11_ : Aside0 (Below w.heap.size w w23) := ⟨h11_⟩
         clear BK474
         clear BK475
         clear HB
         clear h0_ h1_ h2_ h3_ h4_ h5_ h6_ h7_ h8_ h9_ h10_ h11_
         have HO480 := n0_
         have HO483 := n1_
         have BK474 := n2_
         have BK475 := n3_
         have BK490 := n4_
         have GW490 := n5_
         have GE490 := n6_
         have NB474_490 := n7_
         have NB490_474 := n8_
         have NB475_490 := n9_
         have NB490_475 := n10_
         have HB := n11_
         clear n0_ n1_ n2_ n3_ n4_ n5_ n6_ n7_ n8_ n9_ n10_ n11_
         have hHeld : w23.cell? ⟨gb474, 0, none⟩ = some (.slice A0_0 l0_0.length c0_0) ∧ w23.cell? ⟨gb474, 1, none⟩ = some (.slice A0_1 l0_1.length c0_1) ∧ w23.cell? ⟨gb475, 0, none⟩ = some (.slice A1_0 l1_0.length c1_0) ∧ w23.cell? ⟨gb475, 1, none⟩ = some (.slice A1_1 l1_1.length c1_1) := hS_
         refine norm_ (a' := ?_) ?_ ?_
         rotate_left
         ·simp only [putAll, Act.put, List.setIfInBounds_toArray, List.set_cons_zero, List.set_cons_succ]
          rfl
         refine two_ (i := 3) (j := 5) (Ni := some 23) (Nj := some 9) #[true, true, true, true, true, false, false, false] #[true, true, true, false, true, true, false, false] rfl rfl rfl rfl (two_of HT_.out zK) (by decide) (by decide) (fun K hK => ?_) (fun K hK => ?_)
         ·skip
          refine goes_ Try.func51 zK rfl #[.agg #[.slice A1_0 l1_0.length c1_0, .slice A1_1 l1_1.length c1_1]] (by rfl) rfl rfl zM ?_
          with_reducible refine (table_vital.calls k _ _ l1_0 _ _ l1_1 t484 t487 _ ?side1 ?side2 ?side3 ?side4 A18.out).mono ?_
          (case side1 => repeat (first | exact (Kd.C_below HR1_0.out HB.out) | (with_reducible refine Kd.C_alloc ?_ _) | (with_reducible refine Kd.C_drewN ?_ _) | (with_reducible refine Kd.C_drew ?_)))
          (case side2 => exact HC1_0.out)
          (case side3 => repeat (first | exact (Kd.C_below HR1_1.out HB.out) | (with_reducible refine Kd.C_alloc ?_ _) | (with_reducible refine Kd.C_drewN ?_ _) | (with_reducible refine Kd.C_drew ?_)))
          (case side4 => exact HC1_1.out)
          rintro e w24 ⟨v485, v488, rfl, ho0, ho1, hb⟩
          refine ⟨_, rfl, ?_⟩
          have n0_ := Aside0.mk (Kd.R_mono (Kd.R_told (Kd.R_told (Kd.R_old (zR HO480) hb) (Kd.R_base ho0)) (Kd.R_base ho1)) (fun _ h_ => h_.1))
          have n1_ := Aside0.mk (Kd.R_mono (Kd.R_told (Kd.R_told (Kd.R_old (zR HO483) hb) (Kd.R_base ho0)) (Kd.R_base ho1)) (fun _ h_ => h_.1))
          have n2_ := Aside0.mk (Kd.R_lower (Kd.R_new' (Kd.R_new' ho0 (Kd.R_lt (zR HO480))) (Kd.R_lt (zR HO483))) (below_size zB))
          have n3_ := Aside0.mk (Kd.R_lower (Kd.R_new' (Kd.R_new' ho1 (Kd.R_lt (zR HO480))) (Kd.R_lt (zR HO483))) (below_size zB))
          have n4_ := Aside0.mk (blk_below (g := gb474) (o := .cells #[.slice A0_0 l0_0.length c0_0, .slice A0_1 l0_1.length c0_1] 29 (0, 0)) (zk BK474) hb)
          have n5_ := Aside0.mk (blk_below (g := gb475) (o := .cells #[.slice A1_0 l1_0.length c1_0, .slice A1_1 l1_1.length c1_1] 29 (0, 0)) (zk BK475) hb)
          have n6_ := Aside0.mk (blk_below (g := gb490) (o := .cells #[.slice none 0 0, .slice none 0 0] 29 (0, 0)) (zk BK490) hb)
          have n7_ := Aside0.mk (below_step zB hb)
          clear HO480
          clear HO483
          clear BK474
          clear BK475
          clear BK490
          clear HB
          have HO480 := n0_
          have HO483 := n1_
          have HO486 := n2_
          have HO489 := n3_
          have BK474 := n4_
          have BK475 := n5_
          have BK490 := n6_
          have HB := n7_
          clear n0_ n1_ n2_ n3_ n4_ n5_ n6_ n7_
          (try clear hb)
          (try clear hb2)
          (try clear hk)
          (try clear hi)
          (try clear ho0)
          (try clear ho1)
          refine hK.out _ _ ⟨(blk_cell BK474.out 0).trans rfl, (blk_cell BK474.out 1).trans rfl, (blk_cell BK475.out 0).trans rfl, (blk_cell BK475.out 1).trans rfl⟩ (fun hHeld => ?_)
          clear hK K
          refine norm_ (a' := ?_) ?_ ?_
          rotate_left
          ·show Act.put _ (some 23) _ = _
           simp only [Act.put, List.setIfInBounds_toArray, List.set_cons_zero, List.set_cons_succ, i64_w, i32_w]
           rfl
          exact norm_ (by first | (simp only [putAll, Act.put, List.setIfInBounds_toArray, List.set_cons_zero, List.set_cons_succ]; done) | (simp only [putAll, Act.put, List.setIfInBounds_toArray, List.set_cons_zero, List.set_cons_succ]; rfl)) (hJ1_3_4 (v479, v482, v485, v488, gb490) _ ⟨hHeld, (by (with_reducible repeat (first | apply Kd.R_alloc | apply Kd.R_drewN | apply Kd.R_drew)); exact Kd.R_mono HO480.out (fun _ hk => ⟨hk.1.1, ⟨hk.1.2, hk.2⟩⟩)), (by (with_reducible repeat (first | apply Kd.R_alloc | apply Kd.R_drewN | apply Kd.R_drew)); exact Kd.R_mono HO483.out (fun _ hk => ⟨hk.1.1, ⟨hk.1.2, hk.2⟩⟩)), (by (with_reducible repeat (first | apply Kd.R_alloc | apply Kd.R_drewN | apply Kd.R_drew)); exact Kd.R_mono HO486.out (fun _ hk => ⟨hk.1.2, ⟨hk.2, hk.1.1⟩⟩)), (by (with_reducible repeat (first | apply Kd.R_alloc | apply Kd.R_drewN | apply Kd.R_drew)); exact Kd.R_mono HO489.out (fun _ hk => ⟨hk.1.2, ⟨hk.2, hk.1.1⟩⟩)), (zk BK474), (zk BK475), (zk BK490), GW490.out, GE490.out, NB474_490.out, NB490_474.out, NB475_490.out, NB490_475.out, zB⟩)
         ·skip
          refine box_step ?hg (N := 9) ?hd (cs := #[.slice none 0 0, .slice none 0 0]) (t := 29) ?hr ?_; (case hd => rfl); (case hg => rfl); (case hr => first | (go_simp; done) | (go_simp; rfl))
          intro gb491 hg w24 hbox hb
          have n0_ := Aside0.mk (Kd.R_below (zR HO480) hb)
          have n1_ := Aside0.mk (Kd.R_below (zR HO483) hb)
          have n2_ := Aside0.mk (blk_below (g := gb474) (o := .cells #[.slice A0_0 l0_0.length c0_0, .slice A0_1 l0_1.length c0_1] 29 (0, 0)) (zk BK474) hb)
          have n3_ := Aside0.mk (blk_below (g := gb475) (o := .cells #[.slice A1_0 l1_0.length c1_0, .slice A1_1 l1_1.length c1_1] 29 (0, 0)) (zk BK475) hb)
          have n4_ := Aside0.mk (blk_below (g := gb490) (o := .cells #[.slice none 0 0, .slice none 0 0] 29 (0, 0)) (zk BK490) hb)
          have n5_ := Aside0.mk (below_step zB hb)
          have n6_ := Aside0.mk (hbox)
          have n7_ := Aside0.mk ((by rw [hg]; exact (below_size zB) : w.heap.size ≤ gb491))
          have n8_ := Aside0.mk ((by rw [hg]; exact (below_size zB) : w.heap.size ≤ gb491))
          have n9_ := Aside0.mk ((by rw [hg]; exact Nat.ne_of_lt (blk_lt (g := gb474) (o := .cells #[.slice A0_0 l0_0.length c0_0, .slice A0_1 l0_1.length c0_1] 29 (0, 0)) (zk BK474)) : gb474 ≠ gb491))
          have n10_ := Aside0.mk ((by rw [hg]; exact Nat.ne_of_gt (blk_lt (g := gb474) (o := .cells #[.slice A0_0 l0_0.length c0_0, .slice A0_1 l0_1.length c0_1] 29 (0, 0)) (zk BK474)) : gb491 ≠ gb474))
          have n11_ := Aside0.mk ((by rw [hg]; exact Nat.ne_of_lt (blk_lt (g := gb475) (o := .cells #[.slice A1_0 l1_0.length c1_0, .slice A1_1 l1_1.length c1_1] 29 (0, 0)) (zk BK475)) : gb475 ≠ gb491))
          have n12_ := Aside0.mk ((by rw [hg]; exact Nat.ne_of_gt (blk_lt (g := gb475) (o := .cells #[.slice A1_0 l1_0.length c1_0, .slice A1_1 l1_1.length c1_1] 29 (0, 0)) (zk BK475)) : gb491 ≠ gb475))
          have n13_ := Aside0.mk ((by rw [hg]; exact Nat.ne_of_lt (blk_lt (g := gb490) (o := .cells #[.slice none 0 0, .slice none 0 0] 29 (0, 0)) (zk BK490)) : gb490 ≠ gb491))
          have n14_ := Aside0.mk ((by rw [hg]; exact Nat.ne_of_gt (blk_lt (g := gb490) (o := .cells #[.slice none 0 0, .slice none 0 0] 29 (0, 0)) (zk BK490)) : gb491 ≠ gb490))
          clear HO480
          clear HO483
          clear BK474
          clear BK475
          clear BK490
          clear HB
          have HO480 := n0_
          have HO483 := n1_
          have BK474 := n2_
          have BK475 := n3_
          have BK490 := n4_
          have HB := n5_
          have BK491 := n6_
          have GW491 := n7_
          have GE491 := n8_
          have NB474_491 := n9_
          have NB491_474 := n10_
          have NB475_491 := n11_
          have NB491_475 := n12_
          have NB490_491 := n13_
          have NB491_490 := n14_
          clear n0_ n1_ n2_ n3_ n4_ n5_ n6_ n7_ n8_ n9_ n10_ n11_ n12_ n13_ n14_
          clear hb hbox hg
          refine hK.out _ _ ⟨(blk_cell BK474.out 0).trans rfl, (blk_cell BK474.out 1).trans rfl, (blk_cell BK475.out 0).trans rfl, (blk_cell BK475.out 1).trans rfl⟩ (fun hHeld => ?_)
          clear hK K
          refine norm_ (a' := ?_) ?_ ?_
          rotate_left
          ·show Act.put _ (some 9) _ = _
           simp only [Act.put, List.setIfInBounds_toArray, List.set_cons_zero, List.set_cons_succ, i64_w, i32_w]
           rfl
          exact norm_ (by first | (simp only [putAll, Act.put, List.setIfInBounds_toArray, List.set_cons_zero, List.set_cons_succ]; done) | (simp only [putAll, Act.put, List.setIfInBounds_toArray, List.set_cons_zero, List.set_cons_succ]; rfl)) (hJ1_4_5 (v479, v482, gb490, gb491) _ ⟨hHeld, (zR HO480), (zR HO483), (zk BK474), (zk BK475), (zk BK490), (zk BK491), GW490.out, GE490.out, NB474_490.out, NB490_474.out, NB475_490.out, NB490_475.out, NB491_490.out, NB490_491.out, GW491.out, GE491.out, NB474_491.out, NB491_474.out, NB475_491.out, NB491_475.out, zB⟩)
       ·skip
        rintro ⟨v479, v482, v485, v488⟩ w23 ⟨hS_, h0_, h1_, h2_, h3_, h4_, h5_, h6_⟩
        have n0_ : Aside0 (Kd.R (Kd.int .i64) 3 w23 w.heap.size (fun k_ => some k_ ≠ (v482 : Value).ownBlock ∧ some k_ ≠ (v485 : Value).ownBlock ∧ some k_ ≠ (v488 : Value).ownBlock) v479 t478) := ⟨h0_⟩
        have n1_ : Aside0 (Kd.R (Kd.int .i64) 3 w23 w.heap.size (fun k_ => some k_ ≠ (v479 : Value).ownBlock ∧ some k_ ≠ (v485 : Value).ownBlock ∧ some k_ ≠ (v488 : Value).ownBlock) v482 t481) := ⟨h1_⟩
        have n2_ : Aside0 (Kd.R (Kd.int .i64) 3 w23 w.heap.size (fun k_ => some k_ ≠ (v479 : Value).ownBlock ∧ some k_ ≠ (v482 : Value).ownBlock ∧ some k_ ≠ (v488 : Value).ownBlock) v485 t484) := ⟨h2_⟩
        have n3_ : Aside0 (Kd.R (Kd.int .i64) 3 w23 w.heap.size (fun k_ => some k_ ≠ (v479 : Value).ownBlock ∧ some k_ ≠ (v482 : Value).ownBlock ∧ some k_ ≠ (v485 : Value).ownBlock) v488 t487) := ⟨h3_⟩
        have n4_ : Aside0 (w23.heap[gb474]? = some (.cells #[.slice A0_0 l0_0.length c0_0, .slice A0_1 l0_1.length c0_1] 29 (0, 0))) := ⟨h4_⟩
        have n5_ : Aside0 (w23.heap[gb475]? = some (.cells #[.slice A1_0 l1_0.length c1_0, .slice A1_1 l1_1.length c1_1] 29 (0, 0))) := ⟨h5_⟩
        have n6_ : Aside0 (Below w.heap.size w w23) := ⟨h6_⟩
        clear BK474
        clear BK475
        clear HB
        clear h0_ h1_ h2_ h3_ h4_ h5_ h6_
        have HO480 := n0_
        have HO483 := n1_
        have HO486 := n2_
        have HO489 := n3_
        have BK474 := n4_
        have BK475 := n5_
        have HB := n6_
        clear n0_ n1_ n2_ n3_ n4_ n5_ n6_
        have hHeld : w23.cell? ⟨gb474, 0, none⟩ = some (.slice A0_0 l0_0.length c0_0) ∧ w23.cell? ⟨gb474, 1, none⟩ = some (.slice A0_1 l0_1.length c0_1) ∧ w23.cell? ⟨gb475, 0, none⟩ = some (.slice A1_0 l1_0.length c1_0) ∧ w23.cell? ⟨gb475, 1, none⟩ = some (.slice A1_1 l1_1.length c1_1) := hS_
        refine norm_ (a' := ?_) ?_ ?_
        rotate_left
        ·simp only [putAll, Act.put, List.setIfInBounds_toArray, List.set_cons_zero, List.set_cons_succ]
         rfl
        refine two_ (i := 4) (j := 5) (Ni := some 8) (Nj := some 9) #[true, true, true, true, true, false, false, false] #[true, true, true, true, false, true, false, false] rfl rfl rfl rfl (two_of HT_.out zK) (by decide) (by decide) (fun K hK => ?_) (fun K hK => ?_)
        ·skip
         refine box_step ?hg (N := 8) ?hd (cs := #[.slice none 0 0, .slice none 0 0]) (t := 29) ?hr ?_; (case hd => rfl); (case hg => rfl); (case hr => first | (go_simp; done) | (go_simp; rfl))
         intro gb490 hg w24 hbox hb
         have n0_ := Aside0.mk (Kd.R_below (zR HO480) hb)
         have n1_ := Aside0.mk (Kd.R_below (zR HO483) hb)
         have n2_ := Aside0.mk (Kd.R_below (zR HO486) hb)
         have n3_ := Aside0.mk (Kd.R_below (zR HO489) hb)
         have n4_ := Aside0.mk (blk_below (g := gb474) (o := .cells #[.slice A0_0 l0_0.length c0_0, .slice A0_1 l0_1.length c0_1] 29 (0, 0)) (zk BK474) hb)
         have n5_ := Aside0.mk (blk_below (g := gb475) (o := .cells #[.slice A1_0 l1_0.length c1_0, .slice A1_1 l1_1.length c1_1] 29 (0, 0)) (zk BK475) hb)
         have n6_ := Aside0.mk (below_step zB hb)
         have n7_ := Aside0.mk (hbox)
         have n8_ := Aside0.mk ((by rw [hg]; exact (below_size zB) : w.heap.size ≤ gb490))
         have n9_ := Aside0.mk ((by rw [hg]; exact (below_size zB) : w.heap.size ≤ gb490))
         have n10_ := Aside0.mk ((by rw [hg]; exact Nat.ne_of_lt (blk_lt (g := gb474) (o := .cells #[.slice A0_0 l0_0.length c0_0, .slice A0_1 l0_1.length c0_1] 29 (0, 0)) (zk BK474)) : gb474 ≠ gb490))
         have n11_ := Aside0.mk ((by rw [hg]; exact Nat.ne_of_gt (blk_lt (g := gb474) (o := .cells #[.slice A0_0 l0_0.length c0_0, .slice A0_1 l0_1.length c0_1] 29 (0, 0)) (zk BK474)) : gb490 ≠ gb474))
         have n12_ := Aside0.mk ((by rw [hg]; exact Nat.ne_of_lt (blk_lt (g := gb475) (o := .cells #[.slice A1_0 l1_0.length c1_0, .slice A1_1 l1_1.length c1_1] 29 (0, 0)) (zk BK475)) : gb475 ≠ gb490))
         have n13_ := Aside0.mk ((by rw [hg]; exact Nat.ne_of_gt (blk_lt (g := gb475) (o := .cells #[.slice A1_0 l1_0.length c1_0, .slice A1_1 l1_1.length c1_1] 29 (0, 0)) (zk BK475)) : gb490 ≠ gb475))
         clear HO480
         clear HO483
         clear HO486
         clear HO489
         clear BK474
         clear BK475
         clear HB
         have HO480 := n0_
         have HO483 := n1_
         have HO486 := n2_
         have HO489 := n3_
         have BK474 := n4_
         have BK475 := n5_
         have HB := n6_
         have BK490 := n7_
         have GW490 := n8_
         have GE490 := n9_
         have NB474_490 := n10_
         have NB490_474 := n11_
         have NB475_490 := n12_
         have NB490_475 := n13_
         clear n0_ n1_ n2_ n3_ n4_ n5_ n6_ n7_ n8_ n9_ n10_ n11_ n12_ n13_
         clear hb hbox hg
         refine hK.out _ _ ⟨(blk_cell BK474.out 0).trans rfl, (blk_cell BK474.out 1).trans rfl, (blk_cell BK475.out 0).trans rfl, (blk_cell BK475.out 1).trans rfl⟩ (fun hHeld => ?_)
         clear hK K
         refine norm_ (a' := ?_) ?_ ?_
         rotate_left
         ·show Act.put _ (some 8) _ = _
          simp only [Act.put, List.setIfInBounds_toArray, List.set_cons_zero, List.set_cons_succ, i64_w, i32_w]
          rfl
         exact norm_ (by first | (simp only [putAll, Act.put, List.setIfInBounds_toArray, List.set_cons_zero, List.set_cons_succ]; done) | (simp only [putAll, Act.put, List.setIfInBounds_toArray, List.set_cons_zero, List.set_cons_succ]; rfl)) (hJ1_3_4 (v479, v482, v485, v488, gb490) _ ⟨hHeld, (zR HO480), (zR HO483), (zR HO486), (zR HO489), (zk BK474), (zk BK475), (zk BK490), GW490.out, GE490.out, NB474_490.out, NB490_474.out, NB475_490.out, NB490_475.out, zB⟩)
        ·skip
         refine box_step ?hg (N := 9) ?hd (cs := #[.slice none 0 0, .slice none 0 0]) (t := 29) ?hr ?_; (case hd => rfl); (case hg => rfl); (case hr => first | (go_simp; done) | (go_simp; rfl))
         intro gb491 hg w24 hbox hb
         have n0_ := Aside0.mk (Kd.R_below (zR HO480) hb)
         have n1_ := Aside0.mk (Kd.R_below (zR HO483) hb)
         have n2_ := Aside0.mk (Kd.R_below (zR HO486) hb)
         have n3_ := Aside0.mk (Kd.R_below (zR HO489) hb)
         have n4_ := Aside0.mk (blk_below (g := gb474) (o := .cells #[.slice A0_0 l0_0.length c0_0, .slice A0_1 l0_1.length c0_1] 29 (0, 0)) (zk BK474) hb)
         have n5_ := Aside0.mk (blk_below (g := gb475) (o := .cells #[.slice A1_0 l1_0.length c1_0, .slice A1_1 l1_1.length c1_1] 29 (0, 0)) (zk BK475) hb)
         have n6_ := Aside0.mk (below_step zB hb)
         have n7_ := Aside0.mk (hbox)
         have n8_ := Aside0.mk ((by rw [hg]; exact (below_size zB) : w.heap.size ≤ gb491))
         have n9_ := Aside0.mk ((by rw [hg]; exact (below_size zB) : w.heap.size ≤ gb491))
         have n10_ := Aside0.mk ((by rw [hg]; exact Nat.ne_of_lt (blk_lt (g := gb474) (o := .cells #[.slice A0_0 l0_0.length c0_0, .slice A0_1 l0_1.length c0_1] 29 (0, 0)) (zk BK474)) : gb474 ≠ gb491))
         have n11_ := Aside0.mk ((by rw [hg]; exact Nat.ne_of_gt (blk_lt (g := gb474) (o := .cells #[.slice A0_0 l0_0.length c0_0, .slice A0_1 l0_1.length c0_1] 29 (0, 0)) (zk BK474)) : gb491 ≠ gb474))
         have n12_ := Aside0.mk ((by rw [hg]; exact Nat.ne_of_lt (blk_lt (g := gb475) (o := .cells #[.slice A1_0 l1_0.length c1_0, .slice A1_1 l1_1.length c1_1] 29 (0, 0)) (zk BK475)) : gb475 ≠ gb491))
         have n13_ := Aside0.mk ((by rw [hg]; exact Nat.ne_of_gt (blk_lt (g := gb475) (o := .cells #[.slice A1_0 l1_0.length c1_0, .slice A1_1 l1_1.length c1_1] 29 (0, 0)) (zk BK475)) : gb491 ≠ gb475))
         clear HO480
         clear HO483
         clear HO486
         clear HO489
         clear BK474
         clear BK475
         clear HB
         have HO480 := n0_
         have HO483 := n1_
         have HO486 := n2_
         have HO489 := n3_
         have BK474 := n4_
         have BK475 := n5_
         have HB := n6_
         have BK491 := n7_
         have GW491 := n8_
         have GE491 := n9_
         have NB474_491 := n10_
         have NB491_474 := n11_
         have NB475_491 := n12_
         have NB491_475 := n13_
         clear n0_ n1_ n2_ n3_ n4_ n5_ n6_ n7_ n8_ n9_ n10_ n11_ n12_ n13_
         clear hb hbox hg
         refine hK.out _ _ ⟨(blk_cell BK474.out 0).trans rfl, (blk_cell BK474.out 1).trans rfl, (blk_cell BK475.out 0).trans rfl, (blk_cell BK475.out 1).trans rfl⟩ (fun hHeld => ?_)
         clear hK K
         refine norm_ (a' := ?_) ?_ ?_
         rotate_left
         ·show Act.put _ (some 9) _ = _
          simp only [Act.put, List.setIfInBounds_toArray, List.set_cons_zero, List.set_cons_succ, i64_w, i32_w]
          rfl
         exact norm_ (by first | (simp only [putAll, Act.put, List.setIfInBounds_toArray, List.set_cons_zero, List.set_cons_succ]; done) | (simp only [putAll, Act.put, List.setIfInBounds_toArray, List.set_cons_zero, List.set_cons_succ]; rfl)) (hJ1_3_5 (v479, v482, v485, v488, gb491) _ ⟨hHeld, (zR HO480), (zR HO483), (zR HO486), (zR HO489), (zk BK474), (zk BK475), (zk BK491), GW491.out, GE491.out, NB474_491.out, NB491_474.out, NB475_491.out, NB491_475.out, zB⟩)
      ·skip
       rintro ⟨v479, v482, gb490, gb491⟩ w24 ⟨hS_, h0_, h1_, h2_, h3_, h4_, h5_, h6_, h7_, h8_, h9_, h10_, h11_, h12_, h13_, h14_, h15_, h16_, h17_, h18_, h19_, h20_⟩
       have n0_ : Aside0 (Kd.R (Kd.int .i64) 3 w24 w.heap.size (fun k_ => some k_ ≠ (v482 : Value).ownBlock) v479 t478) := ⟨h0_⟩
       have n1_ : Aside0 (Kd.R (Kd.int .i64) 3 w24 w.heap.size (fun k_ => some k_ ≠ (v479 : Value).ownBlock) v482 t481) := ⟨h1_⟩
       have n2_ : Aside0 (w24.heap[gb474]? = some (.cells #[.slice A0_0 l0_0.length c0_0, .slice A0_1 l0_1.length c0_1] 29 (0, 0))) := ⟨h2_⟩
       have n3_ : Aside0 (w24.heap[gb475]? = some (.cells #[.slice A1_0 l1_0.length c1_0, .slice A1_1 l1_1.length c1_1] 29 (0, 0))) := ⟨h3_⟩
       have n4_ : Aside0 (w24.heap[gb490]? = some (.cells #[.slice none 0 0, .slice none 0 0] 29 (0, 0))) := ⟨h4_⟩
       have n5_ : Aside0 (w24.heap[gb491]? = some (.cells #[.slice none 0 0, .slice none 0 0] 29 (0, 0))) := ⟨h5_⟩
       have n6_ : Aside0 (w.heap.size ≤ gb490) := ⟨h6_⟩
       have n7_ : Aside0 (w.heap.size ≤ gb490) := ⟨h7_⟩
       have n8_ : Aside0 (gb474 ≠ gb490) := ⟨h8_⟩
       have n9_ : Aside0 (gb490 ≠ gb474) := ⟨h9_⟩
       have n10_ : Aside0 (gb475 ≠ gb490) := ⟨h10_⟩
       have n11_ : Aside0 (gb490 ≠ gb475) := ⟨h11_⟩
       have n12_ : Aside0 (gb491 ≠ gb490) := ⟨h12_⟩
       have n13_ : Aside0 (gb490 ≠ gb491) := ⟨h13_⟩
       have n14_ : Aside0 (w.heap.size ≤ gb491) := ⟨h14_⟩
       have n15_ : Aside0 (w.heap.size ≤ gb491) := ⟨h15_⟩
       have n16_ : Aside0 (gb474 ≠ gb491) := ⟨h16_⟩
       have n17_ : Aside0 (gb491 ≠ gb474) := ⟨h17_⟩
       have n18_ : Aside0 (gb475 ≠ gb491) := ⟨h18_⟩
       have n19_ : Aside0 (gb491 ≠ gb475) := ⟨h19_⟩
       have n20_ : Aside0 (Below w.heap.size w w24) := ⟨h20_⟩
       clear BK474
       clear BK475
       clear HB
       clear h0_ h1_ h2_ h3_ h4_ h5_ h6_ h7_ h8_ h9_ h10_ h11_ h12_ h13_ h14_ h15_ h16_ h17_ h18_ h19_ h20_
       have HO480 := n0_
       have HO483 := n1_
       have BK474 := n2_
       have BK475 := n3_
       have BK490 := n4_
       have BK491 := n5_
       have GW490 := n6_
       have GE490 := n7_
       have NB474_490 := n8_
       have NB490_474 := n9_
       have NB475_490 := n10_
       have NB490_475 := n11_
       have NB491_490 := n12_
       have NB490_491 := n13_
       have GW491 := n14_
       have GE491 := n15_
       have NB474_491 := n16_
       have NB491_474 := n17_
       have NB475_491 := n18_
       have NB491_475 := n19_
       have HB := n20_
       clear n0_ n1_ n2_ n3_ n4_ n5_ n6_ n7_ n8_ n9_ n10_ n11_ n12_ n13_ n14_ n15_ n16_ n17_ n18_ n19_ n20_
       have hHeld : w24.cell? ⟨gb474, 0, none⟩ = some (.slice A0_0 l0_0.length c0_0) ∧ w24.cell? ⟨gb474, 1, none⟩ = some (.slice A0_1 l0_1.length c0_1) ∧ w24.cell? ⟨gb475, 0, none⟩ = some (.slice A1_0 l1_0.length c1_0) ∧ w24.cell? ⟨gb475, 1, none⟩ = some (.slice A1_1 l1_1.length c1_1) := hS_
       refine norm_ (a' := ?_) ?_ ?_
       rotate_left
       ·simp only [putAll, Act.put, List.setIfInBounds_toArray, List.set_cons_zero, List.set_cons_succ]
        rfl
       refine one_ (i := 3) (N := some 23) #[true, true, true, true, true, true, false, false] rfl rfl (one_of HT_.out zK) (by decide) (fun K hK => ?_)
       refine goes_ Try.func51 zK rfl #[.agg #[.slice A1_0 l1_0.length c1_0, .slice A1_1 l1_1.length c1_1]] (by rfl) rfl rfl zM ?_
       with_reducible refine (table_vital.calls k _ _ l1_0 _ _ l1_1 t484 t487 _ ?side1 ?side2 ?side3 ?side4 A18.out).mono ?_
       (case side1 => repeat (first | exact (Kd.C_below HR1_0.out HB.out) | (with_reducible refine Kd.C_alloc ?_ _) | (with_reducible refine Kd.C_drewN ?_ _) | (with_reducible refine Kd.C_drew ?_)))
       (case side2 => exact HC1_0.out)
       (case side3 => repeat (first | exact (Kd.C_below HR1_1.out HB.out) | (with_reducible refine Kd.C_alloc ?_ _) | (with_reducible refine Kd.C_drewN ?_ _) | (with_reducible refine Kd.C_drew ?_)))
       (case side4 => exact HC1_1.out)
       rintro e w25 ⟨v485, v488, rfl, ho0, ho1, hb⟩
       refine ⟨_, rfl, ?_⟩
       have n0_ := Aside0.mk (Kd.R_mono (Kd.R_told (Kd.R_told (Kd.R_old (zR HO480) hb) (Kd.R_base ho0)) (Kd.R_base ho1)) (fun _ h_ => h_.1))
       have n1_ := Aside0.mk (Kd.R_mono (Kd.R_told (Kd.R_told (Kd.R_old (zR HO483) hb) (Kd.R_base ho0)) (Kd.R_base ho1)) (fun _ h_ => h_.1))
       have n2_ := Aside0.mk (Kd.R_lower (Kd.R_new' (Kd.R_new' ho0 (Kd.R_lt (zR HO480))) (Kd.R_lt (zR HO483))) (below_size zB))
       have n3_ := Aside0.mk (Kd.R_lower (Kd.R_new' (Kd.R_new' ho1 (Kd.R_lt (zR HO480))) (Kd.R_lt (zR HO483))) (below_size zB))
       have n4_ := Aside0.mk (blk_below (g := gb474) (o := .cells #[.slice A0_0 l0_0.length c0_0, .slice A0_1 l0_1.length c0_1] 29 (0, 0)) (zk BK474) hb)
       have n5_ := Aside0.mk (blk_below (g := gb475) (o := .cells #[.slice A1_0 l1_0.length c1_0, .slice A1_1 l1_1.length c1_1] 29 (0, 0)) (zk BK475) hb)
       have n6_ := Aside0.mk (blk_below (g := gb490) (o := .cells #[.slice none 0 0, .slice none 0 0] 29 (0, 0)) (zk BK490) hb)
       have n7_ := Aside0.mk (blk_below (g := gb491) (o := .cells #[.slice none 0 0, .slice none 0 0] 29 (0, 0)) (zk BK491) hb)
       have n8_ := Aside0.mk (below_step zB hb)
       clear HO480
       clear HO483
       clear BK474
       clear BK475
       clear BK490
       clear BK491
       clear HB
       have HO480 := n0_
       have HO483 := n1_
       have HO486 := n2_
       have HO489 := n3_
       have BK474 := n4_
       have BK475 := n5_
       have BK490 := n6_
       have BK491 := n7_
       have HB := n8_
       clear n0_ n1_ n2_ n3_ n4_ n5_ n6_ n7_ n8_
       (try clear hb)
       (try clear hb2)
       (try clear hk)
       (try clear hi)
       (try clear ho0)
       (try clear ho1)
       refine hK.out _ _ ⟨(blk_cell BK474.out 0).trans rfl, (blk_cell BK474.out 1).trans rfl, (blk_cell BK475.out 0).trans rfl, (blk_cell BK475.out 1).trans rfl⟩ (fun hHeld => ?_)
       clear hK K
       refine norm_ (a' := ?_) ?_ ?_
       rotate_left
       ·show Act.put _ (some 23) _ = _
        simp only [Act.put, List.setIfInBounds_toArray, List.set_cons_zero, List.set_cons_succ, i64_w, i32_w]
        rfl
       exact norm_ (by first | (simp only [putAll, Act.put, List.setIfInBounds_toArray, List.set_cons_zero, List.set_cons_succ]; done) | (simp only [putAll, Act.put, List.setIfInBounds_toArray, List.set_cons_zero, List.set_cons_succ]; rfl)) (hJ1_3_4_5 (v479, v482, v485, v488, gb490, gb491) _ ⟨hHeld, (by (with_reducible repeat (first | apply Kd.R_alloc | apply Kd.R_drewN | apply Kd.R_drew)); exact Kd.R_mono HO480.out (fun _ hk => ⟨hk.1.1, ⟨hk.1.2, hk.2⟩⟩)), (by (with_reducible repeat (first | apply Kd.R_alloc | apply Kd.R_drewN | apply Kd.R_drew)); exact Kd.R_mono HO483.out (fun _ hk => ⟨hk.1.1, ⟨hk.1.2, hk.2⟩⟩)), (by (with_reducible repeat (first | apply Kd.R_alloc | apply Kd.R_drewN | apply Kd.R_drew)); exact Kd.R_mono HO486.out (fun _ hk => ⟨hk.1.2, ⟨hk.2, hk.1.1⟩⟩)), (by (with_reducible repeat (first | apply Kd.R_alloc | apply Kd.R_drewN | apply Kd.R_drew)); exact Kd.R_mono HO489.out (fun _ hk => ⟨hk.1.2, ⟨hk.2, hk.1.1⟩⟩)), (zk BK474), (zk BK475), (zk BK490), (zk BK491), GW490.out, GE490.out, NB474_490.out, NB490_474.out, NB475_490.out, NB490_475.out, NB491_490.out, NB490_491.out, GW491.out, GE491.out, NB474_491.out, NB491_474.out, NB475_491.out, NB491_475.out, zB⟩)
     ·skip
      rintro ⟨v479, v482, v485, v488, gb491⟩ w24 ⟨hS_, h0_, h1_, h2_, h3_, h4_, h5_, h6_, h7_, h8_, h9_, h10_, h11_, h12_, h13_⟩
      have n0_ : Aside0 (Kd.R (Kd.int .i64) 3 w24 w.heap.size (fun k_ => some k_ ≠ (v482 : Value).ownBlock ∧ some k_ ≠ (v485 : Value).ownBlock ∧ some k_ ≠ (v488 : Value).ownBlock) v479 t478) := ⟨h0_⟩
      have n1_ : Aside0 (Kd.R (Kd.int .i64) 3 w24 w.heap.size (fun k_ => some k_ ≠ (v479 : Value).ownBlock ∧ some k_ ≠ (v485 : Value).ownBlock ∧ some k_ ≠ (v488 : Value).ownBlock) v482 t481) := ⟨h1_⟩
      have n2_ : Aside0 (Kd.R (Kd.int .i64) 3 w24 w.heap.size (fun k_ => some k_ ≠ (v479 : Value).ownBlock ∧ some k_ ≠ (v482 : Value).ownBlock ∧ some k_ ≠ (v488 : Value).ownBlock) v485 t484) := ⟨h2_⟩
      have n3_ : Aside0 (Kd.R (Kd.int .i64) 3 w24 w.heap.size (fun k_ => some k_ ≠ (v479 : Value).ownBlock ∧ some k_ ≠ (v482 : Value).ownBlock ∧ some k_ ≠ (v485 : Value).ownBlock) v488 t487) := ⟨h3_⟩
      have n4_ : Aside0 (w24.heap[gb474]? = some (.cells #[.slice A0_0 l0_0.length c0_0, .slice A0_1 l0_1.length c0_1] 29 (0, 0))) := ⟨h4_⟩
      have n5_ : Aside0 (w24.heap[gb475]? = some (.cells #[.slice A1_0 l1_0.length c1_0, .slice A1_1 l1_1.length c1_1] 29 (0, 0))) := ⟨h5_⟩
      have n6_ : Aside0 (w24.heap[gb491]? = some (.cells #[.slice none 0 0, .slice none 0 0] 29 (0, 0))) := ⟨h6_⟩
      have n7_ : Aside0 (w.heap.size ≤ gb491) := ⟨h7_⟩
      have n8_ : Aside0 (w.heap.size ≤ gb491) := ⟨h8_⟩
      have n9_ : Aside0 (gb474 ≠ gb491) := ⟨h9_⟩
      have n10_ : Aside0 (gb491 ≠ gb474) := ⟨h10_⟩
      have n11_ : Aside0 (gb475 ≠ gb491) := ⟨h11_⟩
      have n12_ : Aside0 (gb491 ≠ gb475) := ⟨h12_⟩
      have n13_ : Aside0 (Below w.heap.size w w24) := ⟨h13_⟩
      clear BK474
      clear BK475
      clear HB
      clear h0_ h1_ h2_ h3_ h4_ h5_ h6_ h7_ h8_ h9_ h10_ h11_ h12_ h13_
      have HO480 := n0_
      have HO483 := n1_
      have HO486 := n2_
      have HO489 := n3_
      have BK474 := n4_
      have BK475 := n5_
      have BK491 := n6_
      have GW491 := n7_
      have GE491 := n8_
      have NB474_491 := n9_
      have NB491_474 := n10_
      have NB475_491 := n11_
      have NB491_475 := n12_
      have HB := n13_
      clear n0_ n1_ n2_ n3_ n4_ n5_ n6_ n7_ n8_ n9_ n10_ n11_ n12_ n13_
      have hHeld : w24.cell? ⟨gb474, 0, none⟩ = some (.slice A0_0 l0_0.length c0_0) ∧ w24.cell? ⟨gb474, 1, none⟩ = some (.slice A0_1 l0_1.length c0_1) ∧ w24.cell? ⟨gb475, 0, none⟩ = some (.slice A1_0 l1_0.length c1_0) ∧ w24.cell? ⟨gb475, 1, none⟩ = some (.slice A1_1 l1_1.length c1_1) := hS_
      refine norm_ (a' := ?_) ?_ ?_
      rotate_left
      ·simp only [putAll, Act.put, List.setIfInBounds_toArray, List.set_cons_zero, List.set_cons_succ]
       rfl
      refine one_ (i := 4) (N := some 8) #[true, true, true, true, true, true, false, false] rfl rfl (one_of HT_.out zK) (by decide) (fun K hK => ?_)
      refine box_step ?hg (N := 8) ?hd (cs := #[.slice none 0 0, .slice none 0 0]) (t := 29) ?hr ?_; (case hd => rfl); (case hg => rfl); (case hr => first | (go_simp; done) | (go_simp; rfl))
      intro gb490 hg w25 hbox hb
      have n0_ := Aside0.mk (Kd.R_below (zR HO480) hb)
      have n1_ := Aside0.mk (Kd.R_below (zR HO483) hb)
      have n2_ := Aside0.mk (Kd.R_below (zR HO486) hb)
      have n3_ := Aside0.mk (Kd.R_below (zR HO489) hb)
      have n4_ := Aside0.mk (blk_below (g := gb474) (o := .cells #[.slice A0_0 l0_0.length c0_0, .slice A0_1 l0_1.length c0_1] 29 (0, 0)) (zk BK474) hb)
      have n5_ := Aside0.mk (blk_below (g := gb475) (o := .cells #[.slice A1_0 l1_0.length c1_0, .slice A1_1 l1_1.length c1_1] 29 (0, 0)) (zk BK475) hb)
      have n6_ := Aside0.mk (blk_below (g := gb491) (o := .cells #[.slice none 0 0, .slice none 0 0] 29 (0, 0)) (zk BK491) hb)
      have n7_ := Aside0.mk (below_step zB hb)
      have n8_ := Aside0.mk (hbox)
      have n9_ := Aside0.mk ((by rw [hg]; exact (below_size zB) : w.heap.size ≤ gb490))
      have n10_ := Aside0.mk ((by rw [hg]; exact (below_size zB) : w.heap.size ≤ gb490))
      have n11_ := Aside0.mk ((by rw [hg]; exact Nat.ne_of_lt (blk_lt (g := gb474) (o := .cells #[.slice A0_0 l0_0.length c0_0, .slice A0_1 l0_1.length c0_1] 29 (0, 0)) (zk BK474)) : gb474 ≠ gb490))
      have n12_ := Aside0.mk ((by rw [hg]; exact Nat.ne_of_gt (blk_lt (g := gb474) (o := .cells #[.slice A0_0 l0_0.length c0_0, .slice A0_1 l0_1.length c0_1] 29 (0, 0)) (zk BK474)) : gb490 ≠ gb474))
      have n13_ := Aside0.mk ((by rw [hg]; exact Nat.ne_of_lt (blk_lt (g := gb475) (o := .cells #[.slice A1_0 l1_0.length c1_0, .slice A1_1 l1_1.length c1_1] 29 (0, 0)) (zk BK475)) : gb475 ≠ gb490))
      have n14_ := Aside0.mk ((by rw [hg]; exact Nat.ne_of_gt (blk_lt (g := gb475) (o := .cells #[.slice A1_0 l1_0.length c1_0, .slice A1_1 l1_1.length c1_1] 29 (0, 0)) (zk BK475)) : gb490 ≠ gb475))
      have n15_ := Aside0.mk ((by rw [hg]; exact Nat.ne_of_lt (blk_lt (g := gb491) (o := .cells #[.slice none 0 0, .slice none 0 0] 29 (0, 0)) (zk BK491)) : gb491 ≠ gb490))
      have n16_ := Aside0.mk ((by rw [hg]; exact Nat.ne_of_gt (blk_lt (g := gb491) (o := .cells #[.slice none 0 0, .slice none 0 0] 29 (0, 0)) (zk BK491)) : gb490 ≠ gb491))
      clear HO480
      clear HO483
      clear HO486
      clear HO489
      clear BK474
      clear BK475
      clear BK491
      clear HB
      have HO480 := n0_
      have HO483 := n1_
      have HO486 := n2_
      have HO489 := n3_
      have BK474 := n4_
      have BK475 := n5_
      have BK491 := n6_
      have HB := n7_
      have BK490 := n8_
      have GW490 := n9_
      have GE490 := n10_
      have NB474_490 := n11_
      have NB490_474 := n12_
      have NB475_490 := n13_
      have NB490_475 := n14_
      have NB491_490 := n15_
      have NB490_491 := n16_
      clear n0_ n1_ n2_ n3_ n4_ n5_ n6_ n7_ n8_ n9_ n10_ n11_ n12_ n13_ n14_ n15_ n16_
      clear hb hbox hg
      refine hK.out _ _ ⟨(blk_cell BK474.out 0).trans rfl, (blk_cell BK474.out 1).trans rfl, (blk_cell BK475.out 0).trans rfl, (blk_cell BK475.out 1).trans rfl⟩ (fun hHeld => ?_)
      clear hK K
      refine norm_ (a' := ?_) ?_ ?_
      rotate_left
      ·show Act.put _ (some 8) _ = _
       simp only [Act.put, List.setIfInBounds_toArray, List.set_cons_zero, List.set_cons_succ, i64_w, i32_w]
       rfl
      exact norm_ (by first | (simp only [putAll, Act.put, List.setIfInBounds_toArray, List.set_cons_zero, List.set_cons_succ]; done) | (simp only [putAll, Act.put, List.setIfInBounds_toArray, List.set_cons_zero, List.set_cons_succ]; rfl)) (hJ1_3_4_5 (v479, v482, v485, v488, gb490, gb491) _ ⟨hHeld, (zR HO480), (zR HO483), (zR HO486), (zR HO489), (zk BK474), (zk BK475), (zk BK490), (zk BK491), GW490.out, GE490.out, NB474_490.out, NB490_474.out, NB475_490.out, NB490_475.out, NB491_490.out, NB490_491.out, GW491.out, GE491.out, NB474_491.out, NB491_474.out, NB475_491.out, NB491_475.out, zB⟩)
    ·skip
     rintro ⟨v479, v482, v485, v488, gb490⟩ w24 ⟨hS_, h0_, h1_, h2_, h3_, h4_, h5_, h6_, h7_, h8_, h9_, h10_, h11_, h12_, h13_⟩
     have n0_ : Aside0 (Kd.R (Kd.int .i64) 3 w24 w.heap.size (fun k_ => some k_ ≠ (v482 : Value).ownBlock ∧ some k_ ≠ (v485 : Value).ownBlock ∧ some k_ ≠ (v488 : Value).ownBlock) v479 t478) := ⟨h0_⟩
     have n1_ : Aside0 (Kd.R (Kd.int .i64) 3 w24 w.heap.size (fun k_ => some k_ ≠ (v479 : Value).ownBlock ∧ some k_ ≠ (v485 : Value).ownBlock ∧ some k_ ≠ (v488 : Value).ownBlock) v482 t481) := ⟨h1_⟩
     have n2_ : Aside0 (Kd.R (Kd.int .i64) 3 w24 w.heap.size (fun k_ => some k_ ≠ (v479 : Value).ownBlock ∧ some k_ ≠ (v482 : Value).ownBlock ∧ some k_ ≠ (v488 : Value).ownBlock) v485 t484) := ⟨h2_⟩
     have n3_ : Aside0 (Kd.R (Kd.int .i64) 3 w24 w.heap.size (fun k_ => some k_ ≠ (v479 : Value).ownBlock ∧ some k_ ≠ (v482 : Value).ownBlock ∧ some k_ ≠ (v485 : Value).ownBlock) v488 t487) := ⟨h3_⟩
     have n4_ : Aside0 (w24.heap[gb474]? = some (.cells #[.slice A0_0 l0_0.length c0_0, .slice A0_1 l0_1.length c0_1] 29 (0, 0))) := ⟨h4_⟩
     have n5_ : Aside0 (w24.heap[gb475]? = some (.cells #[.slice A1_0 l1_0.length c1_0, .slice A1_1 l1_1.length c1_1] 29 (0, 0))) := ⟨h5_⟩
     have n6_ : Aside0 (w24.heap[gb490]? = some (.cells #[.slice none 0 0, .slice none 0 0] 29 (0, 0))) := ⟨h6_⟩
     have n7_ : Aside0 (w.heap.size ≤ gb490) := ⟨h7_⟩
     have n8_ : Aside0 (w.heap.size ≤ gb490) := ⟨h8_⟩
     have n9_ : Aside0 (gb474 ≠ gb490) := ⟨h9_⟩
     have n10_ : Aside0 (gb490 ≠ gb474) := ⟨h10_⟩
     have n11_ : Aside0 (gb475 ≠ gb490) := ⟨h11_⟩
     have n12_ : Aside0 (gb490 ≠ gb475) := ⟨h12_⟩
     have n13_ : Aside0 (Below w.heap.size w w24) := ⟨h13_⟩
     clear BK474
     clear BK475
     clear HB
     clear h0_ h1_ h2_ h3_ h4_ h5_ h6_ h7_ h8_ h9_ h10_ h11_ h12_ h13_
     have HO480 := n0_
     have HO483 := n1_
     have HO486 := n2_
     have HO489 := n3_
     have BK474 := n4_
     have BK475 := n5_
     have BK490 := n6_
     have GW490 := n7_
     have GE490 := n8_
     have NB474_490 := n9_
     have NB490_474 := n10_
     have NB475_490 := n11_
     have NB490_475 := n12_
     have HB := n13_
     clear n0_ n1_ n2_ n3_ n4_ n5_ n6_ n7_ n8_ n9_ n10_ n11_ n12_ n13_
     have hHeld : w24.cell? ⟨gb474, 0, none⟩ = some (.slice A0_0 l0_0.length c0_0) ∧ w24.cell? ⟨gb474, 1, none⟩ = some (.slice A0_1 l0_1.length c0_1) ∧ w24.cell? ⟨gb475, 0, none⟩ = some (.slice A1_0 l1_0.length c1_0) ∧ w24.cell? ⟨gb475, 1, none⟩ = some (.slice A1_1 l1_1.length c1_1) := hS_
     refine norm_ (a' := ?_) ?_ ?_
     rotate_left
     ·simp only [putAll, Act.put, List.setIfInBounds_toArray, List.set_cons_zero, List.set_cons_succ]
      rfl
     refine one_ (i := 5) (N := some 9) #[true, true, true, true, true, true, false, false] rfl rfl (one_of HT_.out zK) (by decide) (fun K hK => ?_)
     refine box_step ?hg (N := 9) ?hd (cs := #[.slice none 0 0, .slice none 0 0]) (t := 29) ?hr ?_; (case hd => rfl); (case hg => rfl); (case hr => first | (go_simp; done) | (go_simp; rfl))
     intro gb491 hg w25 hbox hb
     have n0_ := Aside0.mk (Kd.R_below (zR HO480) hb)
     have n1_ := Aside0.mk (Kd.R_below (zR HO483) hb)
     have n2_ := Aside0.mk (Kd.R_below (zR HO486) hb)
     have n3_ := Aside0.mk (Kd.R_below (zR HO489) hb)
     have n4_ := Aside0.mk (blk_below (g := gb474) (o := .cells #[.slice A0_0 l0_0.length c0_0, .slice A0_1 l0_1.length c0_1] 29 (0, 0)) (zk BK474) hb)
     have n5_ := Aside0.mk (blk_below (g := gb475) (o := .cells #[.slice A1_0 l1_0.length c1_0, .slice A1_1 l1_1.length c1_1] 29 (0, 0)) (zk BK475) hb)
     have n6_ := Aside0.mk (blk_below (g := gb490) (o := .cells #[.slice none 0 0, .slice none 0 0] 29 (0, 0)) (zk BK490) hb)
     have n7_ := Aside0.mk (below_step zB hb)
     have n8_ := Aside0.mk (hbox)
     have n9_ := Aside0.mk ((by rw [hg]; exact (below_size zB) : w.heap.size ≤ gb491))
     have n10_ := Aside0.mk ((by rw [hg]; exact (below_size zB) : w.heap.size ≤ gb491))
     have n11_ := Aside0.mk ((by rw [hg]; exact Nat.ne_of_lt (blk_lt (g := gb474) (o := .cells #[.slice A0_0 l0_0.length c0_0, .slice A0_1 l0_1.length c0_1] 29 (0, 0)) (zk BK474)) : gb474 ≠ gb491))
     have n12_ := Aside0.mk ((by rw [hg]; exact Nat.ne_of_gt (blk_lt (g := gb474) (o := .cells #[.slice A0_0 l0_0.length c0_0, .slice A0_1 l0_1.length c0_1] 29 (0, 0)) (zk BK474)) : gb491 ≠ gb474))
     have n13_ := Aside0.mk ((by rw [hg]; exact Nat.ne_of_lt (blk_lt (g := gb475) (o := .cells #[.slice A1_0 l1_0.length c1_0, .slice A1_1 l1_1.length c1_1] 29 (0, 0)) (zk BK475)) : gb475 ≠ gb491))
     have n14_ := Aside0.mk ((by rw [hg]; exact Nat.ne_of_gt (blk_lt (g := gb475) (o := .cells #[.slice A1_0 l1_0.length c1_0, .slice A1_1 l1_1.length c1_1] 29 (0, 0)) (zk BK475)) : gb491 ≠ gb475))
     have n15_ := Aside0.mk ((by rw [hg]; exact Nat.ne_of_lt (blk_lt (g := gb490) (o := .cells #[.slice none 0 0, .slice none 0 0] 29 (0, 0)) (zk BK490)) : gb490 ≠ gb491))
     have n16_ := Aside0.mk ((by rw [hg]; exact Nat.ne_of_gt (blk_lt (g := gb490) (o := .cells #[.slice none 0 0, .slice none 0 0] 29 (0, 0)) (zk BK490)) : gb491 ≠ gb490))
     clear HO480
     clear HO483
     clear HO486
     clear HO489
     clear BK474
     clear BK475
     clear BK490
     clear HB
     have HO480 := n0_
     have HO483 := n1_
     have HO486 := n2_
     have HO489 := n3_
     have BK474 := n4_
     have BK475 := n5_
     have BK490 := n6_
     have HB := n7_
     have BK491 := n8_
     have GW491 := n9_
     have GE491 := n10_
     have NB474_491 := n11_
     have NB491_474 := n12_
     have NB475_491 := n13_
     have NB491_475 := n14_
     have NB490_491 := n15_
     have NB491_490 := n16_
     clear n0_ n1_ n2_ n3_ n4_ n5_ n6_ n7_ n8_ n9_ n10_ n11_ n12_ n13_ n14_ n15_ n16_
     clear hb hbox hg
     refine hK.out _ _ ⟨(blk_cell BK474.out 0).trans rfl, (blk_cell BK474.out 1).trans rfl, (blk_cell BK475.out 0).trans rfl, (blk_cell BK475.out 1).trans rfl⟩ (fun hHeld => ?_)
     clear hK K
     refine norm_ (a' := ?_) ?_ ?_
     rotate_left
     ·show Act.put _ (some 9) _ = _
      simp only [Act.put, List.setIfInBounds_toArray, List.set_cons_zero, List.set_cons_succ, i64_w, i32_w]
      rfl
     exact norm_ (by first | (simp only [putAll, Act.put, List.setIfInBounds_toArray, List.set_cons_zero, List.set_cons_succ]; done) | (simp only [putAll, Act.put, List.setIfInBounds_toArray, List.set_cons_zero, List.set_cons_succ]; rfl)) (hJ1_3_4_5 (v479, v482, v485, v488, gb490, gb491) _ ⟨hHeld, (zR HO480), (zR HO483), (zR HO486), (zR HO489), (zk BK474), (zk BK475), (zk BK490), (zk BK491), GW490.out, GE490.out, NB474_490.out, NB490_474.out, NB475_490.out, NB490_475.out, NB491_490.out, NB490_491.out, GW491.out, GE491.out, NB474_491.out, NB491_474.out, NB475_491.out, NB491_475.out, zB⟩)
   rintro ⟨v479, v482, v485, v488, gb490, gb491⟩ w25 ⟨hS_, h0_, h1_, h2_, h3_, h4_, h5_, h6_, h7_, h8_, h9_, h10_, h11_, h12_, h13_, h14_, h15_, h16_, h17_, h18_, h19_, h20_, h21_, h22_⟩
   have n0_ : Aside0 (Kd.R (Kd.int .i64) 3 w25 w.heap.size (fun k_ => some k_ ≠ (v482 : Value).ownBlock ∧ some k_ ≠ (v485 : Value).ownBlock ∧ some k_ ≠ (v488 : Value).ownBlock) v479 t478) := ⟨h0_⟩
   have n1_ : Aside0 (Kd.R (Kd.int .i64) 3 w25 w.heap.size (fun k_ => some k_ ≠ (v479 : Value).ownBlock ∧ some k_ ≠ (v485 : Value).ownBlock ∧ some k_ ≠ (v488 : Value).ownBlock) v482 t481) := ⟨h1_⟩
   have n2_ : Aside0 (Kd.R (Kd.int .i64) 3 w25 w.heap.size (fun k_ => some k_ ≠ (v479 : Value).ownBlock ∧ some k_ ≠ (v482 : Value).ownBlock ∧ some k_ ≠ (v488 : Value).ownBlock) v485 t484) := ⟨h2_⟩
   have n3_ : Aside0 (Kd.R (Kd.int .i64) 3 w25 w.heap.size (fun k_ => some k_ ≠ (v479 : Value).ownBlock ∧ some k_ ≠ (v482 : Value).ownBlock ∧ some k_ ≠ (v485 : Value).ownBlock) v488 t487) := ⟨h3_⟩
   have n4_ : Aside0 (w25.heap[gb474]? = some (.cells #[.slice A0_0 l0_0.length c0_0, .slice A0_1 l0_1.length c0_1] 29 (0, 0))) := ⟨h4_⟩
   have n5_ : Aside0 (w25.heap[gb475]? = some (.cells #[.slice A1_0 l1_0.length c1_0, .slice A1_1 l1_1.length c1_1] 29 (0, 0))) := ⟨h5_⟩
   have n6_ : Aside0 (w25.heap[gb490]? = some (.cells #[.slice none 0 0, .slice none 0 0] 29 (0, 0))) := ⟨h6_⟩
   have n7_ : Aside0 (w25.heap[gb491]? = some (.cells #[.slice none 0 0, .slice none 0 0] 29 (0, 0))) := ⟨h7_⟩
   have n8_ : Aside0 (w.heap.size ≤ gb490) := ⟨h8_⟩
   have n9_ : Aside0 (w.heap.size ≤ gb490) := ⟨h9_⟩
   have n10_ : Aside0 (gb474 ≠ gb490) := ⟨h10_⟩
   have n11_ : Aside0 (gb490 ≠ gb474) := ⟨h11_⟩
   have n12_ : Aside0 (gb475 ≠ gb490) := ⟨h12_⟩
   have n13_ : Aside0 (gb490 ≠ gb475) := ⟨h13_⟩
   have n14_ : Aside0 (gb491 ≠ gb490) := ⟨h14_⟩
   have n15_ : Aside0 (gb490 ≠ gb491) := ⟨h15_⟩
   have n16_ : Aside0 (w.heap.size ≤ gb491) := ⟨h16_⟩
   have n17_ : Aside0 (w.heap.size ≤ gb491) := ⟨h17_⟩
   have n18_ : Aside0 (gb474 ≠ gb491) := ⟨h18_⟩
   have n19_ : Aside0 (gb491 ≠ gb474) := ⟨h19_⟩
   have n20_ : Aside0 (gb475 ≠ gb491) := ⟨h20_⟩
   have n21_ : Aside0 (gb491 ≠ gb475) := ⟨h21_⟩
   have n22_ : Aside0 (Below w.heap.size w w25) := ⟨h22_⟩
   clear BK474
   clear BK475
   clear HB
   clear h0_ h1_ h2_ h3_ h4_ h5_ h6_ h7_ h8_ h9_ h10_ h11_ h12_ h13_ h14_ h15_ h16_ h17_ h18_ h19_ h20_ h21_ h22_
   have HO480 := n0_
   have HO483 := n1_
   have HO486 := n2_
   have HO489 := n3_
   have BK474 := n4_
   have BK475 := n5_
   have BK490 := n6_
   have BK491 := n7_
   have GW490 := n8_
   have GE490 := n9_
   have NB474_490 := n10_
   have NB490_474 := n11_
   have NB475_490 := n12_
   have NB490_475 := n13_
   have NB491_490 := n14_
   have NB490_491 := n15_
   have GW491 := n16_
   have GE491 := n17_
   have NB474_491 := n18_
   have NB491_474 := n19_
   have NB475_491 := n20_
   have NB491_475 := n21_
   have HB := n22_
   clear n0_ n1_ n2_ n3_ n4_ n5_ n6_ n7_ n8_ n9_ n10_ n11_ n12_ n13_ n14_ n15_ n16_ n17_ n18_ n19_ n20_ n21_ n22_
   have hHeld : w25.cell? ⟨gb474, 0, none⟩ = some (.slice A0_0 l0_0.length c0_0) ∧ w25.cell? ⟨gb474, 1, none⟩ = some (.slice A0_1 l0_1.length c0_1) ∧ w25.cell? ⟨gb475, 0, none⟩ = some (.slice A1_0 l1_0.length c1_0) ∧ w25.cell? ⟨gb475, 1, none⟩ = some (.slice A1_1 l1_1.length c1_1) := hS_
   obtain ⟨Ao26, co26, eo26⟩ := Kd.R_slice HO480.out
   (first | subst eo26 | (injection eo26 with f1_ f2_ f3_; have f4_ := f1_.symm; have f5_ := f3_.symm; clear f1_ f2_ f3_; subst f4_; subst f5_))
   obtain ⟨Ao28, co28, eo28⟩ := Kd.R_slice HO483.out
   (first | subst eo28 | (injection eo28 with f1_ f2_ f3_; have f4_ := f1_.symm; have f5_ := f3_.symm; clear f1_ f2_ f3_; subst f4_; subst f5_))
   obtain ⟨Ao30, co30, eo30⟩ := Kd.R_slice HO486.out
   (first | subst eo30 | (injection eo30 with f1_ f2_ f3_; have f4_ := f1_.symm; have f5_ := f3_.symm; clear f1_ f2_ f3_; subst f4_; subst f5_))
   obtain ⟨Ao32, co32, eo32⟩ := Kd.R_slice HO489.out
   (first | subst eo32 | (injection eo32 with f1_ f2_ f3_; have f4_ := f1_.symm; have f5_ := f3_.symm; clear f1_ f2_ f3_; subst f4_; subst f5_))
   refine norm_ (a' := ?_) ?_ ?_
   rotate_left
   ·simp only [putAll, Act.put, List.setIfInBounds_toArray, List.set_cons_zero, List.set_cons_succ]
    rfl
   refine one_ (i := 6) (N := none) #[true, true, true, true, true, true, true, false] rfl rfl (one_of HT_.out zK) (by decide) (fun K hK => ?_)
   have hs27 : w25.cell? ⟨gb490, 0, none⟩ = some (.slice none 0 0) := (blk_cell BK490.out 0).trans rfl
   have hfs27 := blk_frozen BK490.out 0
   have hns27_0 := NB474_490.out
   have hns27_1 := NB475_490.out
   have hns27_3 := NB491_490.out
   have hms27_0 := NB490_474.out
   have hms27_1 := NB490_475.out
   have hms27_3 := NB490_491.out
   have hs29 : w25.cell? ⟨gb490, 1, none⟩ = some (.slice none 0 0) := (blk_cell BK490.out 1).trans rfl
   have hfs29 := blk_frozen BK490.out 1
   have hns29_0 := NB474_490.out
   have hns29_1 := NB475_490.out
   have hns29_3 := NB491_490.out
   have hms29_0 := NB490_474.out
   have hms29_1 := NB490_475.out
   have hms29_3 := NB490_491.out
   refine skip_ (w1 := ?_) (by rfl) rfl ?_ ?_
   rotate_left
   ·go_simp
    rfl
   refine hK.out _ _ ⟨((cell_far (p := ⟨gb490, _, none⟩) NB474_490.out _).trans (((cell_far (p := ⟨gb490, _, none⟩) NB474_490.out _).trans (hHeld.1)))), ((cell_far (p := ⟨gb490, _, none⟩) NB474_490.out _).trans (((cell_far (p := ⟨gb490, _, none⟩) NB474_490.out _).trans (hHeld.2.1)))), ((cell_far (p := ⟨gb490, _, none⟩) NB475_490.out _).trans (((cell_far (p := ⟨gb490, _, none⟩) NB475_490.out _).trans (hHeld.2.2.1)))), ((cell_far (p := ⟨gb490, _, none⟩) NB475_490.out _).trans (((cell_far (p := ⟨gb490, _, none⟩) NB475_490.out _).trans (hHeld.2.2.2))))⟩ (fun hHeld => ?_)
   clear hK K
   refine one_ (i := 7) (N := none) #[true, true, true, true, true, true, true, true] rfl rfl (one_of HT_.out zK) (by decide) (fun K hK => ?_)
   have hs31 : w25.cell? ⟨gb491, 0, none⟩ = some (.slice none 0 0) := (blk_cell BK491.out 0).trans rfl
   have hfs31 := blk_frozen BK491.out 0
   have hns31_0 := NB474_491.out
   have hns31_1 := NB475_491.out
   have hns31_2 := NB490_491.out
   have hms31_0 := NB491_474.out
   have hms31_1 := NB491_475.out
   have hms31_2 := NB491_490.out
   have hs33 : w25.cell? ⟨gb491, 1, none⟩ = some (.slice none 0 0) := (blk_cell BK491.out 1).trans rfl
   have hfs33 := blk_frozen BK491.out 1
   have hns33_0 := NB474_491.out
   have hns33_1 := NB475_491.out
   have hns33_2 := NB490_491.out
   have hms33_0 := NB491_474.out
   have hms33_1 := NB491_475.out
   have hms33_2 := NB491_490.out
   refine skip_ (w1 := ?_) (by rfl) rfl ?_ ?_
   rotate_left
   ·go_simp
    rfl
   refine hK.out _ _ ⟨((cell_far (p := ⟨gb491, _, none⟩) NB474_491.out _).trans (((cell_far (p := ⟨gb491, _, none⟩) NB474_491.out _).trans (hHeld.1)))), ((cell_far (p := ⟨gb491, _, none⟩) NB474_491.out _).trans (((cell_far (p := ⟨gb491, _, none⟩) NB474_491.out _).trans (hHeld.2.1)))), ((cell_far (p := ⟨gb491, _, none⟩) NB475_491.out _).trans (((cell_far (p := ⟨gb491, _, none⟩) NB475_491.out _).trans (hHeld.2.2.1)))), ((cell_far (p := ⟨gb491, _, none⟩) NB475_491.out _).trans (((cell_far (p := ⟨gb491, _, none⟩) NB475_491.out _).trans (hHeld.2.2.2))))⟩ (fun hHeld => ?_)
   clear hK K
   refine done_ (done_of HT_.out zK) ?_
   go_upto_region 8 with (fail)
   (try simp only [Act.put, List.setIfInBounds_toArray, List.set_cons_zero, List.set_cons_succ])
   have H := HC19.out
   clear HC19
   replace H := Option.bind_eq_some_iff.mp H
   obtain ⟨t492, A340, H⟩ := H
   replace H : (if t492 = true then ((slices_Equal_int_int.f k t481 t487).bind fun t493 => (some (t493, 0))) else (some (false, 0))) = some (r1, r2) := H
   have A34 := Aside0.mk A340
   clear A340
   by_cases c35 : t492 = true
   ·subst c35
    have H1 : ((slices_Equal_int_int.f k t481 t487).bind fun t493 => (some (t493, 0))) = some (r1, r2) := by rw [if_pos rfl] at H; exact H
    clear H
    have H := H1
    clear H1
    replace H := Option.bind_eq_some_iff.mp H
    obtain ⟨t493, A360, H⟩ := H
    replace H : (some (t493, 0)) = some (r1, r2) := H
    have A36 := Aside0.mk A360
    clear A360
    simp only [Option.some.injEq, Prod.mk.injEq] at H
    obtain ⟨rfl, rfl⟩ := H
    have hnb37 := NB490_474.out
    have hnc37 := NB474_490.out
    have hnb38 := NB490_475.out
    have hnc38 := NB475_490.out
    have hnb39 := NB490_491.out
    have hnc39 := NB491_490.out
    have hcz40_0 : w25.cell? ⟨gb490, 0, none⟩ = some (.slice none 0 0) := (blk_cell BK490.out 0).trans rfl
    have hcz40_1 : w25.cell? ⟨gb490, 1, none⟩ = some (.slice none 0 0) := (blk_cell BK490.out 1).trans rfl
    have hfz40_0 := blk_frozen BK490.out 0
    have hfz40_1 := blk_frozen BK490.out 1
    have hnb41 := NB491_474.out
    have hnc41 := NB474_491.out
    have hnb42 := NB491_475.out
    have hnc42 := NB475_491.out
    have hcz43_0 : w25.cell? ⟨gb491, 0, none⟩ = some (.slice none 0 0) := (blk_cell BK491.out 0).trans rfl
    have hcz43_1 : w25.cell? ⟨gb491, 1, none⟩ = some (.slice none 0 0) := (blk_cell BK491.out 1).trans rfl
    have hfz43_0 := blk_frozen BK491.out 0
    have hfz43_1 := blk_frozen BK491.out 1
    go_wp2_with (first | ((with_reducible refine gate_callee (f := 58) rfl ?_); refine goesL_ (some 28) rfl rfl Try.func58 zK rfl #[.slice Ao26 t478.length co26, .slice Ao30 t484.length co30] rfl zM ?_; (with_reducible refine (slices_Equal_int_int.calls k _ _ t478 _ _ t484 true _ ?side1 ?side2 ?side3 ?side4 A34.out).mono ?_); (case side1 => refine (Kd.R_reads' (e := 3) (base := w.heap.size) (ok := fun k_ => (some k_ ≠ (.slice Ao28 t481.length co28 : Value).ownBlock ∧ (some k_ ≠ (.slice Ao30 t484.length co30 : Value).ownBlock ∧ some k_ ≠ (.slice Ao32 t487.length co32 : Value).ownBlock))) (n := t478.length) (c := co26) ?_).2.2; exact (by (with_reducible repeat (first | apply Kd.R_alloc | apply Kd.R_drewN | apply Kd.R_drew)); exact (Kd.R_mono (Kd.R_mono (Kd.R_far (p := ⟨gb491, 1, none⟩) (Kd.R_far (p := ⟨gb491, 0, none⟩) (Kd.R_far (p := ⟨gb490, 1, none⟩) (Kd.R_far (p := ⟨gb490, 0, none⟩) (Kd.R_types (Kd.R_types HO480.out BK490.out (by decide)) BK491.out (by decide)) (fun _ hk => hk.1.2) (.slice Ao26 t478.length co26)) (fun _ hk => hk.1.2) (.slice Ao28 t481.length co28)) (fun _ hk => hk.2) (.slice Ao30 t484.length co30)) (fun _ hk => hk.2) (.slice Ao32 t487.length co32)) (fun _ h_ => h_.1)) (fun _ h_ => h_.1)))); (case side2 => exact (Kd.R_reads' HO480.out).2.1); (case side3 => refine (Kd.R_reads' (e := 3) (base := w.heap.size) (ok := fun k_ => (some k_ ≠ (.slice Ao26 t478.length co26 : Value).ownBlock ∧ (some k_ ≠ (.slice Ao28 t481.length co28 : Value).ownBlock ∧ some k_ ≠ (.slice Ao32 t487.length co32 : Value).ownBlock))) (n := t484.length) (c := co30) ?_).2.2; exact (by (with_reducible repeat (first | apply Kd.R_alloc | apply Kd.R_drewN | apply Kd.R_drew)); exact (Kd.R_mono (Kd.R_mono (Kd.R_far (p := ⟨gb491, 1, none⟩) (Kd.R_far (p := ⟨gb491, 0, none⟩) (Kd.R_far (p := ⟨gb490, 1, none⟩) (Kd.R_far (p := ⟨gb490, 0, none⟩) (Kd.R_types (Kd.R_types HO486.out BK490.out (by decide)) BK491.out (by decide)) (fun _ hk => hk.1.2) (.slice Ao26 t478.length co26)) (fun _ hk => hk.1.2) (.slice Ao28 t481.length co28)) (fun _ hk => hk.2) (.slice Ao30 t484.length co30)) (fun _ hk => hk.2) (.slice Ao32 t487.length co32)) (fun _ h_ => h_.1)) (fun _ h_ => h_.1)))); (case side4 => exact (Kd.R_reads' HO486.out).2.1); rintro e w' ⟨rfl, ⟨nd, rfl⟩⟩; refine ⟨_, rfl, ?_⟩) | (go_at_call 58; (with_reducible refine (slices_Equal_int_int.calls k _ _ t481 _ _ t487 t493 _ ?side1 ?side2 ?side3 ?side4 A36.out).mono ?_); (case side1 => refine (Kd.R_reads' (e := 3) (base := w.heap.size) (ok := fun k_ => (some k_ ≠ (.slice Ao26 t478.length co26 : Value).ownBlock ∧ (some k_ ≠ (.slice Ao30 t484.length co30 : Value).ownBlock ∧ some k_ ≠ (.slice Ao32 t487.length co32 : Value).ownBlock))) (n := t481.length) (c := co28) ?_).2.2; exact (by (with_reducible repeat (first | apply Kd.R_alloc | apply Kd.R_drewN | apply Kd.R_drew)); exact (Kd.R_mono (Kd.R_mono (Kd.R_far (p := ⟨gb491, 1, none⟩) (Kd.R_far (p := ⟨gb491, 0, none⟩) (Kd.R_far (p := ⟨gb490, 1, none⟩) (Kd.R_far (p := ⟨gb490, 0, none⟩) (Kd.R_types (Kd.R_types HO483.out BK490.out (by decide)) BK491.out (by decide)) (fun _ hk => hk.1.2) (.slice Ao26 t478.length co26)) (fun _ hk => hk.1.2) (.slice Ao28 t481.length co28)) (fun _ hk => hk.2) (.slice Ao30 t484.length co30)) (fun _ hk => hk.2) (.slice Ao32 t487.length co32)) (fun _ h_ => h_.1)) (fun _ h_ => h_.1)))); (case side2 => exact (Kd.R_reads' HO483.out).2.1); (case side3 => refine (Kd.R_reads' (e := 3) (base := w.heap.size) (ok := fun k_ => (some k_ ≠ (.slice Ao26 t478.length co26 : Value).ownBlock ∧ (some k_ ≠ (.slice Ao28 t481.length co28 : Value).ownBlock ∧ some k_ ≠ (.slice Ao30 t484.length co30 : Value).ownBlock))) (n := t487.length) (c := co32) ?_).2.2; exact (by (with_reducible repeat (first | apply Kd.R_alloc | apply Kd.R_drewN | apply Kd.R_drew)); exact (Kd.R_mono (Kd.R_mono (Kd.R_far (p := ⟨gb491, 1, none⟩) (Kd.R_far (p := ⟨gb491, 0, none⟩) (Kd.R_far (p := ⟨gb490, 1, none⟩) (Kd.R_far (p := ⟨gb490, 0, none⟩) (Kd.R_types (Kd.R_types HO489.out BK490.out (by decide)) BK491.out (by decide)) (fun _ hk => hk.1.2) (.slice Ao26 t478.length co26)) (fun _ hk => hk.1.2) (.slice Ao28 t481.length co28)) (fun _ hk => hk.2) (.slice Ao30 t484.length co30)) (fun _ hk => hk.2) (.slice Ao32 t487.length co32)) (fun _ h_ => h_.1)) (fun _ h_ => h_.1)))); (case side4 => exact (Kd.R_reads' HO489.out).2.1); rintro e w' ⟨rfl, ⟨nd, rfl⟩⟩))
    go_ret2
    exact ⟨by first | rfl | (simp [errW_none, errW_some] <;> rfl) | (simp [*, errW_none, errW_some] <;> rfl), by repeat (first | (with_reducible first | exact HB.out | apply below_alloc | apply pw_below_drewN | apply below_drew1 | refine below_set ?_ GE474.out | refine below_set ?_ GE475.out | refine below_set ?_ GE490.out | refine below_set ?_ GE491.out) | exact HB.out)⟩
   ·replace c35 := Bool.eq_false_iff.mpr c35
    subst c35
    have H1 : (some (false, 0)) = some (r1, r2) := by rw [if_neg (show ¬ (false = true) by decide)] at H; exact H
    clear H
    have H := H1
    clear H1
    simp only [Option.some.injEq, Prod.mk.injEq] at H
    obtain ⟨rfl, rfl⟩ := H
    have hnb44 := NB490_474.out
    have hnc44 := NB474_490.out
    have hnb45 := NB490_475.out
    have hnc45 := NB475_490.out
    have hnb46 := NB490_491.out
    have hnc46 := NB491_490.out
    have hcz47_0 : w25.cell? ⟨gb490, 0, none⟩ = some (.slice none 0 0) := (blk_cell BK490.out 0).trans rfl
    have hcz47_1 : w25.cell? ⟨gb490, 1, none⟩ = some (.slice none 0 0) := (blk_cell BK490.out 1).trans rfl
    have hfz47_0 := blk_frozen BK490.out 0
    have hfz47_1 := blk_frozen BK490.out 1
    have hnb48 := NB491_474.out
    have hnc48 := NB474_491.out
    have hnb49 := NB491_475.out
    have hnc49 := NB475_491.out
    have hcz50_0 : w25.cell? ⟨gb491, 0, none⟩ = some (.slice none 0 0) := (blk_cell BK491.out 0).trans rfl
    have hcz50_1 : w25.cell? ⟨gb491, 1, none⟩ = some (.slice none 0 0) := (blk_cell BK491.out 1).trans rfl
    have hfz50_0 := blk_frozen BK491.out 0
    have hfz50_1 := blk_frozen BK491.out 1
    go_wp2_with (first | ((with_reducible refine gate_callee (f := 58) rfl ?_); refine goesL_ (some 28) rfl rfl Try.func58 zK rfl #[.slice Ao26 t478.length co26, .slice Ao30 t484.length co30] rfl zM ?_; (with_reducible refine (slices_Equal_int_int.calls k _ _ t478 _ _ t484 false _ ?side1 ?side2 ?side3 ?side4 A34.out).mono ?_); (case side1 => refine (Kd.R_reads' (e := 3) (base := w.heap.size) (ok := fun k_ => (some k_ ≠ (.slice Ao28 t481.length co28 : Value).ownBlock ∧ (some k_ ≠ (.slice Ao30 t484.length co30 : Value).ownBlock ∧ some k_ ≠ (.slice Ao32 t487.length co32 : Value).ownBlock))) (n := t478.length) (c := co26) ?_).2.2; exact (by (with_reducible repeat (first | apply Kd.R_alloc | apply Kd.R_drewN | apply Kd.R_drew)); exact (Kd.R_mono (Kd.R_mono (Kd.R_far (p := ⟨gb491, 1, none⟩) (Kd.R_far (p := ⟨gb491, 0, none⟩) (Kd.R_far (p := ⟨gb490, 1, none⟩) (Kd.R_far (p := ⟨gb490, 0, none⟩) (Kd.R_types (Kd.R_types HO480.out BK490.out (by decide)) BK491.out (by decide)) (fun _ hk => hk.1.2) (.slice Ao26 t478.length co26)) (fun _ hk => hk.1.2) (.slice Ao28 t481.length co28)) (fun _ hk => hk.2) (.slice Ao30 t484.length co30)) (fun _ hk => hk.2) (.slice Ao32 t487.length co32)) (fun _ h_ => h_.1)) (fun _ h_ => h_.1)))); (case side2 => exact (Kd.R_reads' HO480.out).2.1); (case side3 => refine (Kd.R_reads' (e := 3) (base := w.heap.size) (ok := fun k_ => (some k_ ≠ (.slice Ao26 t478.length co26 : Value).ownBlock ∧ (some k_ ≠ (.slice Ao28 t481.length co28 : Value).ownBlock ∧ some k_ ≠ (.slice Ao32 t487.length co32 : Value).ownBlock))) (n := t484.length) (c := co30) ?_).2.2; exact (by (with_reducible repeat (first | apply Kd.R_alloc | apply Kd.R_drewN | apply Kd.R_drew)); exact (Kd.R_mono (Kd.R_mono (Kd.R_far (p := ⟨gb491, 1, none⟩) (Kd.R_far (p := ⟨gb491, 0, none⟩) (Kd.R_far (p := ⟨gb490, 1, none⟩) (Kd.R_far (p := ⟨gb490, 0, none⟩) (Kd.R_types (Kd.R_types HO486.out BK490.out (by decide)) BK491.out (by decide)) (fun _ hk => hk.1.2) (.slice Ao26 t478.length co26)) (fun _ hk => hk.1.2) (.slice Ao28 t481.length co28)) (fun _ hk => hk.2) (.slice Ao30 t484.length co30)) (fun _ hk => hk.2) (.slice Ao32 t487.length co32)) (fun _ h_ => h_.1)) (fun _ h_ => h_.1)))); (case side4 => exact (Kd.R_reads' HO486.out).2.1); rintro e w' ⟨rfl, ⟨nd, rfl⟩⟩; refine ⟨_, rfl, ?_⟩))
    go_ret2
    exact ⟨by first | rfl | (simp [errW_none, errW_some] <;> rfl) | (simp [*, errW_none, errW_some] <;> rfl), by repeat (first | (with_reducible first | exact HB.out | apply below_alloc | apply pw_below_drewN | apply below_drew1 | refine below_set ?_ GE474.out | refine below_set ?_ GE475.out | refine below_set ?_ GE490.out | refine below_set ?_ GE491.out) | exact HB.out)⟩
  ·rw [if_neg c16] at H
   have c16b0 : (t477 == 0) = false := beq_eq_false_iff_ne.mpr c16
   have c16b1 : (t477 != 0) = true := bne_iff_ne.mpr c16
   (first | rw [c16b0] | (simp only [i64_w, i32_w]; rw [c16b0]) | skip)
   (try rw [c16b1])
   simp only [Option.some.injEq, Prod.mk.injEq] at H
   obtain ⟨rfl, rfl⟩ := H
   go_wp2
   go_ret2
   exact ⟨by first | rfl | (simp [errW_none, errW_some] <;> rfl) | (simp [*, errW_none, errW_some] <;> rfl), by repeat (first | (with_reducible first | exact HB.out | apply below_alloc | apply pw_below_drewN | apply below_drew1 | refine below_set ?_ GE474.out | refine below_set ?_ GE475.out) | exact HB.out)⟩
 ·rw [if_neg c10] at H
  have c10b0 : (t476 == 0) = false := beq_eq_false_iff_ne.mpr c10
  have c10b1 : (t476 != 0) = true := bne_iff_ne.mpr c10
  (first | rw [c10b0] | (simp only [i64_w, i32_w]; rw [c10b0]) | skip)
  (try rw [c10b1])
  simp only [Option.some.injEq, Prod.mk.injEq] at H
  obtain ⟨rfl, rfl⟩ := H
  go_wp2
  go_ret2
  exact ⟨by first | rfl | (simp [errW_none, errW_some] <;> rfl) | (simp [*, errW_none, errW_some] <;> rfl), by repeat (first | (with_reducible first | exact HB.out | apply below_alloc | apply pw_below_drewN | apply below_drew1 | refine below_set ?_ GE474.out | refine below_set ?_ GE475.out) | exact HB.out)⟩
end Go.Proofs.Ythcfmdkhkikbcaa.D
