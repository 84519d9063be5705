-- Written by wip/tools/myprint.py, a program of this session's.
import Derived.Test.YtbagnalcabdlhaaS0
import Derived.Test.YtbagnalcabdlhaaS2
namespace Go.Proofs.Ytbagnalcabdlhaa.S
open Go.RowKit Go.Proofs.YtbagnalcabdlhaaW.PrintWords Go.Proofs.YtbagnalcabdlhaaW.PrintLast Go.Proofs.YtbagnalcabdlhaaW.PrintMore
attribute [local go_sem] max2_int min2_int max_two min_two max_three min_three max_four min_four   -- for this text's walks alone
set_option linter.unusedVariables false
set_option linter.unusedSimpArgs false
/-! ### solve_choices_fails: function 92 -/
def solve_choices_fails.f (k : Nat) (a0_0 : Int) (a0_1 : Int) (l1_0 : List Int) (l1_1 : List Int) : Option (Bool) := (solve_row.f k l1_0 l1_1 a0_0).bind fun t254 => ((solve_row.f k l1_0 l1_1 a0_1).bind fun t255 => ((slices_ContainsFunc_int_int_solve_choices_fails_1.f k l1_1 t254 t255).bind fun t258 => (some (!t258))))
theorem solve_choices_fails.mono : ∀ a0 a1 a2 a3 k, LeO (solve_choices_fails.f k a0 a1 a2 a3) (solve_choices_fails.f (k + 1) a0 a1 a2 a3) := by
 intro a0 a1 a2 a3 k
 unfold solve_choices_fails.f
 repeat' first
   | (with_reducible exact slices_ContainsFunc_int_int_solve_choices_fails_1.mono _ _ _ _)
   | (with_reducible exact solve_row.mono _ _ _ _)
   | (with_reducible exact LeO.refl _)
   | (with_reducible exact LeO.none _)
   | (with_reducible refine LeO.ite ?_ ?_)
   | (with_reducible refine LeO.bind ?_ (fun _ => ?_))
   | exact slices_ContainsFunc_int_int_solve_choices_fails_1.mono _ _ _ _
   | exact solve_row.mono _ _ _ _
   | exact LeO.none _
   | refine LeO.ite ?_ ?_
   | refine LeO.bind ?_ (fun _ => ?_)
def solve_choices_fails.T1 : Bool × List (List Nat × List Nat) := (true, [([], []), ([], []), ([1], [1]), ([0, 2], [0, 2]), ([], []), ([], []), ([5], [5]), ([4, 6, 3], [4, 6]), ([], []), ([], []), ([8, 3, 7, 0, 1, 2, 3, 8, 9], [3, 8]), ([9, 7, 10, 0, 1, 2, 3, 4, 5, 6, 7, 8, 9, 10], [7, 9])])
def solve_choices_fails.B1 : List Nat := [0, 0, 2, 7, 0, 0, 32, 127, 0, 0, 1023, 2047]
theorem solve_choices_fails.tab1 : rtab .any (opsOf Try.f92 1) = solve_choices_fails.T1 := by kernel_rfl
theorem solve_choices_fails.bits1 : waitsOk solve_choices_fails.T1.2 solve_choices_fails.B1 = true := by kernel_rfl
set_option maxHeartbeats 8000000 in
set_option maxRecDepth 100000 in
theorem solve_choices_fails.calls (k : Nat) (a0_0 : Int) (a0_1 : Int) (A1_0 : Option Addr) (c1_0 : Nat) (l1_0 : List Int) (A1_1 : Option Addr) (c1_1 : Nat) (l1_1 : List Int) (r : Bool) (w : World) (hr1_0 : Kd.C (Kd.int .i64) w A1_0 l1_0.length l1_0) (hc1_0 : l1_0.length ≤ c1_0) (hr1_1 : Kd.C (Kd.int .i64) w A1_1 l1_1.length l1_1) (hc1_1 : l1_1.length ≤ c1_1) (h : solve_choices_fails.f k a0_0 a0_1 l1_0 l1_1 = some r) :
  Calls Try.prog 92 #[.agg #[.int .i64 a0_0, .int .i64 a0_1], .agg #[.slice A1_0 l1_0.length c1_0, .slice A1_1 l1_1.length c1_1]] w fun e w' => e = .returned (.bool r) ∧ Below w.heap.size w w' := by
 have hu68 := Try.underlying68
 have hu61 := Try.underlying61
 have hu3 := Try.underlying3
 have hu42 := Try.underlying42
 have HR1_0 := Aside0.mk hr1_0
 have HC1_0 := Aside0.mk hc1_0
 clear hr1_0 hc1_0
 have HR1_1 := Aside0.mk hr1_1
 have HC1_1 := Aside0.mk hc1_1
 clear hr1_1 hc1_1
 have HB := Aside0.mk (Below.refl w.heap.size w)
 have H : ((solve_row.f k l1_0 l1_1 a0_0).bind fun t254 => ((solve_row.f k l1_0 l1_1 a0_1).bind fun t255 => ((slices_ContainsFunc_int_int_solve_choices_fails_1.f k l1_1 t254 t255).bind fun t258 => (some (!t258))))) = some r := h
 clear h
 replace H := Option.bind_eq_some_iff.mp H
 obtain ⟨t254, A30, H⟩ := H
 replace H : ((solve_row.f k l1_0 l1_1 a0_1).bind fun t255 => ((slices_ContainsFunc_int_int_solve_choices_fails_1.f k l1_1 t254 t255).bind fun t258 => (some (!t258)))) = some r := H
 have A3 := Aside0.mk A30
 clear A30
 replace H := Option.bind_eq_some_iff.mp H
 obtain ⟨t255, A40, H⟩ := H
 replace H : ((slices_ContainsFunc_int_int_solve_choices_fails_1.f k l1_1 t254 t255).bind fun t258 => (some (!t258))) = some r := H
 have A4 := Aside0.mk A40
 clear A40
 replace H := Option.bind_eq_some_iff.mp H
 obtain ⟨t258, A50, H⟩ := H
 replace H : (some (!t258)) = some r := H
 have A5 := Aside0.mk A50
 clear A50
 obtain rfl := Option.some.inj H
 go_enter Try.func92, Try.ntmps92
 try go_wp2_with (first | ((with_reducible refine gate_dst (N := 2) rfl ?_); refine box_event ?hg (N := 2) ?hd (cs := #[.int .i64 a0_0, .int .i64 a0_1]) (t := 68) ?hr ?_; (case hd => rfl); (case hg => rfl); (case hr => first | (go_simp; done) | (go_simp; rfl)); intro gb252 hg w6 hbox hb; have n0_ := Aside0.mk (below_step zB hb); have n1_ := Aside0.mk (hbox); have n2_ := Aside0.mk ((by rw [hg]; exact (below_size zB) : w.heap.size ≤ gb252)); have n3_ := Aside0.mk ((by rw [hg]; exact (below_size zB) : w.heap.size ≤ gb252)); clear HB; have HB := n0_; have BK252 := n1_; have GW252 := n2_; have GE252 := n3_; clear n0_ n1_ n2_ n3_; clear hb hbox hg) | ((with_reducible refine gate_dst (N := 3) rfl ?_); refine box_event ?hg (N := 3) ?hd (cs := #[.slice A1_0 l1_0.length c1_0, .slice A1_1 l1_1.length c1_1]) (t := 61) ?hr ?_; (case hd => rfl); (case hg => rfl); (case hr => first | (go_simp; done) | (go_simp; rfl)); intro gb253 hg w7 hbox hb; have n0_ := Aside0.mk (blk_below (g := gb252) (o := .cells #[.int .i64 a0_0, .int .i64 a0_1] 68 (0, 0)) (zk BK252) hb); have n1_ := Aside0.mk (below_step zB hb); have n2_ := Aside0.mk (hbox); have n3_ := Aside0.mk ((by rw [hg]; exact (below_size zB) : w.heap.size ≤ gb253)); have n4_ := Aside0.mk ((by rw [hg]; exact (below_size zB) : w.heap.size ≤ gb253)); have n5_ := Aside0.mk ((by rw [hg]; exact Nat.ne_of_lt (blk_lt (g := gb252) (o := .cells #[.int .i64 a0_0, .int .i64 a0_1] 68 (0, 0)) (zk BK252)) : gb252 ≠ gb253)); have n6_ := Aside0.mk ((by rw [hg]; exact Nat.ne_of_gt (blk_lt (g := gb252) (o := .cells #[.int .i64 a0_0, .int .i64 a0_1] 68 (0, 0)) (zk BK252)) : gb253 ≠ gb252)); clear BK252; clear HB; have BK252 := n0_; have HB := n1_; have BK253 := n2_; have GW253 := n3_; have GE253 := n4_; have NB252_253 := n5_; have NB253_252 := n6_; clear n0_ n1_ n2_ n3_ n4_ n5_ n6_; clear hb hbox hg))
 have n0_ := Aside0.mk (blk_drew BK252.out)
 have n1_ := Aside0.mk (blk_drew BK253.out)
 have n2_ := Aside0.mk (below_drew1 HB.out)
 clear BK252
 clear BK253
 clear HB
 have BK252 := n0_
 have BK253 := n1_
 have HB := n2_
 clear n0_ n1_ n2_
 refine start_ (n := 12) (S := fun w' => w'.cell? ⟨gb253, 0, none⟩ = some (.slice A1_0 l1_0.length c1_0) ∧ w'.cell? ⟨gb253, 1, none⟩ = some (.slice A1_1 l1_1.length c1_1) ∧ w'.cell? ⟨gb252, 0, none⟩ = some (.int .i64 a0_0) ∧ w'.cell? ⟨gb252, 1, none⟩ = some (.int .i64 a0_1)) (ds := []) #[false, false, false, false, false, false, false, false, false, false, false, false] zK rfl rfl ⟨(blk_cell BK253.out 0).trans rfl, (blk_cell BK253.out 1).trans rfl, (blk_cell BK252.out 0).trans rfl, (blk_cell BK252.out 1).trans rfl⟩ (fun hHeld => ?_); refine with_tabW solve_choices_fails.tab1 solve_choices_fails.bits1 (fun HT_ HW_ => ?_)
 generalize w7.drew = w8 at BK252 BK253 HB hHeld ⊢
 refine pure_ (i := 1) (N := some 8) (v := ?_) (a' := ?_) #[false, true, false, false, false, false, false, false, false, false, false, false] rfl rfl (any_of HT_.out zK) (fun _ _ _ h => h) (Or.inl ⟨by rfl, ?_⟩) ?_ ?_
 rotate_left
 ·intro w'
  go_simp
  with_reducible rfl
 rotate_left
 ·simp only [Act.put, List.setIfInBounds_toArray, List.set_cons_zero, List.set_cons_succ, i64_w, i32_w]
  rfl
 refine pure_ (i := 5) (N := some 12) (v := ?_) (a' := ?_) #[false, true, false, false, false, true, false, false, false, false, false, false] rfl rfl (any_of HT_.out zK) (fun _ _ _ h => h) (Or.inl ⟨by rfl, ?_⟩) ?_ ?_
 rotate_left
 ·intro w'
  go_simp
  with_reducible rfl
 rotate_left
 ·simp only [Act.put, List.setIfInBounds_toArray, List.set_cons_zero, List.set_cons_succ, i64_w, i32_w]
  rfl
 refine take_ (i := 0) (N := some 7) (v := ?_) (a' := ?_) #[true, true, false, false, false, true, false, false, false, false, false, false] rfl rfl (take_ofW HT_.out HW_.out zK) (fun _ _ _ h => h) (Or.inl ⟨by rfl, ?_⟩) hHeld ?_ ?_
 rotate_left
 ·rintro w' ⟨s0, s1, s2, s3⟩
  go_simp
  with_reducible rfl
 rotate_left
 ·simp only [Act.put, List.setIfInBounds_toArray, List.set_cons_zero, List.set_cons_succ, i64_w, i32_w]
  rfl
 refine take_ (i := 2) (N := some 9) (v := ?_) (a' := ?_) #[true, true, true, false, false, true, false, false, false, false, false, false] rfl rfl (take_ofW HT_.out HW_.out zK) (fun _ _ _ h => h) (Or.inl ⟨by rfl, ?_⟩) hHeld ?_ ?_
 rotate_left
 ·rintro w' ⟨s0, s1, s2, s3⟩
  go_simp
  with_reducible rfl
 rotate_left
 ·simp only [Act.put, List.setIfInBounds_toArray, List.set_cons_zero, List.set_cons_succ, i64_w, i32_w]
  rfl
 refine take_ (i := 4) (N := some 11) (v := ?_) (a' := ?_) #[true, true, true, false, true, true, false, false, false, false, false, false] rfl rfl (take_ofW HT_.out HW_.out zK) (fun _ _ _ h => h) (Or.inl ⟨by rfl, ?_⟩) hHeld ?_ ?_
 rotate_left
 ·rintro w' ⟨s0, s1, s2, s3⟩
  go_simp
  with_reducible rfl
 rotate_left
 ·simp only [Act.put, List.setIfInBounds_toArray, List.set_cons_zero, List.set_cons_succ, i64_w, i32_w]
  rfl
 refine take_ (i := 6) (N := some 13) (v := ?_) (a' := ?_) #[true, true, true, false, true, true, true, false, false, false, false, false] rfl rfl (take_ofW HT_.out HW_.out zK) (fun _ _ _ h => h) (Or.inl ⟨by rfl, ?_⟩) hHeld ?_ ?_
 rotate_left
 ·rintro w' ⟨s0, s1, s2, s3⟩
  go_simp
  with_reducible rfl
 rotate_left
 ·simp only [Act.put, List.setIfInBounds_toArray, List.set_cons_zero, List.set_cons_succ, i64_w, i32_w]
  rfl
 refine join_ (σ := Nat × Nat) 2 #[true, true, true, true, true, true, true, true, true, true, false, false] (fun s_ => [(10, .int .i64 t254), (14, .int .i64 t255), (5, .pointer (some ⟨s_.1, 0, none⟩)), (6, .pointer (some ⟨s_.2, 0, none⟩))]) (fun s_ w' => (w'.cell? ⟨gb253, 0, none⟩ = some (.slice A1_0 l1_0.length c1_0) ∧ w'.cell? ⟨gb253, 1, none⟩ = some (.slice A1_1 l1_1.length c1_1) ∧ w'.cell? ⟨gb252, 0, none⟩ = some (.int .i64 a0_0) ∧ w'.cell? ⟨gb252, 1, none⟩ = some (.int .i64 a0_1)) ∧ (w'.heap[gb252]? = some (.cells #[.int .i64 a0_0, .int .i64 a0_1] 68 (0, 0))) ∧ (w'.heap[gb253]? = some (.cells #[.slice A1_0 l1_0.length c1_0, .slice A1_1 l1_1.length c1_1] 61 (0, 0))) ∧ (w'.heap[s_.1]? = some (.cells #[.int .i64 0] 3 (0, 0))) ∧ (w'.heap[s_.2]? = some (.cells #[.int .i64 0] 3 (0, 0))) ∧ (w.heap.size ≤ s_.1) ∧ (w.heap.size ≤ s_.1) ∧ (gb252 ≠ s_.1) ∧ (s_.1 ≠ gb252) ∧ (gb253 ≠ s_.1) ∧ (s_.1 ≠ gb253) ∧ (s_.2 ≠ s_.1) ∧ (s_.1 ≠ s_.2) ∧ (w.heap.size ≤ s_.2) ∧ (w.heap.size ≤ s_.2) ∧ (gb252 ≠ s_.2) ∧ (s_.2 ≠ gb252) ∧ (gb253 ≠ s_.2) ∧ (s_.2 ≠ gb253) ∧ (Below w.heap.size w w')) ?_ ?_
 rotate_left
 ·intro hJ3_7_8_9
  refine join_ (σ := Nat) 3 #[true, true, true, true, true, true, true, true, true, false, false, false] (fun s_ => [(10, .int .i64 t254), (14, .int .i64 t255), (5, .pointer (some ⟨s_, 0, none⟩))]) (fun s_ w' => (w'.cell? ⟨gb253, 0, none⟩ = some (.slice A1_0 l1_0.length c1_0) ∧ w'.cell? ⟨gb253, 1, none⟩ = some (.slice A1_1 l1_1.length c1_1) ∧ w'.cell? ⟨gb252, 0, none⟩ = some (.int .i64 a0_0) ∧ w'.cell? ⟨gb252, 1, none⟩ = some (.int .i64 a0_1)) ∧ (w'.heap[gb252]? = some (.cells #[.int .i64 a0_0, .int .i64 a0_1] 68 (0, 0))) ∧ (w'.heap[gb253]? = some (.cells #[.slice A1_0 l1_0.length c1_0, .slice A1_1 l1_1.length c1_1] 61 (0, 0))) ∧ (w'.heap[s_]? = some (.cells #[.int .i64 0] 3 (0, 0))) ∧ (w.heap.size ≤ s_) ∧ (w.heap.size ≤ s_) ∧ (gb252 ≠ s_) ∧ (s_ ≠ gb252) ∧ (gb253 ≠ s_) ∧ (s_ ≠ gb253) ∧ (Below w.heap.size w w')) ?_ ?_
  rotate_left
  ·intro hJ3_7_8
   refine join_ (σ := Nat) 3 #[true, true, true, true, true, true, true, true, false, true, false, false] (fun s_ => [(10, .int .i64 t254), (14, .int .i64 t255), (6, .pointer (some ⟨s_, 0, none⟩))]) (fun s_ w' => (w'.cell? ⟨gb253, 0, none⟩ = some (.slice A1_0 l1_0.length c1_0) ∧ w'.cell? ⟨gb253, 1, none⟩ = some (.slice A1_1 l1_1.length c1_1) ∧ w'.cell? ⟨gb252, 0, none⟩ = some (.int .i64 a0_0) ∧ w'.cell? ⟨gb252, 1, none⟩ = some (.int .i64 a0_1)) ∧ (w'.heap[gb252]? = some (.cells #[.int .i64 a0_0, .int .i64 a0_1] 68 (0, 0))) ∧ (w'.heap[gb253]? = some (.cells #[.slice A1_0 l1_0.length c1_0, .slice A1_1 l1_1.length c1_1] 61 (0, 0))) ∧ (w'.heap[s_]? = some (.cells #[.int .i64 0] 3 (0, 0))) ∧ (w.heap.size ≤ s_) ∧ (w.heap.size ≤ s_) ∧ (gb252 ≠ s_) ∧ (s_ ≠ gb252) ∧ (gb253 ≠ s_) ∧ (s_ ≠ gb253) ∧ (Below w.heap.size w w')) ?_ ?_
   rotate_left
   ·intro hJ3_7_9
    refine join_ (σ := Nat × Nat) 3 #[true, true, true, true, true, true, true, false, true, true, false, false] (fun s_ => [(10, .int .i64 t254), (5, .pointer (some ⟨s_.1, 0, none⟩)), (6, .pointer (some ⟨s_.2, 0, none⟩))]) (fun s_ w' => (w'.cell? ⟨gb253, 0, none⟩ = some (.slice A1_0 l1_0.length c1_0) ∧ w'.cell? ⟨gb253, 1, none⟩ = some (.slice A1_1 l1_1.length c1_1) ∧ w'.cell? ⟨gb252, 0, none⟩ = some (.int .i64 a0_0) ∧ w'.cell? ⟨gb252, 1, none⟩ = some (.int .i64 a0_1)) ∧ (w'.heap[gb252]? = some (.cells #[.int .i64 a0_0, .int .i64 a0_1] 68 (0, 0))) ∧ (w'.heap[gb253]? = some (.cells #[.slice A1_0 l1_0.length c1_0, .slice A1_1 l1_1.length c1_1] 61 (0, 0))) ∧ (w'.heap[s_.1]? = some (.cells #[.int .i64 0] 3 (0, 0))) ∧ (w'.heap[s_.2]? = some (.cells #[.int .i64 0] 3 (0, 0))) ∧ (w.heap.size ≤ s_.1) ∧ (w.heap.size ≤ s_.1) ∧ (gb252 ≠ s_.1) ∧ (s_.1 ≠ gb252) ∧ (gb253 ≠ s_.1) ∧ (s_.1 ≠ gb253) ∧ (s_.2 ≠ s_.1) ∧ (s_.1 ≠ s_.2) ∧ (w.heap.size ≤ s_.2) ∧ (w.heap.size ≤ s_.2) ∧ (gb252 ≠ s_.2) ∧ (s_.2 ≠ gb252) ∧ (gb253 ≠ s_.2) ∧ (s_.2 ≠ gb253) ∧ (Below w.heap.size w w')) ?_ ?_
    rotate_left
    ·intro hJ3_8_9
     refine join_ (σ := Unit) 4 #[true, true, true, true, true, true, true, true, false, false, false, false] (fun s_ => [(10, .int .i64 t254), (14, .int .i64 t255)]) (fun s_ w' => (w'.cell? ⟨gb253, 0, none⟩ = some (.slice A1_0 l1_0.length c1_0) ∧ w'.cell? ⟨gb253, 1, none⟩ = some (.slice A1_1 l1_1.length c1_1) ∧ w'.cell? ⟨gb252, 0, none⟩ = some (.int .i64 a0_0) ∧ w'.cell? ⟨gb252, 1, none⟩ = some (.int .i64 a0_1)) ∧ (w'.heap[gb252]? = some (.cells #[.int .i64 a0_0, .int .i64 a0_1] 68 (0, 0))) ∧ (w'.heap[gb253]? = some (.cells #[.slice A1_0 l1_0.length c1_0, .slice A1_1 l1_1.length c1_1] 61 (0, 0))) ∧ (Below w.heap.size w w')) ?_ ?_
     rotate_left
     ·intro hJ3_7
      refine join_ (σ := Nat) 4 #[true, true, true, true, true, true, true, false, true, false, false, false] (fun s_ => [(10, .int .i64 t254), (5, .pointer (some ⟨s_, 0, none⟩))]) (fun s_ w' => (w'.cell? ⟨gb253, 0, none⟩ = some (.slice A1_0 l1_0.length c1_0) ∧ w'.cell? ⟨gb253, 1, none⟩ = some (.slice A1_1 l1_1.length c1_1) ∧ w'.cell? ⟨gb252, 0, none⟩ = some (.int .i64 a0_0) ∧ w'.cell? ⟨gb252, 1, none⟩ = some (.int .i64 a0_1)) ∧ (w'.heap[gb252]? = some (.cells #[.int .i64 a0_0, .int .i64 a0_1] 68 (0, 0))) ∧ (w'.heap[gb253]? = some (.cells #[.slice A1_0 l1_0.length c1_0, .slice A1_1 l1_1.length c1_1] 61 (0, 0))) ∧ (w'.heap[s_]? = some (.cells #[.int .i64 0] 3 (0, 0))) ∧ (w.heap.size ≤ s_) ∧ (w.heap.size ≤ s_) ∧ (gb252 ≠ s_) ∧ (s_ ≠ gb252) ∧ (gb253 ≠ s_) ∧ (s_ ≠ gb253) ∧ (Below w.heap.size w w')) ?_ ?_
      rotate_left
      ·intro hJ3_8
       refine join_ (σ := Nat) 4 #[true, true, true, true, true, true, true, false, false, true, false, false] (fun s_ => [(10, .int .i64 t254), (6, .pointer (some ⟨s_, 0, none⟩))]) (fun s_ w' => (w'.cell? ⟨gb253, 0, none⟩ = some (.slice A1_0 l1_0.length c1_0) ∧ w'.cell? ⟨gb253, 1, none⟩ = some (.slice A1_1 l1_1.length c1_1) ∧ w'.cell? ⟨gb252, 0, none⟩ = some (.int .i64 a0_0) ∧ w'.cell? ⟨gb252, 1, none⟩ = some (.int .i64 a0_1)) ∧ (w'.heap[gb252]? = some (.cells #[.int .i64 a0_0, .int .i64 a0_1] 68 (0, 0))) ∧ (w'.heap[gb253]? = some (.cells #[.slice A1_0 l1_0.length c1_0, .slice A1_1 l1_1.length c1_1] 61 (0, 0))) ∧ (w'.heap[s_]? = some (.cells #[.int .i64 0] 3 (0, 0))) ∧ (w.heap.size ≤ s_) ∧ (w.heap.size ≤ s_) ∧ (gb252 ≠ s_) ∧ (s_ ≠ gb252) ∧ (gb253 ≠ s_) ∧ (s_ ≠ gb253) ∧ (Below w.heap.size w w')) ?_ ?_
       rotate_left
       ·intro hJ3_9
        refine join_ (σ := Nat × Nat) 4 #[true, true, true, false, true, true, true, false, true, true, false, false] (fun s_ => [(5, .pointer (some ⟨s_.1, 0, none⟩)), (6, .pointer (some ⟨s_.2, 0, none⟩))]) (fun s_ w' => (w'.cell? ⟨gb253, 0, none⟩ = some (.slice A1_0 l1_0.length c1_0) ∧ w'.cell? ⟨gb253, 1, none⟩ = some (.slice A1_1 l1_1.length c1_1) ∧ w'.cell? ⟨gb252, 0, none⟩ = some (.int .i64 a0_0) ∧ w'.cell? ⟨gb252, 1, none⟩ = some (.int .i64 a0_1)) ∧ (w'.heap[gb252]? = some (.cells #[.int .i64 a0_0, .int .i64 a0_1] 68 (0, 0))) ∧ (w'.heap[gb253]? = some (.cells #[.slice A1_0 l1_0.length c1_0, .slice A1_1 l1_1.length c1_1] 61 (0, 0))) ∧ (w'.heap[s_.1]? = some (.cells #[.int .i64 0] 3 (0, 0))) ∧ (w'.heap[s_.2]? = some (.cells #[.int .i64 0] 3 (0, 0))) ∧ (w.heap.size ≤ s_.1) ∧ (w.heap.size ≤ s_.1) ∧ (gb252 ≠ s_.1) ∧ (s_.1 ≠ gb252) ∧ (gb253 ≠ s_.1) ∧ (s_.1 ≠ gb253) ∧ (s_.2 ≠ s_.1) ∧ (s_.1 ≠ s_.2) ∧ (w.heap.size ≤ s_.2) ∧ (w.heap.size ≤ s_.2) ∧ (gb252 ≠ s_.2) ∧ (s_.2 ≠ gb252) ∧ (gb253 ≠ s_.2) ∧ (s_.2 ≠ gb253) ∧ (Below w.heap.size w w')) ?_ ?_
        rotate_left
        ·intro hJ8_9
         refine join_ (σ := Unit) 5 #[true, true, true, true, true, true, true, false, false, false, false, false] (fun s_ => [(10, .int .i64 t254)]) (fun s_ w' => (w'.cell? ⟨gb253, 0, none⟩ = some (.slice A1_0 l1_0.length c1_0) ∧ w'.cell? ⟨gb253, 1, none⟩ = some (.slice A1_1 l1_1.length c1_1) ∧ w'.cell? ⟨gb252, 0, none⟩ = some (.int .i64 a0_0) ∧ w'.cell? ⟨gb252, 1, none⟩ = some (.int .i64 a0_1)) ∧ (w'.heap[gb252]? = some (.cells #[.int .i64 a0_0, .int .i64 a0_1] 68 (0, 0))) ∧ (w'.heap[gb253]? = some (.cells #[.slice A1_0 l1_0.length c1_0, .slice A1_1 l1_1.length c1_1] 61 (0, 0))) ∧ (Below w.heap.size w w')) ?_ ?_
         rotate_left
         ·intro hJ3
          refine join_ (σ := Nat) 5 #[true, true, true, false, true, true, true, false, true, false, false, false] (fun s_ => [(5, .pointer (some ⟨s_, 0, none⟩))]) (fun s_ w' => (w'.cell? ⟨gb253, 0, none⟩ = some (.slice A1_0 l1_0.length c1_0) ∧ w'.cell? ⟨gb253, 1, none⟩ = some (.slice A1_1 l1_1.length c1_1) ∧ w'.cell? ⟨gb252, 0, none⟩ = some (.int .i64 a0_0) ∧ w'.cell? ⟨gb252, 1, none⟩ = some (.int .i64 a0_1)) ∧ (w'.heap[gb252]? = some (.cells #[.int .i64 a0_0, .int .i64 a0_1] 68 (0, 0))) ∧ (w'.heap[gb253]? = some (.cells #[.slice A1_0 l1_0.length c1_0, .slice A1_1 l1_1.length c1_1] 61 (0, 0))) ∧ (w'.heap[s_]? = some (.cells #[.int .i64 0] 3 (0, 0))) ∧ (w.heap.size ≤ s_) ∧ (w.heap.size ≤ s_) ∧ (gb252 ≠ s_) ∧ (s_ ≠ gb252) ∧ (gb253 ≠ s_) ∧ (s_ ≠ gb253) ∧ (Below w.heap.size w w')) ?_ ?_
          rotate_left
          ·intro hJ8
           refine join_ (σ := Nat) 5 #[true, true, true, false, true, true, true, false, false, true, false, false] (fun s_ => [(6, .pointer (some ⟨s_, 0, none⟩))]) (fun s_ w' => (w'.cell? ⟨gb253, 0, none⟩ = some (.slice A1_0 l1_0.length c1_0) ∧ w'.cell? ⟨gb253, 1, none⟩ = some (.slice A1_1 l1_1.length c1_1) ∧ w'.cell? ⟨gb252, 0, none⟩ = some (.int .i64 a0_0) ∧ w'.cell? ⟨gb252, 1, none⟩ = some (.int .i64 a0_1)) ∧ (w'.heap[gb252]? = some (.cells #[.int .i64 a0_0, .int .i64 a0_1] 68 (0, 0))) ∧ (w'.heap[gb253]? = some (.cells #[.slice A1_0 l1_0.length c1_0, .slice A1_1 l1_1.length c1_1] 61 (0, 0))) ∧ (w'.heap[s_]? = some (.cells #[.int .i64 0] 3 (0, 0))) ∧ (w.heap.size ≤ s_) ∧ (w.heap.size ≤ s_) ∧ (gb252 ≠ s_) ∧ (s_ ≠ gb252) ∧ (gb253 ≠ s_) ∧ (s_ ≠ gb253) ∧ (Below w.heap.size w w')) ?_ ?_
           rotate_left
           ·intro hJ9
            refine three_ (i := 3) (j := 8) (k := 9) (Ni := some 10) (Nj := some 5) (Nk := some 6) #[true, true, true, true, true, true, true, false, false, false, false, false] #[true, true, true, false, true, true, true, false, true, false, false, false] #[true, true, true, false, true, true, true, false, false, true, false, false] rfl rfl rfl rfl rfl rfl (three_of HT_.out zK) (by decide) (by decide) (by decide) (fun K hK => ?_) (fun K hK => ?_) (fun K hK => ?_)
            ·skip
             refine goes_ Try.func58 zK rfl #[.agg #[.slice A1_0 l1_0.length c1_0, .slice A1_1 l1_1.length c1_1], .int .i64 a0_0] (by rfl) rfl rfl zM ?_
             with_reducible refine (solve_row.calls k _ _ l1_0 _ _ l1_1 a0_0 t254 _ ?side1 ?side2 ?side3 ?side4 A3.out).mono ?_
             (case side1 => repeat (first | exact (Kd.C_below HR1_0.out HB.out) | (with_reducible refine Kd.C_alloc ?_ _) | (with_reducible refine Kd.C_drewN ?_ _) | (with_reducible refine Kd.C_drew ?_)))
             (case side2 => exact HC1_0.out)
             (case side3 => repeat (first | exact (Kd.C_below HR1_1.out HB.out) | (with_reducible refine Kd.C_alloc ?_ _) | (with_reducible refine Kd.C_drewN ?_ _) | (with_reducible refine Kd.C_drew ?_)))
             (case side4 => exact HC1_1.out)
             rintro e w9 ⟨rfl, hb⟩
             refine ⟨_, rfl, ?_⟩
             have n0_ := Aside0.mk (blk_below (g := gb252) (o := .cells #[.int .i64 a0_0, .int .i64 a0_1] 68 (0, 0)) (zk BK252) hb)
             have n1_ := Aside0.mk (blk_below (g := gb253) (o := .cells #[.slice A1_0 l1_0.length c1_0, .slice A1_1 l1_1.length c1_1] 61 (0, 0)) (zk BK253) hb)
             have n2_ := Aside0.mk (below_step zB hb)
             clear BK252
             clear BK253
             clear HB
             have BK252 := n0_
             have BK253 := n1_
             have HB := n2_
             clear n0_ n1_ n2_
             (try clear hb)
             (try clear hb2)
             (try clear hk)
             (try clear hi)
             refine hK.out _ _ ⟨(blk_cell BK253.out 0).trans rfl, (blk_cell BK253.out 1).trans rfl, (blk_cell BK252.out 0).trans rfl, (blk_cell BK252.out 1).trans rfl⟩ (fun hHeld => ?_)
             clear hK K
             refine norm_ (a' := ?_) ?_ ?_
             rotate_left
             ·show Act.put _ (some 10) _ = _
              simp only [Act.put, List.setIfInBounds_toArray, List.set_cons_zero, List.set_cons_succ, i64_w, i32_w]
              rfl
             exact norm_ (by first | (simp only [putAll, Act.put, List.setIfInBounds_toArray, List.set_cons_zero, List.set_cons_succ]; done) | (simp only [putAll, Act.put, List.setIfInBounds_toArray, List.set_cons_zero, List.set_cons_succ]; rfl)) (hJ3 () _ ⟨hHeld, (zk BK252), (zk BK253), zB⟩)
            ·skip
             refine box_step ?hg (N := 5) ?hd (cs := #[.int .i64 0]) (t := 3) ?hr ?_; (case hd => rfl); (case hg => rfl); (case hr => first | (go_simp; done) | (go_simp; rfl))
             intro gb256 hg w9 hbox hb
             have n0_ := Aside0.mk (blk_below (g := gb252) (o := .cells #[.int .i64 a0_0, .int .i64 a0_1] 68 (0, 0)) (zk BK252) hb)
             have n1_ := Aside0.mk (blk_below (g := gb253) (o := .cells #[.slice A1_0 l1_0.length c1_0, .slice A1_1 l1_1.length c1_1] 61 (0, 0)) (zk BK253) hb)
             have n2_ := Aside0.mk (below_step zB hb)
             have n3_ := Aside0.mk (hbox)
             have n4_ := Aside0.mk ((by rw [hg]; exact (below_size zB) : w.heap.size ≤ gb256))
             have n5_ := Aside0.mk ((by rw [hg]; exact (below_size zB) : w.heap.size ≤ gb256))
             have n6_ := Aside0.mk ((by rw [hg]; exact Nat.ne_of_lt (blk_lt (g := gb252) (o := .cells #[.int .i64 a0_0, .int .i64 a0_1] 68 (0, 0)) (zk BK252)) : gb252 ≠ gb256))
             have n7_ := Aside0.mk ((by rw [hg]; exact Nat.ne_of_gt (blk_lt (g := gb252) (o := .cells #[.int .i64 a0_0, .int .i64 a0_1] 68 (0, 0)) (zk BK252)) : gb256 ≠ gb252))
             have n8_ := Aside0.mk ((by rw [hg]; exact Nat.ne_of_lt (blk_lt (g := gb253) (o := .cells #[.slice A1_0 l1_0.length c1_0, .slice A1_1 l1_1.length c1_1] 61 (0, 0)) (zk BK253)) : gb253 ≠ gb256))
             have n9_ := Aside0.mk ((by rw [hg]; exact Nat.ne_of_gt (blk_lt (g := gb253) (o := .cells #[.slice A1_0 l1_0.length c1_0, .slice A1_1 l1_1.length c1_1] 61 (0, 0)) (zk BK253)) : gb256 ≠ gb253))
             clear BK252
             clear BK253
             clear HB
             have BK252 := n0_
             have BK253 := n1_
             have HB := n2_
             have BK256 := n3_
             have GW256 := n4_
             have GE256 := n5_
             have NB252_256 := n6_
             have NB256_252 := n7_
             have NB253_256 := n8_
             have NB256_253 := n9_
             clear n0_ n1_ n2_ n3_ n4_ n5_ n6_ n7_ n8_ n9_
             clear hb hbox hg
             refine hK.out _ _ ⟨(blk_cell BK253.out 0).trans rfl, (blk_cell BK253.out 1).trans rfl, (blk_cell BK252.out 0).trans rfl, (blk_cell BK252.out 1).trans rfl⟩ (fun hHeld => ?_)
             clear hK K
             refine norm_ (a' := ?_) ?_ ?_
             rotate_left
             ·show Act.put _ (some 5) _ = _
              simp only [Act.put, List.setIfInBounds_toArray, List.set_cons_zero, List.set_cons_succ, i64_w, i32_w]
              rfl
             exact norm_ (by first | (simp only [putAll, Act.put, List.setIfInBounds_toArray, List.set_cons_zero, List.set_cons_succ]; done) | (simp only [putAll, Act.put, List.setIfInBounds_toArray, List.set_cons_zero, List.set_cons_succ]; rfl)) (hJ8 (gb256) _ ⟨hHeld, (zk BK252), (zk BK253), (zk BK256), GW256.out, GE256.out, NB252_256.out, NB256_252.out, NB253_256.out, NB256_253.out, zB⟩)
            ·skip
             refine box_step ?hg (N := 6) ?hd (cs := #[.int .i64 0]) (t := 3) ?hr ?_; (case hd => rfl); (case hg => rfl); (case hr => first | (go_simp; done) | (go_simp; rfl))
             intro gb257 hg w9 hbox hb
             have n0_ := Aside0.mk (blk_below (g := gb252) (o := .cells #[.int .i64 a0_0, .int .i64 a0_1] 68 (0, 0)) (zk BK252) hb)
             have n1_ := Aside0.mk (blk_below (g := gb253) (o := .cells #[.slice A1_0 l1_0.length c1_0, .slice A1_1 l1_1.length c1_1] 61 (0, 0)) (zk BK253) hb)
             have n2_ := Aside0.mk (below_step zB hb)
             have n3_ := Aside0.mk (hbox)
             have n4_ := Aside0.mk ((by rw [hg]; exact (below_size zB) : w.heap.size ≤ gb257))
             have n5_ := Aside0.mk ((by rw [hg]; exact (below_size zB) : w.heap.size ≤ gb257))
             have n6_ := Aside0.mk ((by rw [hg]; exact Nat.ne_of_lt (blk_lt (g := gb252) (o := .cells #[.int .i64 a0_0, .int .i64 a0_1] 68 (0, 0)) (zk BK252)) : gb252 ≠ gb257))
             have n7_ := Aside0.mk ((by rw [hg]; exact Nat.ne_of_gt (blk_lt (g := gb252) (o := .cells #[.int .i64 a0_0, .int .i64 a0_1] 68 (0, 0)) (zk BK252)) : gb257 ≠ gb252))
             have n8_ := Aside0.mk ((by rw [hg]; exact Nat.ne_of_lt (blk_lt (g := gb253) (o := .cells #[.slice A1_0 l1_0.length c1_0, .slice A1_1 l1_1.length c1_1] 61 (0, 0)) (zk BK253)) : gb253 ≠ gb257))
             have n9_ := Aside0.mk ((by rw [hg]; exact Nat.ne_of_gt (blk_lt (g := gb253) (o := .cells #[.slice A1_0 l1_0.length c1_0, .slice A1_1 l1_1.length c1_1] 61 (0, 0)) (zk BK253)) : gb257 ≠ gb253))
             clear BK252
             clear BK253
             clear HB
             have BK252 := n0_
             have BK253 := n1_
             have HB := n2_
             have BK257 := n3_
             have GW257 := n4_
             have GE257 := n5_
             have NB252_257 := n6_
             have NB257_252 := n7_
             have NB253_257 := n8_
             have NB257_253 := n9_
             clear n0_ n1_ n2_ n3_ n4_ n5_ n6_ n7_ n8_ n9_
             clear hb hbox hg
             refine hK.out _ _ ⟨(blk_cell BK253.out 0).trans rfl, (blk_cell BK253.out 1).trans rfl, (blk_cell BK252.out 0).trans rfl, (blk_cell BK252.out 1).trans rfl⟩ (fun hHeld => ?_)
             clear hK K
             refine norm_ (a' := ?_) ?_ ?_
             rotate_left
             ·show Act.put _ (some 6) _ = _
              simp only [Act.put, List.setIfInBounds_toArray, List.set_cons_zero, List.set_cons_succ, i64_w, i32_w]
              rfl
             exact norm_ (by first | (simp only [putAll, Act.put, List.setIfInBounds_toArray, List.set_cons_zero, List.set_cons_succ]; done) | (simp only [putAll, Act.put, List.setIfInBounds_toArray, List.set_cons_zero, List.set_cons_succ]; rfl)) (hJ9 (gb257) _ ⟨hHeld, (zk BK252), (zk BK253), (zk BK257), GW257.out, GE257.out, NB252_257.out, NB257_252.out, NB253_257.out, NB257_253.out, zB⟩)
           ·skip
            rintro gb257 w10 ⟨hS_, h0_, h1_, h2_, h3_, h4_, h5_, h6_, h7_, h8_, h9_⟩
            have n0_ : Aside0 (w10.heap[gb252]? = some (.cells #[.int .i64 a0_0, .int .i64 a0_1] 68 (0, 0))) := ⟨h0_⟩
            have n1_ : Aside0 (w10.heap[gb253]? = some (.cells #[.slice A1_0 l1_0.length c1_0, .slice A1_1 l1_1.length c1_1] 61 (0, 0))) := ⟨h1_⟩
            have n2_ : Aside0 (w10.heap[gb257]? = some (.cells #[.int .i64 0] 3 (0, 0))) := ⟨h2_⟩
            have n3_ : Aside0 (w.heap.size ≤ gb257) := ⟨h3_⟩
            have n4_ : Aside0 (w.heap.size ≤ gb257) := ⟨h4_⟩
            have n5_ : Aside0 (gb252 ≠ gb257) := ⟨h5_⟩
            have n6_ : Aside0 (gb257 ≠ gb252) := ⟨h6_⟩
            have n7_ : Aside0 (gb253 ≠ gb257) := ⟨h7_⟩
            have n8_ : Aside0 (gb257 ≠ gb253) := ⟨h8_⟩
            have n9_ : Aside0 (Below w.heap.size w w10) := ⟨h9_⟩
            clear BK252
            clear BK253
            clear HB
            clear h0_ h1_ h2_ h3_ h4_ h5_ h6_ h7_ h8_ h9_
            have BK252 := n0_
            have BK253 := n1_
            have BK257 := n2_
            have GW257 := n3_
            have GE257 := n4_
            have NB252_257 := n5_
            have NB257_252 := n6_
            have NB253_257 := n7_
            have NB257_253 := n8_
            have HB := n9_
            clear n0_ n1_ n2_ n3_ n4_ n5_ n6_ n7_ n8_ n9_
            have hHeld : w10.cell? ⟨gb253, 0, none⟩ = some (.slice A1_0 l1_0.length c1_0) ∧ w10.cell? ⟨gb253, 1, none⟩ = some (.slice A1_1 l1_1.length c1_1) ∧ w10.cell? ⟨gb252, 0, none⟩ = some (.int .i64 a0_0) ∧ w10.cell? ⟨gb252, 1, none⟩ = some (.int .i64 a0_1) := hS_
            refine norm_ (a' := ?_) ?_ ?_
            rotate_left
            ·simp only [putAll, Act.put, List.setIfInBounds_toArray, List.set_cons_zero, List.set_cons_succ]
             rfl
            refine two_ (i := 3) (j := 8) (Ni := some 10) (Nj := some 5) #[true, true, true, true, true, true, true, false, false, true, false, false] #[true, true, true, false, true, true, true, false, true, true, false, false] rfl rfl rfl rfl (two_of HT_.out zK) (by decide) (by decide) (fun K hK => ?_) (fun K hK => ?_)
            ·skip
             refine goes_ Try.func58 zK rfl #[.agg #[.slice A1_0 l1_0.length c1_0, .slice A1_1 l1_1.length c1_1], .int .i64 a0_0] (by rfl) rfl rfl zM ?_
             with_reducible refine (solve_row.calls k _ _ l1_0 _ _ l1_1 a0_0 t254 _ ?side1 ?side2 ?side3 ?side4 A3.out).mono ?_
             (case side1 => repeat (first | exact (Kd.C_below HR1_0.out HB.out) | (with_reducible refine Kd.C_alloc ?_ _) | (with_reducible refine Kd.C_drewN ?_ _) | (with_reducible refine Kd.C_drew ?_)))
             (case side2 => exact HC1_0.out)
             (case side3 => repeat (first | exact (Kd.C_below HR1_1.out HB.out) | (with_reducible refine Kd.C_alloc ?_ _) | (with_reducible refine Kd.C_drewN ?_ _) | (with_reducible refine Kd.C_drew ?_)))
             (case side4 => exact HC1_1.out)
             rintro e w11 ⟨rfl, hb⟩
             refine ⟨_, rfl, ?_⟩
             have n0_ := Aside0.mk (blk_below (g := gb252) (o := .cells #[.int .i64 a0_0, .int .i64 a0_1] 68 (0, 0)) (zk BK252) hb)
             have n1_ := Aside0.mk (blk_below (g := gb253) (o := .cells #[.slice A1_0 l1_0.length c1_0, .slice A1_1 l1_1.length c1_1] 61 (0, 0)) (zk BK253) hb)
             have n2_ := Aside0.mk (blk_below (g := gb257) (o := .cells #[.int .i64 0] 3 (0, 0)) (zk BK257) hb)
             have n3_ := Aside0.mk (below_step zB hb)
             clear BK252
             clear BK253
             clear BK257
             clear HB
             have BK252 := n0_
             have BK253 := n1_
             have BK257 := n2_
             have HB := n3_
             clear n0_ n1_ n2_ n3_
             (try clear hb)
             (try clear hb2)
             (try clear hk)
             (try clear hi)
             refine hK.out _ _ ⟨(blk_cell BK253.out 0).trans rfl, (blk_cell BK253.out 1).trans rfl, (blk_cell BK252.out 0).trans rfl, (blk_cell BK252.out 1).trans rfl⟩ (fun hHeld => ?_)
             clear hK K
             refine norm_ (a' := ?_) ?_ ?_
             rotate_left
             ·show Act.put _ (some 10) _ = _
              simp only [Act.put, List.setIfInBounds_toArray, List.set_cons_zero, List.set_cons_succ, i64_w, i32_w]
              rfl
             exact norm_ (by first | (simp only [putAll, Act.put, List.setIfInBounds_toArray, List.set_cons_zero, List.set_cons_succ]; done) | (simp only [putAll, Act.put, List.setIfInBounds_toArray, List.set_cons_zero, List.set_cons_succ]; rfl)) (hJ3_9 (gb257) _ ⟨hHeld, (zk BK252), (zk BK253), (zk BK257), GW257.out, GE257.out, NB252_257.out, NB257_252.out, NB253_257.out, NB257_253.out, zB⟩)
            ·skip
             refine box_step ?hg (N := 5) ?hd (cs := #[.int .i64 0]) (t := 3) ?hr ?_; (case hd => rfl); (case hg => rfl); (case hr => first | (go_simp; done) | (go_simp; rfl))
             intro gb256 hg w11 hbox hb
             have n0_ := Aside0.mk (blk_below (g := gb252) (o := .cells #[.int .i64 a0_0, .int .i64 a0_1] 68 (0, 0)) (zk BK252) hb)
             have n1_ := Aside0.mk (blk_below (g := gb253) (o := .cells #[.slice A1_0 l1_0.length c1_0, .slice A1_1 l1_1.length c1_1] 61 (0, 0)) (zk BK253) hb)
             have n2_ := Aside0.mk (blk_below (g := gb257) (o := .cells #[.int .i64 0] 3 (0, 0)) (zk BK257) hb)
             have n3_ := Aside0.mk (below_step zB hb)
             have n4_ := Aside0.mk (hbox)
             have n5_ := Aside0.mk ((by rw [hg]; exact (below_size zB) : w.heap.size ≤ gb256))
             have n6_ := Aside0.mk ((by rw [hg]; exact (below_size zB) : w.heap.size ≤ gb256))
             have n7_ := Aside0.mk ((by rw [hg]; exact Nat.ne_of_lt (blk_lt (g := gb252) (o := .cells #[.int .i64 a0_0, .int .i64 a0_1] 68 (0, 0)) (zk BK252)) : gb252 ≠ gb256))
             have n8_ := Aside0.mk ((by rw [hg]; exact Nat.ne_of_gt (blk_lt (g := gb252) (o := .cells #[.int .i64 a0_0, .int .i64 a0_1] 68 (0, 0)) (zk BK252)) : gb256 ≠ gb252))
             have n9_ := Aside0.mk ((by rw [hg]; exact Nat.ne_of_lt (blk_lt (g := gb253) (o := .cells #[.slice A1_0 l1_0.length c1_0, .slice A1_1 l1_1.length c1_1] 61 (0, 0)) (zk BK253)) : gb253 ≠ gb256))
             have n10_ := Aside0.mk ((by rw [hg]; exact Nat.ne_of_gt (blk_lt (g := gb253) (o := .cells #[.slice A1_0 l1_0.length c1_0, .slice A1_1 l1_1.length c1_1] 61 (0, 0)) (zk BK253)) : gb256 ≠ gb253))
             have n11_ := Aside0.mk ((by rw [hg]; exact Nat.ne_of_lt (blk_lt (g := gb257) (o := .cells #[.int .i64 0] 3 (0, 0)) (zk BK257)) : gb257 ≠ gb256))
             have n12_ := Aside0.mk ((by rw [hg]; exact Nat.ne_of_gt (blk_lt (g := gb257) (o := .cells #[.int .i64 0] 3 (0, 0)) (zk BK257)) : gb256 ≠ gb257))
             clear BK252
             clear BK253
             clear BK257
             clear HB
             have BK252 := n0_
             have BK253 := n1_
             have BK257 := n2_
             have HB := n3_
             have BK256 := n4_
             have GW256 := n5_
             have GE256 := n6_
             have NB252_256 := n7_
             have NB256_252 := n8_
             have NB253_256 := n9_
             have NB256_253 := n10_
             have NB257_256 := n11_
             have NB256_257 := n12_
             clear n0_ n1_ n2_ n3_ n4_ n5_ n6_ n7_ n8_ n9_ n10_ n11_ n12_
             clear hb hbox hg
             refine hK.out _ _ ⟨(blk_cell BK253.out 0).trans rfl, (blk_cell BK253.out 1).trans rfl, (blk_cell BK252.out 0).trans rfl, (blk_cell BK252.out 1).trans rfl⟩ (fun hHeld => ?_)
             clear hK K
             refine norm_ (a' := ?_) ?_ ?_
             rotate_left
             ·show Act.put _ (some 5) _ = _
              simp only [Act.put, List.setIfInBounds_toArray, List.set_cons_zero, List.set_cons_succ, i64_w, i32_w]
              rfl
             exact norm_ (by first | (simp only [putAll, Act.put, List.setIfInBounds_toArray, List.set_cons_zero, List.set_cons_succ]; done) | (simp only [putAll, Act.put, List.setIfInBounds_toArray, List.set_cons_zero, List.set_cons_succ]; rfl)) (hJ8_9 (gb256, gb257) _ ⟨hHeld, (zk BK252), (zk BK253), (zk BK256), (zk BK257), GW256.out, GE256.out, NB252_256.out, NB256_252.out, NB253_256.out, NB256_253.out, NB257_256.out, NB256_257.out, GW257.out, GE257.out, NB252_257.out, NB257_252.out, NB253_257.out, NB257_253.out, zB⟩)
          ·skip
           rintro gb256 w10 ⟨hS_, h0_, h1_, h2_, h3_, h4_, h5_, h6_, h7_, h8_, h9_⟩
           have n0_ : Aside0 (w10.heap[gb252]? = some (.cells #[.int .i64 a0_0, .int .i64 a0_1] 68 (0, 0))) := ⟨h0_⟩
           have n1_ : Aside0 (w10.heap[gb253]? = some (.cells #[.slice A1_0 l1_0.length c1_0, .slice A1_1 l1_1.length c1_1] 61 (0, 0))) := ⟨h1_⟩
           have n2_ : Aside0 (w10.heap[gb256]? = some (.cells #[.int .i64 0] 3 (0, 0))) := ⟨h2_⟩
           have n3_ : Aside0 (w.heap.size ≤ gb256) := ⟨h3_⟩
           have n4_ : Aside0 (w.heap.size ≤ gb256) := ⟨h4_⟩
           have n5_ : Aside0 (gb252 ≠ gb256) := ⟨h5_⟩
           have n6_ : Aside0 (gb256 ≠ gb252) := ⟨h6_⟩
           have n7_ : Aside0 (gb253 ≠ gb256) := ⟨h7_⟩
           have n8_ : Aside0 (gb256 ≠ gb253) := ⟨h8_⟩
           have n9_ : Aside0 (Below w.heap.size w w10) := ⟨h9_⟩
           clear BK252
           clear BK253
           clear HB
           clear h0_ h1_ h2_ h3_ h4_ h5_ h6_ h7_ h8_ h9_
           have BK252 := n0_
           have BK253 := n1_
           have BK256 := n2_
           have GW256 := n3_
           have GE256 := n4_
           have NB252_256 := n5_
           have NB256_252 := n6_
           have NB253_256 := n7_
           have NB256_253 := n8_
           have HB := n9_
           clear n0_ n1_ n2_ n3_ n4_ n5_ n6_ n7_ n8_ n9_
           have hHeld : w10.cell? ⟨gb253, 0, none⟩ = some (.slice A1_0 l1_0.length c1_0) ∧ w10.cell? ⟨gb253, 1, none⟩ = some (.slice A1_1 l1_1.length c1_1) ∧ w10.cell? ⟨gb252, 0, none⟩ = some (.int .i64 a0_0) ∧ w10.cell? ⟨gb252, 1, none⟩ = some (.int .i64 a0_1) := hS_
           refine norm_ (a' := ?_) ?_ ?_
           rotate_left
           ·simp only [putAll, Act.put, List.setIfInBounds_toArray, List.set_cons_zero, List.set_cons_succ]
            rfl
           refine two_ (i := 3) (j := 9) (Ni := some 10) (Nj := some 6) #[true, true, true, true, true, true, true, false, true, false, false, false] #[true, true, true, false, true, true, true, false, true, true, false, false] rfl rfl rfl rfl (two_of HT_.out zK) (by decide) (by decide) (fun K hK => ?_) (fun K hK => ?_)
           ·skip
            refine goes_ Try.func58 zK rfl #[.agg #[.slice A1_0 l1_0.length c1_0, .slice A1_1 l1_1.length c1_1], .int .i64 a0_0] (by rfl) rfl rfl zM ?_
            with_reducible refine (solve_row.calls k _ _ l1_0 _ _ l1_1 a0_0 t254 _ ?side1 ?side2 ?side3 ?side4 A3.out).mono ?_
            (case side1 => repeat (first | exact (Kd.C_below HR1_0.out HB.out) | (with_reducible refine Kd.C_alloc ?_ _) | (with_reducible refine Kd.C_drewN ?_ _) | (with_reducible refine Kd.C_drew ?_)))
            (case side2 => exact HC1_0.out)
            (case side3 => repeat (first | exact (Kd.C_below HR1_1.out HB.out) | (with_reducible refine Kd.C_alloc ?_ _) | (with_reducible refine Kd.C_drewN ?_ _) | (with_reducible refine Kd.C_drew ?_)))
            (case side4 => exact HC1_1.out)
            rintro e w11 ⟨rfl, hb⟩
            refine ⟨_, rfl, ?_⟩
            have n0_ := Aside0.mk (blk_below (g := gb252) (o := .cells #[.int .i64 a0_0, .int .i64 a0_1] 68 (0, 0)) (zk BK252) hb)
            have n1_ := Aside0.mk (blk_below (g := gb253) (o := .cells #[.slice A1_0 l1_0.length c1_0, .slice A1_1 l1_1.length c1_1] 61 (0, 0)) (zk BK253) hb)
            have n2_ := Aside0.mk (blk_below (g := gb256) (o := .cells #[.int .i64 0] 3 (0, 0)) (zk BK256) hb)
            have n3_ := Aside0.mk (below_step zB hb)
            clear BK252
            clear BK253
            clear BK256
            clear HB
            have BK252 := n0_
            have BK253 := n1_
            have BK256 := n2_
            have HB := n3_
            clear n0_ n1_ n2_ n3_
            (try clear hb)
            (try clear hb2)
            (try clear hk)
            (try clear hi)
            refine hK.out _ _ ⟨(blk_cell BK253.out 0).trans rfl, (blk_cell BK253.out 1).trans rfl, (blk_cell BK252.out 0).trans rfl, (blk_cell BK252.out 1).trans rfl⟩ (fun hHeld => ?_)
            clear hK K
            refine norm_ (a' := ?_) ?_ ?_
            rotate_left
            ·show Act.put _ (some 10) _ = _
             simp only [Act.put, List.setIfInBounds_toArray, List.set_cons_zero, List.set_cons_succ, i64_w, i32_w]
             rfl
            exact norm_ (by first | (simp only [putAll, Act.put, List.setIfInBounds_toArray, List.set_cons_zero, List.set_cons_succ]; done) | (simp only [putAll, Act.put, List.setIfInBounds_toArray, List.set_cons_zero, List.set_cons_succ]; rfl)) (hJ3_8 (gb256) _ ⟨hHeld, (zk BK252), (zk BK253), (zk BK256), GW256.out, GE256.out, NB252_256.out, NB256_252.out, NB253_256.out, NB256_253.out, zB⟩)
           ·skip
            refine box_step ?hg (N := 6) ?hd (cs := #[.int .i64 0]) (t := 3) ?hr ?_; (case hd => rfl); (case hg => rfl); (case hr => first | (go_simp; done) | (go_simp; rfl))
            intro gb257 hg w11 hbox hb
            have n0_ := Aside0.mk (blk_below (g := gb252) (o := .cells #[.int .i64 a0_0, .int .i64 a0_1] 68 (0, 0)) (zk BK252) hb)
            have n1_ := Aside0.mk (blk_below (g := gb253) (o := .cells #[.slice A1_0 l1_0.length c1_0, .slice A1_1 l1_1.length c1_1] 61 (0, 0)) (zk BK253) hb)
            have n2_ := Aside0.mk (blk_below (g := gb256) (o := .cells #[.int .i64 0] 3 (0, 0)) (zk BK256) hb)
            have n3_ := Aside0.mk (below_step zB hb)
            have n4_ := Aside0.mk (hbox)
            have n5_ := Aside0.mk ((by rw [hg]; exact (below_size zB) : w.heap.size ≤ gb257))
            have n6_ := Aside0.mk ((by rw [hg]; exact (below_size zB) : w.heap.size ≤ gb257))
            have n7_ := Aside0.mk ((by rw [hg]; exact Nat.ne_of_lt (blk_lt (g := gb252) (o := .cells #[.int .i64 a0_0, .int .i64 a0_1] 68 (0, 0)) (zk BK252)) : gb252 ≠ gb257))
            have n8_ := Aside0.mk ((by rw [hg]; exact Nat.ne_of_gt (blk_lt (g := gb252) (o := .cells #[.int .i64 a0_0, .int .i64 a0_1] 68 (0, 0)) (zk BK252)) : gb257 ≠ gb252))
            have n9_ := Aside0.mk ((by rw [hg]; exact Nat.ne_of_lt (blk_lt (g := gb253) (o := .cells #[.slice A1_0 l1_0.length c1_0, .slice A1_1 l1_1.length c1_1] 61 (0, 0)) (zk BK253)) : gb253 ≠ gb257))
            have n10_ := Aside0.mk ((by rw [hg]; exact Nat.ne_of_gt (blk_lt (g := gb253) (o := .cells #[.slice A1_0 l1_0.length c1_0, .slice A1_1 l1_1.length c1_1] 61 (0, 0)) (zk BK253)) : gb257 ≠ gb253))
            have n11_ := Aside0.mk ((by rw [hg]; exact Nat.ne_of_lt (blk_lt (g := gb256) (o := .cells #[.int .i64 0] 3 (0, 0)) (zk BK256)) : gb256 ≠ gb257))
            have n12_ := Aside0.mk ((by rw [hg]; exact Nat.ne_of_gt (blk_lt (g := gb256) (o := .cells #[.int .i64 0] 3 (0, 0)) (zk BK256)) : gb257 ≠ gb256))
            clear BK252
            clear BK253
            clear BK256
            clear HB
            have BK252 := n0_
            have BK253 := n1_
            have BK256 := n2_
            have HB := n3_
            have BK257 := n4_
            have GW257 := n5_
            have GE257 := n6_
            have NB252_257 := n7_
            have NB257_252 := n8_
            have NB253_257 := n9_
            have NB257_253 := n10_
            have NB256_257 := n11_
            have NB257_256 := n12_
            clear n0_ n1_ n2_ n3_ n4_ n5_ n6_ n7_ n8_ n9_ n10_ n11_ n12_
            clear hb hbox hg
            refine hK.out _ _ ⟨(blk_cell BK253.out 0).trans rfl, (blk_cell BK253.out 1).trans rfl, (blk_cell BK252.out 0).trans rfl, (blk_cell BK252.out 1).trans rfl⟩ (fun hHeld => ?_)
            clear hK K
            refine norm_ (a' := ?_) ?_ ?_
            rotate_left
            ·show Act.put _ (some 6) _ = _
             simp only [Act.put, List.setIfInBounds_toArray, List.set_cons_zero, List.set_cons_succ, i64_w, i32_w]
             rfl
            exact norm_ (by first | (simp only [putAll, Act.put, List.setIfInBounds_toArray, List.set_cons_zero, List.set_cons_succ]; done) | (simp only [putAll, Act.put, List.setIfInBounds_toArray, List.set_cons_zero, List.set_cons_succ]; rfl)) (hJ8_9 (gb256, gb257) _ ⟨hHeld, (zk BK252), (zk BK253), (zk BK256), (zk BK257), GW256.out, GE256.out, NB252_256.out, NB256_252.out, NB253_256.out, NB256_253.out, NB257_256.out, NB256_257.out, GW257.out, GE257.out, NB252_257.out, NB257_252.out, NB253_257.out, NB257_253.out, zB⟩)
         ·skip
          rintro _ w10 ⟨hS_, h0_, h1_, h2_⟩
          have n0_ : Aside0 (w10.heap[gb252]? = some (.cells #[.int .i64 a0_0, .int .i64 a0_1] 68 (0, 0))) := ⟨h0_⟩
          have n1_ : Aside0 (w10.heap[gb253]? = some (.cells #[.slice A1_0 l1_0.length c1_0, .slice A1_1 l1_1.length c1_1] 61 (0, 0))) := ⟨h1_⟩
          have n2_ : Aside0 (Below w.heap.size w w10) := ⟨h2_⟩
          clear BK252
          clear BK253
          clear HB
          clear h0_ h1_ h2_
          have BK252 := n0_
          have BK253 := n1_
          have HB := n2_
          clear n0_ n1_ n2_
          have hHeld : w10.cell? ⟨gb253, 0, none⟩ = some (.slice A1_0 l1_0.length c1_0) ∧ w10.cell? ⟨gb253, 1, none⟩ = some (.slice A1_1 l1_1.length c1_1) ∧ w10.cell? ⟨gb252, 0, none⟩ = some (.int .i64 a0_0) ∧ w10.cell? ⟨gb252, 1, none⟩ = some (.int .i64 a0_1) := hS_
          refine norm_ (a' := ?_) ?_ ?_
          rotate_left
          ·simp only [putAll, Act.put, List.setIfInBounds_toArray, List.set_cons_zero, List.set_cons_succ]
           rfl
          refine three_ (i := 7) (j := 8) (k := 9) (Ni := some 14) (Nj := some 5) (Nk := some 6) #[true, true, true, true, true, true, true, true, false, false, false, false] #[true, true, true, true, true, true, true, false, true, false, false, false] #[true, true, true, true, true, true, true, false, false, true, false, false] rfl rfl rfl rfl rfl rfl (three_of HT_.out zK) (by decide) (by decide) (by decide) (fun K hK => ?_) (fun K hK => ?_) (fun K hK => ?_)
          ·skip
           refine goes_ Try.func58 zK rfl #[.agg #[.slice A1_0 l1_0.length c1_0, .slice A1_1 l1_1.length c1_1], .int .i64 a0_1] (by rfl) rfl rfl zM ?_
           with_reducible refine (solve_row.calls k _ _ l1_0 _ _ l1_1 a0_1 t255 _ ?side1 ?side2 ?side3 ?side4 A4.out).mono ?_
           (case side1 => repeat (first | exact (Kd.C_below HR1_0.out HB.out) | (with_reducible refine Kd.C_alloc ?_ _) | (with_reducible refine Kd.C_drewN ?_ _) | (with_reducible refine Kd.C_drew ?_)))
           (case side2 => exact HC1_0.out)
           (case side3 => repeat (first | exact (Kd.C_below HR1_1.out HB.out) | (with_reducible refine Kd.C_alloc ?_ _) | (with_reducible refine Kd.C_drewN ?_ _) | (with_reducible refine Kd.C_drew ?_)))
           (case side4 => exact HC1_1.out)
           rintro e w11 ⟨rfl, hb⟩
           refine ⟨_, rfl, ?_⟩
           have n0_ := Aside0.mk (blk_below (g := gb252) (o := .cells #[.int .i64 a0_0, .int .i64 a0_1] 68 (0, 0)) (zk BK252) hb)
           have n1_ := Aside0.mk (blk_below (g := gb253) (o := .cells #[.slice A1_0 l1_0.length c1_0, .slice A1_1 l1_1.length c1_1] 61 (0, 0)) (zk BK253) hb)
           have n2_ := Aside0.mk (below_step zB hb)
           clear BK252
           clear BK253
           clear HB
           have BK252 := n0_
           have BK253 := n1_
           have HB := n2_
           clear n0_ n1_ n2_
           (try clear hb)
           (try clear hb2)
           (try clear hk)
           (try clear hi)
           refine hK.out _ _ ⟨(blk_cell BK253.out 0).trans rfl, (blk_cell BK253.out 1).trans rfl, (blk_cell BK252.out 0).trans rfl, (blk_cell BK252.out 1).trans rfl⟩ (fun hHeld => ?_)
           clear hK K
           refine norm_ (a' := ?_) ?_ ?_
           rotate_left
           ·show Act.put _ (some 14) _ = _
            simp only [Act.put, List.setIfInBounds_toArray, List.set_cons_zero, List.set_cons_succ, i64_w, i32_w]
            rfl
           exact norm_ (by first | (simp only [putAll, Act.put, List.setIfInBounds_toArray, List.set_cons_zero, List.set_cons_succ]; done) | (simp only [putAll, Act.put, List.setIfInBounds_toArray, List.set_cons_zero, List.set_cons_succ]; rfl)) (hJ3_7 () _ ⟨hHeld, (zk BK252), (zk BK253), zB⟩)
          ·skip
           refine box_step ?hg (N := 5) ?hd (cs := #[.int .i64 0]) (t := 3) ?hr ?_; (case hd => rfl); (case hg => rfl); (case hr => first | (go_simp; done) | (go_simp; rfl))
           intro gb256 hg w11 hbox hb
           have n0_ := Aside0.mk (blk_below (g := gb252) (o := .cells #[.int .i64 a0_0, .int .i64 a0_1] 68 (0, 0)) (zk BK252) hb)
           have n1_ := Aside0.mk (blk_below (g := gb253) (o := .cells #[.slice A1_0 l1_0.length c1_0, .slice A1_1 l1_1.length c1_1] 61 (0, 0)) (zk BK253) hb)
           have n2_ := Aside0.mk (below_step zB hb)
           have n3_ := Aside0.mk (hbox)
           have n4_ := Aside0.mk ((by rw [hg]; exact (below_size zB) : w.heap.size ≤ gb256))
           have n5_ := Aside0.mk ((by rw [hg]; exact (below_size zB) : w.heap.size ≤ gb256))
           have n6_ := Aside0.mk ((by rw [hg]; exact Nat.ne_of_lt (blk_lt (g := gb252) (o := .cells #[.int .i64 a0_0, .int .i64 a0_1] 68 (0, 0)) (zk BK252)) : gb252 ≠ gb256))
           have n7_ := Aside0.mk ((by rw [hg]; exact Nat.ne_of_gt (blk_lt (g := gb252) (o := .cells #[.int .i64 a0_0, .int .i64 a0_1] 68 (0, 0)) (zk BK252)) : gb256 ≠ gb252))
           have n8_ := Aside0.mk ((by rw [hg]; exact Nat.ne_of_lt (blk_lt (g := gb253) (o := .cells #[.slice A1_0 l1_0.length c1_0, .slice A1_1 l1_1.length c1_1] 61 (0, 0)) (zk BK253)) : gb253 ≠ gb256))
           have n9_ := Aside0.mk ((by rw [hg]; exact Nat.ne_of_gt (blk_lt (g := gb253) (o := .cells #[.slice A1_0 l1_0.length c1_0, .slice A1_1 l1_1.length c1_1] 61 (0, 0)) (zk BK253)) : gb256 ≠ gb253))
           clear BK252
           clear BK253
           clear HB
           have BK252 := n0_
           have BK253 := n1_
           have HB := n2_
           have BK256 := n3_
           have GW256 := n4_
           have GE256 := n5_
           have NB252_256 := n6_
           have NB256_252 := n7_
           have NB253_256 := n8_
           have NB256_253 := n9_
           clear n0_ n1_ n2_ n3_ n4_ n5_ n6_ n7_ n8_ n9_
           clear hb hbox hg
           refine hK.out _ _ ⟨(blk_cell BK253.out 0).trans rfl, (blk_cell BK253.out 1).trans rfl, (blk_cell BK252.out 0).trans rfl, (blk_cell BK252.out 1).trans rfl⟩ (fun hHeld => ?_)
           clear hK K
           refine norm_ (a' := ?_) ?_ ?_
           rotate_left
           ·show Act.put _ (some 5) _ = _
            simp only [Act.put, List.setIfInBounds_toArray, List.set_cons_zero, List.set_cons_succ, i64_w, i32_w]
            rfl
           exact norm_ (by first | (simp only [putAll, Act.put, List.setIfInBounds_toArray, List.set_cons_zero, List.set_cons_succ]; done) | (simp only [putAll, Act.put, List.setIfInBounds_toArray, List.set_cons_zero, List.set_cons_succ]; rfl)) (hJ3_8 (gb256) _ ⟨hHeld, (zk BK252), (zk BK253), (zk BK256), GW256.out, GE256.out, NB252_256.out, NB256_252.out, NB253_256.out, NB256_253.out, zB⟩)
          ·skip
           refine box_step ?hg (N := 6) ?hd (cs := #[.int .i64 0]) (t := 3) ?hr ?_; (case hd => rfl); (case hg => rfl); (case hr => first | (go_simp; done) | (go_simp; rfl))
           intro gb257 hg w11 hbox hb
           have n0_ := Aside0.mk (blk_below (g := gb252) (o := .cells #[.int .i64 a0_0, .int .i64 a0_1] 68 (0, 0)) (zk BK252) hb)
           have n1_ := Aside0.mk (blk_below (g := gb253) (o := .cells #[.slice A1_0 l1_0.length c1_0, .slice A1_1 l1_1.length c1_1] 61 (0, 0)) (zk BK253) hb)
           have n2_ := Aside0.mk (below_step zB hb)
           have n3_ := Aside0.mk (hbox)
           have n4_ := Aside0.mk ((by rw [hg]; exact (below_size zB) : w.heap.size ≤ gb257))
           have n5_ := Aside0.mk ((by rw [hg]; exact (below_size zB) : w.heap.size ≤ gb257))
           have n6_ := Aside0.mk ((by rw [hg]; exact Nat.ne_of_lt (blk_lt (g := gb252) (o := .cells #[.int .i64 a0_0, .int .i64 a0_1] 68 (0, 0)) (zk BK252)) : gb252 ≠ gb257))
           have n7_ := Aside0.mk ((by rw [hg]; exact Nat.ne_of_gt (blk_lt (g := gb252) (o := .cells #[.int .i64 a0_0, .int .i64 a0_1] 68 (0, 0)) (zk BK252)) : gb257 ≠ gb252))
           have n8_ := Aside0.mk ((by rw [hg]; exact Nat.ne_of_lt (blk_lt (g := gb253) (o := .cells #[.slice A1_0 l1_0.length c1_0, .slice A1_1 l1_1.length c1_1] 61 (0, 0)) (zk BK253)) : gb253 ≠ gb257))
           have n9_ := Aside0.mk ((by rw [hg]; exact Nat.ne_of_gt (blk_lt (g := gb253) (o := .cells #[.slice A1_0 l1_0.length c1_0, .slice A1_1 l1_1.length c1_1] 61 (0, 0)) (zk BK253)) : gb257 ≠ gb253))
           clear BK252
           clear BK253
           clear HB
           have BK252 := n0_
           have BK253 := n1_
           have HB := n2_
           have BK257 := n3_
           have GW257 := n4_
           have GE257 := n5_
           have NB252_257 := n6_
           have NB257_252 := n7_
           have NB253_257 := n8_
           have NB257_253 := n9_
           clear n0_ n1_ n2_ n3_ n4_ n5_ n6_ n7_ n8_ n9_
           clear hb hbox hg
           refine hK.out _ _ ⟨(blk_cell BK253.out 0).trans rfl, (blk_cell BK253.out 1).trans rfl, (blk_cell BK252.out 0).trans rfl, (blk_cell BK252.out 1).trans rfl⟩ (fun hHeld => ?_)
           clear hK K
           refine norm_ (a' := ?_) ?_ ?_
           rotate_left
           ·show Act.put _ (some 6) _ = _
            simp only [Act.put, List.setIfInBounds_toArray, List.set_cons_zero, List.set_cons_succ, i64_w, i32_w]
            rfl
           exact norm_ (by first | (simp only [putAll, Act.put, List.setIfInBounds_toArray, List.set_cons_zero, List.set_cons_succ]; done) | (simp only [putAll, Act.put, List.setIfInBounds_toArray, List.set_cons_zero, List.set_cons_succ]; rfl)) (hJ3_9 (gb257) _ ⟨hHeld, (zk BK252), (zk BK253), (zk BK257), GW257.out, GE257.out, NB252_257.out, NB257_252.out, NB253_257.out, NB257_253.out, zB⟩)
        ·skip
         rintro ⟨gb256, gb257⟩ w11 ⟨hS_, h0_, h1_, h2_, h3_, h4_, h5_, h6_, h7_, h8_, h9_, h10_, h11_, h12_, h13_, h14_, h15_, h16_, h17_, h18_⟩
         have n0_ : Aside0 (w11.heap[gb252]? = some (.cells #[.int .i64 a0_0, .int .i64 a0_1] 68 (0, 0))) := ⟨h0_⟩
         have n1_ : Aside0 (w11.heap[gb253]? = some (.cells #[.slice A1_0 l1_0.length c1_0, .slice A1_1 l1_1.length c1_1] 61 (0, 0))) := ⟨h1_⟩
         have n2_ : Aside0 (w11.heap[gb256]? = some (.cells #[.int .i64 0] 3 (0, 0))) := ⟨h2_⟩
         have n3_ : Aside0 (w11.heap[gb257]? = some (.cells #[.int .i64 0] 3 (0, 0))) := ⟨h3_⟩
         have n4_ : Aside0 (w.heap.size ≤ gb256) := ⟨h4_⟩
         have n5_ : Aside0 (w.heap.size ≤ gb256) := ⟨h5_⟩
         have n6_ : Aside0 (gb252 ≠ gb256) := ⟨h6_⟩
         have n7_ : Aside0 (gb256 ≠ gb252) := ⟨h7_⟩
         have n8_ : Aside0 (gb253 ≠ gb256) := ⟨h8_⟩
         have n9_ : Aside0 (gb256 ≠ gb253) := ⟨h9_⟩
         have n10_ : Aside0 (gb257 ≠ gb256) := ⟨h10_⟩
         have n11_ : Aside0 (gb256 ≠ gb257) := ⟨h11_⟩
         have n12_ : Aside0 (w.heap.size ≤ gb257) := ⟨h12_⟩
         have n13_ : Aside0 (w.heap.size ≤ gb257) := ⟨h13_⟩
         have n14_ : Aside0 (gb252 ≠ gb257) := ⟨h14_⟩
         have n15_ : Aside0 (gb257 ≠ gb252) := ⟨h15_⟩
         have n16_ : Aside0 (gb253 ≠ gb257) := ⟨h16_⟩
         have n17_ : Aside0 (gb257 ≠ gb253) := ⟨h17_⟩
         have n18_ : Aside0 (Below w.heap.size w w11) := ⟨h18_⟩
         clear BK252
         clear BK253
         clear HB
         clear h0_ h1_ h2_ h3_ h4_ h5_ h6_ h7_ h8_ h9_ h10_ h11_ h12_ h13_ h14_ h15_ h16_ h17_ h18_
         have BK252 := n0_
         have BK253 := n1_
         have BK256 := n2_
         have BK257 := n3_
         have GW256 := n4_
         have GE256 := n5_
         have NB252_256 := n6_
         have NB256_252 := n7_
         have NB253_256 := n8_
         have NB256_253 := n9_
         have NB257_256 := n10_
         have NB256_257 := n11_
         have GW257 := n12_
         have GE257 := n13_
         have NB252_257 := n14_
         have NB257_252 := n15_
         have NB253_257 := n16_
         have NB257_253 := n17_
         have HB := n18_
         clear n0_ n1_ n2_ n3_ n4_ n5_ n6_ n7_ n8_ n9_ n10_ n11_ n12_ n13_ n14_ n15_ n16_ n17_ n18_
         have hHeld : w11.cell? ⟨gb253, 0, none⟩ = some (.slice A1_0 l1_0.length c1_0) ∧ w11.cell? ⟨gb253, 1, none⟩ = some (.slice A1_1 l1_1.length c1_1) ∧ w11.cell? ⟨gb252, 0, none⟩ = some (.int .i64 a0_0) ∧ w11.cell? ⟨gb252, 1, none⟩ = some (.int .i64 a0_1) := hS_
         refine norm_ (a' := ?_) ?_ ?_
         rotate_left
         ·simp only [putAll, Act.put, List.setIfInBounds_toArray, List.set_cons_zero, List.set_cons_succ]
          rfl
         refine one_ (i := 3) (N := some 10) #[true, true, true, true, true, true, true, false, true, true, false, false] rfl rfl (one_of HT_.out zK) (by decide) (fun K hK => ?_)
         refine goes_ Try.func58 zK rfl #[.agg #[.slice A1_0 l1_0.length c1_0, .slice A1_1 l1_1.length c1_1], .int .i64 a0_0] (by rfl) rfl rfl zM ?_
         with_reducible refine (solve_row.calls k _ _ l1_0 _ _ l1_1 a0_0 t254 _ ?side1 ?side2 ?side3 ?side4 A3.out).mono ?_
         (case side1 => repeat (first | exact (Kd.C_below HR1_0.out HB.out) | (with_reducible refine Kd.C_alloc ?_ _) | (with_reducible refine Kd.C_drewN ?_ _) | (with_reducible refine Kd.C_drew ?_)))
         (case side2 => exact HC1_0.out)
         (case side3 => repeat (first | exact (Kd.C_below HR1_1.out HB.out) | (with_reducible refine Kd.C_alloc ?_ _) | (with_reducible refine Kd.C_drewN ?_ _) | (with_reducible refine Kd.C_drew ?_)))
         (case side4 => exact HC1_1.out)
         rintro e w12 ⟨rfl, hb⟩
         refine ⟨_, rfl, ?_⟩
         have n0_ := Aside0.mk (blk_below (g := gb252) (o := .cells #[.int .i64 a0_0, .int .i64 a0_1] 68 (0, 0)) (zk BK252) hb)
         have n1_ := Aside0.mk (blk_below (g := gb253) (o := .cells #[.slice A1_0 l1_0.length c1_0, .slice A1_1 l1_1.length c1_1] 61 (0, 0)) (zk BK253) hb)
         have n2_ := Aside0.mk (blk_below (g := gb256) (o := .cells #[.int .i64 0] 3 (0, 0)) (zk BK256) hb)
         have n3_ := Aside0.mk (blk_below (g := gb257) (o := .cells #[.int .i64 0] 3 (0, 0)) (zk BK257) hb)
         have n4_ := Aside0.mk (below_step zB hb)
         clear BK252
         clear BK253
         clear BK256
         clear BK257
         clear HB
         have BK252 := n0_
         have BK253 := n1_
         have BK256 := n2_
         have BK257 := n3_
         have HB := n4_
         clear n0_ n1_ n2_ n3_ n4_
         (try clear hb)
         (try clear hb2)
         (try clear hk)
         (try clear hi)
         refine hK.out _ _ ⟨(blk_cell BK253.out 0).trans rfl, (blk_cell BK253.out 1).trans rfl, (blk_cell BK252.out 0).trans rfl, (blk_cell BK252.out 1).trans rfl⟩ (fun hHeld => ?_)
         clear hK K
         refine norm_ (a' := ?_) ?_ ?_
         rotate_left
         ·show Act.put _ (some 10) _ = _
          simp only [Act.put, List.setIfInBounds_toArray, List.set_cons_zero, List.set_cons_succ, i64_w, i32_w]
          rfl
         exact norm_ (by first | (simp only [putAll, Act.put, List.setIfInBounds_toArray, List.set_cons_zero, List.set_cons_succ]; done) | (simp only [putAll, Act.put, List.setIfInBounds_toArray, List.set_cons_zero, List.set_cons_succ]; rfl)) (hJ3_8_9 (gb256, gb257) _ ⟨hHeld, (zk BK252), (zk BK253), (zk BK256), (zk BK257), GW256.out, GE256.out, NB252_256.out, NB256_252.out, NB253_256.out, NB256_253.out, NB257_256.out, NB256_257.out, GW257.out, GE257.out, NB252_257.out, NB257_252.out, NB253_257.out, NB257_253.out, zB⟩)
       ·skip
        rintro gb257 w11 ⟨hS_, h0_, h1_, h2_, h3_, h4_, h5_, h6_, h7_, h8_, h9_⟩
        have n0_ : Aside0 (w11.heap[gb252]? = some (.cells #[.int .i64 a0_0, .int .i64 a0_1] 68 (0, 0))) := ⟨h0_⟩
        have n1_ : Aside0 (w11.heap[gb253]? = some (.cells #[.slice A1_0 l1_0.length c1_0, .slice A1_1 l1_1.length c1_1] 61 (0, 0))) := ⟨h1_⟩
        have n2_ : Aside0 (w11.heap[gb257]? = some (.cells #[.int .i64 0] 3 (0, 0))) := ⟨h2_⟩
        have n3_ : Aside0 (w.heap.size ≤ gb257) := ⟨h3_⟩
        have n4_ : Aside0 (w.heap.size ≤ gb257) := ⟨h4_⟩
        have n5_ : Aside0 (gb252 ≠ gb257) := ⟨h5_⟩
        have n6_ : Aside0 (gb257 ≠ gb252) := ⟨h6_⟩
        have n7_ : Aside0 (gb253 ≠ gb257) := ⟨h7_⟩
        have n8_ : Aside0 (gb257 ≠ gb253) := ⟨h8_⟩
        have n9_ : Aside0 (Below w.heap.size w w11) := ⟨h9_⟩
        clear BK252
        clear BK253
        clear HB
        clear h0_ h1_ h2_ h3_ h4_ h5_ h6_ h7_ h8_ h9_
        have BK252 := n0_
        have BK253 := n1_
        have BK257 := n2_
        have GW257 := n3_
        have GE257 := n4_
        have NB252_257 := n5_
        have NB257_252 := n6_
        have NB253_257 := n7_
        have NB257_253 := n8_
        have HB := n9_
        clear n0_ n1_ n2_ n3_ n4_ n5_ n6_ n7_ n8_ n9_
        have hHeld : w11.cell? ⟨gb253, 0, none⟩ = some (.slice A1_0 l1_0.length c1_0) ∧ w11.cell? ⟨gb253, 1, none⟩ = some (.slice A1_1 l1_1.length c1_1) ∧ w11.cell? ⟨gb252, 0, none⟩ = some (.int .i64 a0_0) ∧ w11.cell? ⟨gb252, 1, none⟩ = some (.int .i64 a0_1) := hS_
        refine norm_ (a' := ?_) ?_ ?_
        rotate_left
        ·simp only [putAll, Act.put, List.setIfInBounds_toArray, List.set_cons_zero, List.set_cons_succ]
         rfl
        refine two_ (i := 7) (j := 8) (Ni := some 14) (Nj := some 5) #[true, true, true, true, true, true, true, true, false, true, false, false] #[true, true, true, true, true, true, true, false, true, true, false, false] rfl rfl rfl rfl (two_of HT_.out zK) (by decide) (by decide) (fun K hK => ?_) (fun K hK => ?_)
        ·skip
         refine goes_ Try.func58 zK rfl #[.agg #[.slice A1_0 l1_0.length c1_0, .slice A1_1 l1_1.length c1_1], .int .i64 a0_1] (by rfl) rfl rfl zM ?_
         with_reducible refine (solve_row.calls k _ _ l1_0 _ _ l1_1 a0_1 t255 _ ?side1 ?side2 ?side3 ?side4 A4.out).mono ?_
         (case side1 => repeat (first | exact (Kd.C_below HR1_0.out HB.out) | (with_reducible refine Kd.C_alloc ?_ _) | (with_reducible refine Kd.C_drewN ?_ _) | (with_reducible refine Kd.C_drew ?_)))
         (case side2 => exact HC1_0.out)
         (case side3 => repeat (first | exact (Kd.C_below HR1_1.out HB.out) | (with_reducible refine Kd.C_alloc ?_ _) | (with_reducible refine Kd.C_drewN ?_ _) | (with_reducible refine Kd.C_drew ?_)))
         (case side4 => exact HC1_1.out)
         rintro e w12 ⟨rfl, hb⟩
         refine ⟨_, rfl, ?_⟩
         have n0_ := Aside0.mk (blk_below (g := gb252) (o := .cells #[.int .i64 a0_0, .int .i64 a0_1] 68 (0, 0)) (zk BK252) hb)
         have n1_ := Aside0.mk (blk_below (g := gb253) (o := .cells #[.slice A1_0 l1_0.length c1_0, .slice A1_1 l1_1.length c1_1] 61 (0, 0)) (zk BK253) hb)
         have n2_ := Aside0.mk (blk_below (g := gb257) (o := .cells #[.int .i64 0] 3 (0, 0)) (zk BK257) hb)
         have n3_ := Aside0.mk (below_step zB hb)
         clear BK252
         clear BK253
         clear BK257
         clear HB
         have BK252 := n0_
         have BK253 := n1_
         have BK257 := n2_
         have HB := n3_
         clear n0_ n1_ n2_ n3_
         (try clear hb)
         (try clear hb2)
         (try clear hk)
         (try clear hi)
         refine hK.out _ _ ⟨(blk_cell BK253.out 0).trans rfl, (blk_cell BK253.out 1).trans rfl, (blk_cell BK252.out 0).trans rfl, (blk_cell BK252.out 1).trans rfl⟩ (fun hHeld => ?_)
         clear hK K
         refine norm_ (a' := ?_) ?_ ?_
         rotate_left
         ·show Act.put _ (some 14) _ = _
          simp only [Act.put, List.setIfInBounds_toArray, List.set_cons_zero, List.set_cons_succ, i64_w, i32_w]
          rfl
         exact norm_ (by first | (simp only [putAll, Act.put, List.setIfInBounds_toArray, List.set_cons_zero, List.set_cons_succ]; done) | (simp only [putAll, Act.put, List.setIfInBounds_toArray, List.set_cons_zero, List.set_cons_succ]; rfl)) (hJ3_7_9 (gb257) _ ⟨hHeld, (zk BK252), (zk BK253), (zk BK257), GW257.out, GE257.out, NB252_257.out, NB257_252.out, NB253_257.out, NB257_253.out, zB⟩)
        ·skip
         refine box_step ?hg (N := 5) ?hd (cs := #[.int .i64 0]) (t := 3) ?hr ?_; (case hd => rfl); (case hg => rfl); (case hr => first | (go_simp; done) | (go_simp; rfl))
         intro gb256 hg w12 hbox hb
         have n0_ := Aside0.mk (blk_below (g := gb252) (o := .cells #[.int .i64 a0_0, .int .i64 a0_1] 68 (0, 0)) (zk BK252) hb)
         have n1_ := Aside0.mk (blk_below (g := gb253) (o := .cells #[.slice A1_0 l1_0.length c1_0, .slice A1_1 l1_1.length c1_1] 61 (0, 0)) (zk BK253) hb)
         have n2_ := Aside0.mk (blk_below (g := gb257) (o := .cells #[.int .i64 0] 3 (0, 0)) (zk BK257) hb)
         have n3_ := Aside0.mk (below_step zB hb)
         have n4_ := Aside0.mk (hbox)
         have n5_ := Aside0.mk ((by rw [hg]; exact (below_size zB) : w.heap.size ≤ gb256))
         have n6_ := Aside0.mk ((by rw [hg]; exact (below_size zB) : w.heap.size ≤ gb256))
         have n7_ := Aside0.mk ((by rw [hg]; exact Nat.ne_of_lt (blk_lt (g := gb252) (o := .cells #[.int .i64 a0_0, .int .i64 a0_1] 68 (0, 0)) (zk BK252)) : gb252 ≠ gb256))
         have n8_ := Aside0.mk ((by rw [hg]; exact Nat.ne_of_gt (blk_lt (g := gb252) (o := .cells #[.int .i64 a0_0, .int .i64 a0_1] 68 (0, 0)) (zk BK252)) : gb256 ≠ gb252))
         have n9_ := Aside0.mk ((by rw [hg]; exact Nat.ne_of_lt (blk_lt (g := gb253) (o := .cells #[.slice A1_0 l1_0.length c1_0, .slice A1_1 l1_1.length c1_1] 61 (0, 0)) (zk BK253)) : gb253 ≠ gb256))
         have n10_ := Aside0.mk ((by rw [hg]; exact Nat.ne_of_gt (blk_lt (g := gb253) (o := .cells #[.slice A1_0 l1_0.length c1_0, .slice A1_1 l1_1.length c1_1] 61 (0, 0)) (zk BK253)) : gb256 ≠ gb253))
         have n11_ := Aside0.mk ((by rw [hg]; exact Nat.ne_of_lt (blk_lt (g := gb257) (o := .cells #[.int .i64 0] 3 (0, 0)) (zk BK257)) : gb257 ≠ gb256))
         have n12_ := Aside0.mk ((by rw [hg]; exact Nat.ne_of_gt (blk_lt (g := gb257) (o := .cells #[.int .i64 0] 3 (0, 0)) (zk BK257)) : gb256 ≠ gb257))
         clear BK252
         clear BK253
         clear BK257
         clear HB
         have BK252 := n0_
         have BK253 := n1_
         have BK257 := n2_
         have HB := n3_
         have BK256 := n4_
         have GW256 := n5_
         have GE256 := n6_
         have NB252_256 := n7_
         have NB256_252 := n8_
         have NB253_256 := n9_
         have NB256_253 := n10_
         have NB257_256 := n11_
         have NB256_257 := n12_
         clear n0_ n1_ n2_ n3_ n4_ n5_ n6_ n7_ n8_ n9_ n10_ n11_ n12_
         clear hb hbox hg
         refine hK.out _ _ ⟨(blk_cell BK253.out 0).trans rfl, (blk_cell BK253.out 1).trans rfl, (blk_cell BK252.out 0).trans rfl, (blk_cell BK252.out 1).trans rfl⟩ (fun hHeld => ?_)
         clear hK K
         refine norm_ (a' := ?_) ?_ ?_
         rotate_left
         ·show Act.put _ (some 5) _ = _
          simp only [Act.put, List.setIfInBounds_toArray, List.set_cons_zero, List.set_cons_succ, i64_w, i32_w]
          rfl
         exact norm_ (by first | (simp only [putAll, Act.put, List.setIfInBounds_toArray, List.set_cons_zero, List.set_cons_succ]; done) | (simp only [putAll, Act.put, List.setIfInBounds_toArray, List.set_cons_zero, List.set_cons_succ]; rfl)) (hJ3_8_9 (gb256, gb257) _ ⟨hHeld, (zk BK252), (zk BK253), (zk BK256), (zk BK257), GW256.out, GE256.out, NB252_256.out, NB256_252.out, NB253_256.out, NB256_253.out, NB257_256.out, NB256_257.out, GW257.out, GE257.out, NB252_257.out, NB257_252.out, NB253_257.out, NB257_253.out, zB⟩)
      ·skip
       rintro gb256 w11 ⟨hS_, h0_, h1_, h2_, h3_, h4_, h5_, h6_, h7_, h8_, h9_⟩
       have n0_ : Aside0 (w11.heap[gb252]? = some (.cells #[.int .i64 a0_0, .int .i64 a0_1] 68 (0, 0))) := ⟨h0_⟩
       have n1_ : Aside0 (w11.heap[gb253]? = some (.cells #[.slice A1_0 l1_0.length c1_0, .slice A1_1 l1_1.length c1_1] 61 (0, 0))) := ⟨h1_⟩
       have n2_ : Aside0 (w11.heap[gb256]? = some (.cells #[.int .i64 0] 3 (0, 0))) := ⟨h2_⟩
       have n3_ : Aside0 (w.heap.size ≤ gb256) := ⟨h3_⟩
       have n4_ : Aside0 (w.heap.size ≤ gb256) := ⟨h4_⟩
       have n5_ : Aside0 (gb252 ≠ gb256) := ⟨h5_⟩
       have n6_ : Aside0 (gb256 ≠ gb252) := ⟨h6_⟩
       have n7_ : Aside0 (gb253 ≠ gb256) := ⟨h7_⟩
       have n8_ : Aside0 (gb256 ≠ gb253) := ⟨h8_⟩
       have n9_ : Aside0 (Below w.heap.size w w11) := ⟨h9_⟩
       clear BK252
       clear BK253
       clear HB
       clear h0_ h1_ h2_ h3_ h4_ h5_ h6_ h7_ h8_ h9_
       have BK252 := n0_
       have BK253 := n1_
       have BK256 := n2_
       have GW256 := n3_
       have GE256 := n4_
       have NB252_256 := n5_
       have NB256_252 := n6_
       have NB253_256 := n7_
       have NB256_253 := n8_
       have HB := n9_
       clear n0_ n1_ n2_ n3_ n4_ n5_ n6_ n7_ n8_ n9_
       have hHeld : w11.cell? ⟨gb253, 0, none⟩ = some (.slice A1_0 l1_0.length c1_0) ∧ w11.cell? ⟨gb253, 1, none⟩ = some (.slice A1_1 l1_1.length c1_1) ∧ w11.cell? ⟨gb252, 0, none⟩ = some (.int .i64 a0_0) ∧ w11.cell? ⟨gb252, 1, none⟩ = some (.int .i64 a0_1) := hS_
       refine norm_ (a' := ?_) ?_ ?_
       rotate_left
       ·simp only [putAll, Act.put, List.setIfInBounds_toArray, List.set_cons_zero, List.set_cons_succ]
        rfl
       refine two_ (i := 7) (j := 9) (Ni := some 14) (Nj := some 6) #[true, true, true, true, true, true, true, true, true, false, false, false] #[true, true, true, true, true, true, true, false, true, true, false, false] rfl rfl rfl rfl (two_of HT_.out zK) (by decide) (by decide) (fun K hK => ?_) (fun K hK => ?_)
       ·skip
        refine goes_ Try.func58 zK rfl #[.agg #[.slice A1_0 l1_0.length c1_0, .slice A1_1 l1_1.length c1_1], .int .i64 a0_1] (by rfl) rfl rfl zM ?_
        with_reducible refine (solve_row.calls k _ _ l1_0 _ _ l1_1 a0_1 t255 _ ?side1 ?side2 ?side3 ?side4 A4.out).mono ?_
        (case side1 => repeat (first | exact (Kd.C_below HR1_0.out HB.out) | (with_reducible refine Kd.C_alloc ?_ _) | (with_reducible refine Kd.C_drewN ?_ _) | (with_reducible refine Kd.C_drew ?_)))
        (case side2 => exact HC1_0.out)
        (case side3 => repeat (first | exact (Kd.C_below HR1_1.out HB.out) | (with_reducible refine Kd.C_alloc ?_ _) | (with_reducible refine Kd.C_drewN ?_ _) | (with_reducible refine Kd.C_drew ?_)))
        (case side4 => exact HC1_1.out)
        rintro e w12 ⟨rfl, hb⟩
        refine ⟨_, rfl, ?_⟩
        have n0_ := Aside0.mk (blk_below (g := gb252) (o := .cells #[.int .i64 a0_0, .int .i64 a0_1] 68 (0, 0)) (zk BK252) hb)
        have n1_ := Aside0.mk (blk_below (g := gb253) (o := .cells #[.slice A1_0 l1_0.length c1_0, .slice A1_1 l1_1.length c1_1] 61 (0, 0)) (zk BK253) hb)
        have n2_ := Aside0.mk (blk_below (g := gb256) (o := .cells #[.int .i64 0] 3 (0, 0)) (zk BK256) hb)
        have n3_ := Aside0.mk (below_step zB hb)
        clear BK252
        clear BK253
        clear BK256
        clear HB
        have BK252 := n0_
        have BK253 := n1_
        have BK256 := n2_
        have HB := n3_
        clear n0_ n1_ n2_ n3_
        (try clear hb)
        (try clear hb2)
        (try clear hk)
        (try clear hi)
        refine hK.out _ _ ⟨(blk_cell BK253.out 0).trans rfl, (blk_cell BK253.out 1).trans rfl, (blk_cell BK252.out 0).trans rfl, (blk_cell BK252.out 1).trans rfl⟩ (fun hHeld => ?_)
        clear hK K
        refine norm_ (a' := ?_) ?_ ?_
        rotate_left
        ·show Act.put _ (some 14) _ = _
         simp only [Act.put, List.setIfInBounds_toArray, List.set_cons_zero, List.set_cons_succ, i64_w, i32_w]
         rfl
        exact norm_ (by first | (simp only [putAll, Act.put, List.setIfInBounds_toArray, List.set_cons_zero, List.set_cons_succ]; done) | (simp only [putAll, Act.put, List.setIfInBounds_toArray, List.set_cons_zero, List.set_cons_succ]; rfl)) (hJ3_7_8 (gb256) _ ⟨hHeld, (zk BK252), (zk BK253), (zk BK256), GW256.out, GE256.out, NB252_256.out, NB256_252.out, NB253_256.out, NB256_253.out, zB⟩)
       ·skip
        refine box_step ?hg (N := 6) ?hd (cs := #[.int .i64 0]) (t := 3) ?hr ?_; (case hd => rfl); (case hg => rfl); (case hr => first | (go_simp; done) | (go_simp; rfl))
        intro gb257 hg w12 hbox hb
        have n0_ := Aside0.mk (blk_below (g := gb252) (o := .cells #[.int .i64 a0_0, .int .i64 a0_1] 68 (0, 0)) (zk BK252) hb)
        have n1_ := Aside0.mk (blk_below (g := gb253) (o := .cells #[.slice A1_0 l1_0.length c1_0, .slice A1_1 l1_1.length c1_1] 61 (0, 0)) (zk BK253) hb)
        have n2_ := Aside0.mk (blk_below (g := gb256) (o := .cells #[.int .i64 0] 3 (0, 0)) (zk BK256) hb)
        have n3_ := Aside0.mk (below_step zB hb)
        have n4_ := Aside0.mk (hbox)
        have n5_ := Aside0.mk ((by rw [hg]; exact (below_size zB) : w.heap.size ≤ gb257))
        have n6_ := Aside0.mk ((by rw [hg]; exact (below_size zB) : w.heap.size ≤ gb257))
        have n7_ := Aside0.mk ((by rw [hg]; exact Nat.ne_of_lt (blk_lt (g := gb252) (o := .cells #[.int .i64 a0_0, .int .i64 a0_1] 68 (0, 0)) (zk BK252)) : gb252 ≠ gb257))
        have n8_ := Aside0.mk ((by rw [hg]; exact Nat.ne_of_gt (blk_lt (g := gb252) (o := .cells #[.int .i64 a0_0, .int .i64 a0_1] 68 (0, 0)) (zk BK252)) : gb257 ≠ gb252))
        have n9_ := Aside0.mk ((by rw [hg]; exact Nat.ne_of_lt (blk_lt (g := gb253) (o := .cells #[.slice A1_0 l1_0.length c1_0, .slice A1_1 l1_1.length c1_1] 61 (0, 0)) (zk BK253)) : gb253 ≠ gb257))
        have n10_ := Aside0.mk ((by rw [hg]; exact Nat.ne_of_gt (blk_lt (g := gb253) (o := .cells #[.slice A1_0 l1_0.length c1_0, .slice A1_1 l1_1.length c1_1] 61 (0, 0)) (zk BK253)) : gb257 ≠ gb253))
        have n11_ := Aside0.mk ((by rw [hg]; exact Nat.ne_of_lt (blk_lt (g := gb256) (o := .cells #[.int .i64 0] 3 (0, 0)) (zk BK256)) : gb256 ≠ gb257))
        have n12_ := Aside0.mk ((by rw [hg]; exact Nat.ne_of_gt (blk_lt (g := gb256) (o := .cells #[.int .i64 0] 3 (0, 0)) (zk BK256)) : gb257 ≠ gb256))
        clear BK252
        clear BK253
        clear BK256
        clear HB
        have BK252 := n0_
        have BK253 := n1_
        have BK256 := n2_
        have HB := n3_
        have BK257 := n4_
        have GW257 := n5_
        have GE257 := n6_
        have NB252_257 := n7_
        have NB257_252 := n8_
        have NB253_257 := n9_
        have NB257_253 := n10_
        have NB256_257 := n11_
        have NB257_256 := n12_
        clear n0_ n1_ n2_ n3_ n4_ n5_ n6_ n7_ n8_ n9_ n10_ n11_ n12_
        clear hb hbox hg
        refine hK.out _ _ ⟨(blk_cell BK253.out 0).trans rfl, (blk_cell BK253.out 1).trans rfl, (blk_cell BK252.out 0).trans rfl, (blk_cell BK252.out 1).trans rfl⟩ (fun hHeld => ?_)
        clear hK K
        refine norm_ (a' := ?_) ?_ ?_
        rotate_left
        ·show Act.put _ (some 6) _ = _
         simp only [Act.put, List.setIfInBounds_toArray, List.set_cons_zero, List.set_cons_succ, i64_w, i32_w]
         rfl
        exact norm_ (by first | (simp only [putAll, Act.put, List.setIfInBounds_toArray, List.set_cons_zero, List.set_cons_succ]; done) | (simp only [putAll, Act.put, List.setIfInBounds_toArray, List.set_cons_zero, List.set_cons_succ]; rfl)) (hJ3_8_9 (gb256, gb257) _ ⟨hHeld, (zk BK252), (zk BK253), (zk BK256), (zk BK257), GW256.out, GE256.out, NB252_256.out, NB256_252.out, NB253_256.out, NB256_253.out, NB257_256.out, NB256_257.out, GW257.out, GE257.out, NB252_257.out, NB257_252.out, NB253_257.out, NB257_253.out, zB⟩)
     ·skip
      rintro _ w11 ⟨hS_, h0_, h1_, h2_⟩
      have n0_ : Aside0 (w11.heap[gb252]? = some (.cells #[.int .i64 a0_0, .int .i64 a0_1] 68 (0, 0))) := ⟨h0_⟩
      have n1_ : Aside0 (w11.heap[gb253]? = some (.cells #[.slice A1_0 l1_0.length c1_0, .slice A1_1 l1_1.length c1_1] 61 (0, 0))) := ⟨h1_⟩
      have n2_ : Aside0 (Below w.heap.size w w11) := ⟨h2_⟩
      clear BK252
      clear BK253
      clear HB
      clear h0_ h1_ h2_
      have BK252 := n0_
      have BK253 := n1_
      have HB := n2_
      clear n0_ n1_ n2_
      have hHeld : w11.cell? ⟨gb253, 0, none⟩ = some (.slice A1_0 l1_0.length c1_0) ∧ w11.cell? ⟨gb253, 1, none⟩ = some (.slice A1_1 l1_1.length c1_1) ∧ w11.cell? ⟨gb252, 0, none⟩ = some (.int .i64 a0_0) ∧ w11.cell? ⟨gb252, 1, none⟩ = some (.int .i64 a0_1) := hS_
      refine norm_ (a' := ?_) ?_ ?_
      rotate_left
      ·simp only [putAll, Act.put, List.setIfInBounds_toArray, List.set_cons_zero, List.set_cons_succ]
       rfl
      refine two_ (i := 8) (j := 9) (Ni := some 5) (Nj := some 6) #[true, true, true, true, true, true, true, true, true, false, false, false] #[true, true, true, true, true, true, true, true, false, true, false, false] rfl rfl rfl rfl (two_of HT_.out zK) (by decide) (by decide) (fun K hK => ?_) (fun K hK => ?_)
      ·skip
       refine box_step ?hg (N := 5) ?hd (cs := #[.int .i64 0]) (t := 3) ?hr ?_; (case hd => rfl); (case hg => rfl); (case hr => first | (go_simp; done) | (go_simp; rfl))
       intro gb256 hg w12 hbox hb
       have n0_ := Aside0.mk (blk_below (g := gb252) (o := .cells #[.int .i64 a0_0, .int .i64 a0_1] 68 (0, 0)) (zk BK252) hb)
       have n1_ := Aside0.mk (blk_below (g := gb253) (o := .cells #[.slice A1_0 l1_0.length c1_0, .slice A1_1 l1_1.length c1_1] 61 (0, 0)) (zk BK253) hb)
       have n2_ := Aside0.mk (below_step zB hb)
       have n3_ := Aside0.mk (hbox)
       have n4_ := Aside0.mk ((by rw [hg]; exact (below_size zB) : w.heap.size ≤ gb256))
       have n5_ := Aside0.mk ((by rw [hg]; exact (below_size zB) : w.heap.size ≤ gb256))
       have n6_ := Aside0.mk ((by rw [hg]; exact Nat.ne_of_lt (blk_lt (g := gb252) (o := .cells #[.int .i64 a0_0, .int .i64 a0_1] 68 (0, 0)) (zk BK252)) : gb252 ≠ gb256))
       have n7_ := Aside0.mk ((by rw [hg]; exact Nat.ne_of_gt (blk_lt (g := gb252) (o := .cells #[.int .i64 a0_0, .int .i64 a0_1] 68 (0, 0)) (zk BK252)) : gb256 ≠ gb252))
       have n8_ := Aside0.mk ((by rw [hg]; exact Nat.ne_of_lt (blk_lt (g := gb253) (o := .cells #[.slice A1_0 l1_0.length c1_0, .slice A1_1 l1_1.length c1_1] 61 (0, 0)) (zk BK253)) : gb253 ≠ gb256))
       have n9_ := Aside0.mk ((by rw [hg]; exact Nat.ne_of_gt (blk_lt (g := gb253) (o := .cells #[.slice A1_0 l1_0.length c1_0, .slice A1_1 l1_1.length c1_1] 61 (0, 0)) (zk BK253)) : gb256 ≠ gb253))
       clear BK252
       clear BK253
       clear HB
       have BK252 := n0_
       have BK253 := n1_
       have HB := n2_
       have BK256 := n3_
       have GW256 := n4_
       have GE256 := n5_
       have NB252_256 := n6_
       have NB256_252 := n7_
       have NB253_256 := n8_
       have NB256_253 := n9_
       clear n0_ n1_ n2_ n3_ n4_ n5_ n6_ n7_ n8_ n9_
       clear hb hbox hg
       refine hK.out _ _ ⟨(blk_cell BK253.out 0).trans rfl, (blk_cell BK253.out 1).trans rfl, (blk_cell BK252.out 0).trans rfl, (blk_cell BK252.out 1).trans rfl⟩ (fun hHeld => ?_)
       clear hK K
       refine norm_ (a' := ?_) ?_ ?_
       rotate_left
       ·show Act.put _ (some 5) _ = _
        simp only [Act.put, List.setIfInBounds_toArray, List.set_cons_zero, List.set_cons_succ, i64_w, i32_w]
        rfl
       exact norm_ (by first | (simp only [putAll, Act.put, List.setIfInBounds_toArray, List.set_cons_zero, List.set_cons_succ]; done) | (simp only [putAll, Act.put, List.setIfInBounds_toArray, List.set_cons_zero, List.set_cons_succ]; rfl)) (hJ3_7_8 (gb256) _ ⟨hHeld, (zk BK252), (zk BK253), (zk BK256), GW256.out, GE256.out, NB252_256.out, NB256_252.out, NB253_256.out, NB256_253.out, zB⟩)
      ·skip
       refine box_step ?hg (N := 6) ?hd (cs := #[.int .i64 0]) (t := 3) ?hr ?_; (case hd => rfl); (case hg => rfl); (case hr => first | (go_simp; done) | (go_simp; rfl))
       intro gb257 hg w12 hbox hb
       have n0_ := Aside0.mk (blk_below (g := gb252) (o := .cells #[.int .i64 a0_0, .int .i64 a0_1] 68 (0, 0)) (zk BK252) hb)
       have n1_ := Aside0.mk (blk_below (g := gb253) (o := .cells #[.slice A1_0 l1_0.length c1_0, .slice A1_1 l1_1.length c1_1] 61 (0, 0)) (zk BK253) hb)
       have n2_ := Aside0.mk (below_step zB hb)
       have n3_ := Aside0.mk (hbox)
       have n4_ := Aside0.mk ((by rw [hg]; exact (below_size zB) : w.heap.size ≤ gb257))
       have n5_ := Aside0.mk ((by rw [hg]; exact (below_size zB) : w.heap.size ≤ gb257))
       have n6_ := Aside0.mk ((by rw [hg]; exact Nat.ne_of_lt (blk_lt (g := gb252) (o := .cells #[.int .i64 a0_0, .int .i64 a0_1] 68 (0, 0)) (zk BK252)) : gb252 ≠ gb257))
       have n7_ := Aside0.mk ((by rw [hg]; exact Nat.ne_of_gt (blk_lt (g := gb252) (o := .cells #[.int .i64 a0_0, .int .i64 a0_1] 68 (0, 0)) (zk BK252)) : gb257 ≠ gb252))
       have n8_ := Aside0.mk ((by rw [hg]; exact Nat.ne_of_lt (blk_lt (g := gb253) (o := .cells #[.slice A1_0 l1_0.length c1_0, .slice A1_1 l1_1.length c1_1] 61 (0, 0)) (zk BK253)) : gb253 ≠ gb257))
       have n9_ := Aside0.mk ((by rw [hg]; exact Nat.ne_of_gt (blk_lt (g := gb253) (o := .cells #[.slice A1_0 l1_0.length c1_0, .slice A1_1 l1_1.length c1_1] 61 (0, 0)) (zk BK253)) : gb257 ≠ gb253))
       clear BK252
       clear BK253
       clear HB
       have BK252 := n0_
       have BK253 := n1_
       have HB := n2_
       have BK257 := n3_
       have GW257 := n4_
       have GE257 := n5_
       have NB252_257 := n6_
       have NB257_252 := n7_
       have NB253_257 := n8_
       have NB257_253 := n9_
       clear n0_ n1_ n2_ n3_ n4_ n5_ n6_ n7_ n8_ n9_
       clear hb hbox hg
       refine hK.out _ _ ⟨(blk_cell BK253.out 0).trans rfl, (blk_cell BK253.out 1).trans rfl, (blk_cell BK252.out 0).trans rfl, (blk_cell BK252.out 1).trans rfl⟩ (fun hHeld => ?_)
       clear hK K
       refine norm_ (a' := ?_) ?_ ?_
       rotate_left
       ·show Act.put _ (some 6) _ = _
        simp only [Act.put, List.setIfInBounds_toArray, List.set_cons_zero, List.set_cons_succ, i64_w, i32_w]
        rfl
       exact norm_ (by first | (simp only [putAll, Act.put, List.setIfInBounds_toArray, List.set_cons_zero, List.set_cons_succ]; done) | (simp only [putAll, Act.put, List.setIfInBounds_toArray, List.set_cons_zero, List.set_cons_succ]; rfl)) (hJ3_7_9 (gb257) _ ⟨hHeld, (zk BK252), (zk BK253), (zk BK257), GW257.out, GE257.out, NB252_257.out, NB257_252.out, NB253_257.out, NB257_253.out, zB⟩)
    ·skip
     rintro ⟨gb256, gb257⟩ w12 ⟨hS_, h0_, h1_, h2_, h3_, h4_, h5_, h6_, h7_, h8_, h9_, h10_, h11_, h12_, h13_, h14_, h15_, h16_, h17_, h18_⟩
     have n0_ : Aside0 (w12.heap[gb252]? = some (.cells #[.int .i64 a0_0, .int .i64 a0_1] 68 (0, 0))) := ⟨h0_⟩
     have n1_ : Aside0 (w12.heap[gb253]? = some (.cells #[.slice A1_0 l1_0.length c1_0, .slice A1_1 l1_1.length c1_1] 61 (0, 0))) := ⟨h1_⟩
     have n2_ : Aside0 (w12.heap[gb256]? = some (.cells #[.int .i64 0] 3 (0, 0))) := ⟨h2_⟩
     have n3_ : Aside0 (w12.heap[gb257]? = some (.cells #[.int .i64 0] 3 (0, 0))) := ⟨h3_⟩
     have n4_ : Aside0 (w.heap.size ≤ gb256) := ⟨h4_⟩
     have n5_ : Aside0 (w.heap.size ≤ gb256) := ⟨h5_⟩
     have n6_ : Aside0 (gb252 ≠ gb256) := ⟨h6_⟩
     have n7_ : Aside0 (gb256 ≠ gb252) := ⟨h7_⟩
     have n8_ : Aside0 (gb253 ≠ gb256) := ⟨h8_⟩
     have n9_ : Aside0 (gb256 ≠ gb253) := ⟨h9_⟩
     have n10_ : Aside0 (gb257 ≠ gb256) := ⟨h10_⟩
     have n11_ : Aside0 (gb256 ≠ gb257) := ⟨h11_⟩
     have n12_ : Aside0 (w.heap.size ≤ gb257) := ⟨h12_⟩
     have n13_ : Aside0 (w.heap.size ≤ gb257) := ⟨h13_⟩
     have n14_ : Aside0 (gb252 ≠ gb257) := ⟨h14_⟩
     have n15_ : Aside0 (gb257 ≠ gb252) := ⟨h15_⟩
     have n16_ : Aside0 (gb253 ≠ gb257) := ⟨h16_⟩
     have n17_ : Aside0 (gb257 ≠ gb253) := ⟨h17_⟩
     have n18_ : Aside0 (Below w.heap.size w w12) := ⟨h18_⟩
     clear BK252
     clear BK253
     clear HB
     clear h0_ h1_ h2_ h3_ h4_ h5_ h6_ h7_ h8_ h9_ h10_ h11_ h12_ h13_ h14_ h15_ h16_ h17_ h18_
     have BK252 := n0_
     have BK253 := n1_
     have BK256 := n2_
     have BK257 := n3_
     have GW256 := n4_
     have GE256 := n5_
     have NB252_256 := n6_
     have NB256_252 := n7_
     have NB253_256 := n8_
     have NB256_253 := n9_
     have NB257_256 := n10_
     have NB256_257 := n11_
     have GW257 := n12_
     have GE257 := n13_
     have NB252_257 := n14_
     have NB257_252 := n15_
     have NB253_257 := n16_
     have NB257_253 := n17_
     have HB := n18_
     clear n0_ n1_ n2_ n3_ n4_ n5_ n6_ n7_ n8_ n9_ n10_ n11_ n12_ n13_ n14_ n15_ n16_ n17_ n18_
     have hHeld : w12.cell? ⟨gb253, 0, none⟩ = some (.slice A1_0 l1_0.length c1_0) ∧ w12.cell? ⟨gb253, 1, none⟩ = some (.slice A1_1 l1_1.length c1_1) ∧ w12.cell? ⟨gb252, 0, none⟩ = some (.int .i64 a0_0) ∧ w12.cell? ⟨gb252, 1, none⟩ = some (.int .i64 a0_1) := hS_
     refine norm_ (a' := ?_) ?_ ?_
     rotate_left
     ·simp only [putAll, Act.put, List.setIfInBounds_toArray, List.set_cons_zero, List.set_cons_succ]
      rfl
     refine one_ (i := 7) (N := some 14) #[true, true, true, true, true, true, true, true, true, true, false, false] rfl rfl (one_of HT_.out zK) (by decide) (fun K hK => ?_)
     refine goes_ Try.func58 zK rfl #[.agg #[.slice A1_0 l1_0.length c1_0, .slice A1_1 l1_1.length c1_1], .int .i64 a0_1] (by rfl) rfl rfl zM ?_
     with_reducible refine (solve_row.calls k _ _ l1_0 _ _ l1_1 a0_1 t255 _ ?side1 ?side2 ?side3 ?side4 A4.out).mono ?_
     (case side1 => repeat (first | exact (Kd.C_below HR1_0.out HB.out) | (with_reducible refine Kd.C_alloc ?_ _) | (with_reducible refine Kd.C_drewN ?_ _) | (with_reducible refine Kd.C_drew ?_)))
     (case side2 => exact HC1_0.out)
     (case side3 => repeat (first | exact (Kd.C_below HR1_1.out HB.out) | (with_reducible refine Kd.C_alloc ?_ _) | (with_reducible refine Kd.C_drewN ?_ _) | (with_reducible refine Kd.C_drew ?_)))
     (case side4 => exact HC1_1.out)
     rintro e w13 ⟨rfl, hb⟩
     refine ⟨_, rfl, ?_⟩
     have n0_ := Aside0.mk (blk_below (g := gb252) (o := .cells #[.int .i64 a0_0, .int .i64 a0_1] 68 (0, 0)) (zk BK252) hb)
     have n1_ := Aside0.mk (blk_below (g := gb253) (o := .cells #[.slice A1_0 l1_0.length c1_0, .slice A1_1 l1_1.length c1_1] 61 (0, 0)) (zk BK253) hb)
     have n2_ := Aside0.mk (blk_below (g := gb256) (o := .cells #[.int .i64 0] 3 (0, 0)) (zk BK256) hb)
     have n3_ := Aside0.mk (blk_below (g := gb257) (o := .cells #[.int .i64 0] 3 (0, 0)) (zk BK257) hb)
     have n4_ := Aside0.mk (below_step zB hb)
     clear BK252
     clear BK253
     clear BK256
     clear BK257
     clear HB
     have BK252 := n0_
     have BK253 := n1_
     have BK256 := n2_
     have BK257 := n3_
     have HB := n4_
     clear n0_ n1_ n2_ n3_ n4_
     (try clear hb)
     (try clear hb2)
     (try clear hk)
     (try clear hi)
     refine hK.out _ _ ⟨(blk_cell BK253.out 0).trans rfl, (blk_cell BK253.out 1).trans rfl, (blk_cell BK252.out 0).trans rfl, (blk_cell BK252.out 1).trans rfl⟩ (fun hHeld => ?_)
     clear hK K
     refine norm_ (a' := ?_) ?_ ?_
     rotate_left
     ·show Act.put _ (some 14) _ = _
      simp only [Act.put, List.setIfInBounds_toArray, List.set_cons_zero, List.set_cons_succ, i64_w, i32_w]
      rfl
     exact norm_ (by first | (simp only [putAll, Act.put, List.setIfInBounds_toArray, List.set_cons_zero, List.set_cons_succ]; done) | (simp only [putAll, Act.put, List.setIfInBounds_toArray, List.set_cons_zero, List.set_cons_succ]; rfl)) (hJ3_7_8_9 (gb256, gb257) _ ⟨hHeld, (zk BK252), (zk BK253), (zk BK256), (zk BK257), GW256.out, GE256.out, NB252_256.out, NB256_252.out, NB253_256.out, NB256_253.out, NB257_256.out, NB256_257.out, GW257.out, GE257.out, NB252_257.out, NB257_252.out, NB253_257.out, NB257_253.out, zB⟩)
   ·skip
    rintro gb257 w12 ⟨hS_, h0_, h1_, h2_, h3_, h4_, h5_, h6_, h7_, h8_, h9_⟩
    have n0_ : Aside0 (w12.heap[gb252]? = some (.cells #[.int .i64 a0_0, .int .i64 a0_1] 68 (0, 0))) := ⟨h0_⟩
    have n1_ : Aside0 (w12.heap[gb253]? = some (.cells #[.slice A1_0 l1_0.length c1_0, .slice A1_1 l1_1.length c1_1] 61 (0, 0))) := ⟨h1_⟩
    have n2_ : Aside0 (w12.heap[gb257]? = some (.cells #[.int .i64 0] 3 (0, 0))) := ⟨h2_⟩
    have n3_ : Aside0 (w.heap.size ≤ gb257) := ⟨h3_⟩
    have n4_ : Aside0 (w.heap.size ≤ gb257) := ⟨h4_⟩
    have n5_ : Aside0 (gb252 ≠ gb257) := ⟨h5_⟩
    have n6_ : Aside0 (gb257 ≠ gb252) := ⟨h6_⟩
    have n7_ : Aside0 (gb253 ≠ gb257) := ⟨h7_⟩
    have n8_ : Aside0 (gb257 ≠ gb253) := ⟨h8_⟩
    have n9_ : Aside0 (Below w.heap.size w w12) := ⟨h9_⟩
    clear BK252
    clear BK253
    clear HB
    clear h0_ h1_ h2_ h3_ h4_ h5_ h6_ h7_ h8_ h9_
    have BK252 := n0_
    have BK253 := n1_
    have BK257 := n2_
    have GW257 := n3_
    have GE257 := n4_
    have NB252_257 := n5_
    have NB257_252 := n6_
    have NB253_257 := n7_
    have NB257_253 := n8_
    have HB := n9_
    clear n0_ n1_ n2_ n3_ n4_ n5_ n6_ n7_ n8_ n9_
    have hHeld : w12.cell? ⟨gb253, 0, none⟩ = some (.slice A1_0 l1_0.length c1_0) ∧ w12.cell? ⟨gb253, 1, none⟩ = some (.slice A1_1 l1_1.length c1_1) ∧ w12.cell? ⟨gb252, 0, none⟩ = some (.int .i64 a0_0) ∧ w12.cell? ⟨gb252, 1, none⟩ = some (.int .i64 a0_1) := hS_
    refine norm_ (a' := ?_) ?_ ?_
    rotate_left
    ·simp only [putAll, Act.put, List.setIfInBounds_toArray, List.set_cons_zero, List.set_cons_succ]
     rfl
    refine one_ (i := 8) (N := some 5) #[true, true, true, true, true, true, true, true, true, true, false, false] rfl rfl (one_of HT_.out zK) (by decide) (fun K hK => ?_)
    refine box_step ?hg (N := 5) ?hd (cs := #[.int .i64 0]) (t := 3) ?hr ?_; (case hd => rfl); (case hg => rfl); (case hr => first | (go_simp; done) | (go_simp; rfl))
    intro gb256 hg w13 hbox hb
    have n0_ := Aside0.mk (blk_below (g := gb252) (o := .cells #[.int .i64 a0_0, .int .i64 a0_1] 68 (0, 0)) (zk BK252) hb)
    have n1_ := Aside0.mk (blk_below (g := gb253) (o := .cells #[.slice A1_0 l1_0.length c1_0, .slice A1_1 l1_1.length c1_1] 61 (0, 0)) (zk BK253) hb)
    have n2_ := Aside0.mk (blk_below (g := gb257) (o := .cells #[.int .i64 0] 3 (0, 0)) (zk BK257) hb)
    have n3_ := Aside0.mk (below_step zB hb)
    have n4_ := Aside0.mk (hbox)
    have n5_ := Aside0.mk ((by rw [hg]; exact (below_size zB) : w.heap.size ≤ gb256))
    have n6_ := Aside0.mk ((by rw [hg]; exact (below_size zB) : w.heap.size ≤ gb256))
    have n7_ := Aside0.mk ((by rw [hg]; exact Nat.ne_of_lt (blk_lt (g := gb252) (o := .cells #[.int .i64 a0_0, .int .i64 a0_1] 68 (0, 0)) (zk BK252)) : gb252 ≠ gb256))
    have n8_ := Aside0.mk ((by rw [hg]; exact Nat.ne_of_gt (blk_lt (g := gb252) (o := .cells #[.int .i64 a0_0, .int .i64 a0_1] 68 (0, 0)) (zk BK252)) : gb256 ≠ gb252))
    have n9_ := Aside0.mk ((by rw [hg]; exact Nat.ne_of_lt (blk_lt (g := gb253) (o := .cells #[.slice A1_0 l1_0.length c1_0, .slice A1_1 l1_1.length c1_1] 61 (0, 0)) (zk BK253)) : gb253 ≠ gb256))
    have n10_ := Aside0.mk ((by rw [hg]; exact Nat.ne_of_gt (blk_lt (g := gb253) (o := .cells #[.slice A1_0 l1_0.length c1_0, .slice A1_1 l1_1.length c1_1] 61 (0, 0)) (zk BK253)) : gb256 ≠ gb253))
    have n11_ := Aside0.mk ((by rw [hg]; exact Nat.ne_of_lt (blk_lt (g := gb257) (o := .cells #[.int .i64 0] 3 (0, 0)) (zk BK257)) : gb257 ≠ gb256))
    have n12_ := Aside0.mk ((by rw [hg]; exact Nat.ne_of_gt (blk_lt (g := gb257) (o := .cells #[.int .i64 0] 3 (0, 0)) (zk BK257)) : gb256 ≠ gb257))
    clear BK252
    clear BK253
    clear BK257
    clear HB
    have BK252 := n0_
    have BK253 := n1_
    have BK257 := n2_
    have HB := n3_
    have BK256 := n4_
    have GW256 := n5_
    have GE256 := n6_
    have NB252_256 := n7_
    have NB256_252 := n8_
    have NB253_256 := n9_
    have NB256_253 := n10_
    have NB257_256 := n11_
    have NB256_257 := n12_
    clear n0_ n1_ n2_ n3_ n4_ n5_ n6_ n7_ n8_ n9_ n10_ n11_ n12_
    clear hb hbox hg
    refine hK.out _ _ ⟨(blk_cell BK253.out 0).trans rfl, (blk_cell BK253.out 1).trans rfl, (blk_cell BK252.out 0).trans rfl, (blk_cell BK252.out 1).trans rfl⟩ (fun hHeld => ?_)
    clear hK K
    refine norm_ (a' := ?_) ?_ ?_
    rotate_left
    ·show Act.put _ (some 5) _ = _
     simp only [Act.put, List.setIfInBounds_toArray, List.set_cons_zero, List.set_cons_succ, i64_w, i32_w]
     rfl
    exact norm_ (by first | (simp only [putAll, Act.put, List.setIfInBounds_toArray, List.set_cons_zero, List.set_cons_succ]; done) | (simp only [putAll, Act.put, List.setIfInBounds_toArray, List.set_cons_zero, List.set_cons_succ]; rfl)) (hJ3_7_8_9 (gb256, gb257) _ ⟨hHeld, (zk BK252), (zk BK253), (zk BK256), (zk BK257), GW256.out, GE256.out, NB252_256.out, NB256_252.out, NB253_256.out, NB256_253.out, NB257_256.out, NB256_257.out, GW257.out, GE257.out, NB252_257.out, NB257_252.out, NB253_257.out, NB257_253.out, zB⟩)
  ·skip
   rintro gb256 w12 ⟨hS_, h0_, h1_, h2_, h3_, h4_, h5_, h6_, h7_, h8_, h9_⟩
   have n0_ : Aside0 (w12.heap[gb252]? = some (.cells #[.int .i64 a0_0, .int .i64 a0_1] 68 (0, 0))) := ⟨h0_⟩
   have n1_ : Aside0 (w12.heap[gb253]? = some (.cells #[.slice A1_0 l1_0.length c1_0, .slice A1_1 l1_1.length c1_1] 61 (0, 0))) := ⟨h1_⟩
   have n2_ : Aside0 (w12.heap[gb256]? = some (.cells #[.int .i64 0] 3 (0, 0))) := ⟨h2_⟩
   have n3_ : Aside0 (w.heap.size ≤ gb256) := ⟨h3_⟩
   have n4_ : Aside0 (w.heap.size ≤ gb256) := ⟨h4_⟩
   have n5_ : Aside0 (gb252 ≠ gb256) := ⟨h5_⟩
   have n6_ : Aside0 (gb256 ≠ gb252) := ⟨h6_⟩
   have n7_ : Aside0 (gb253 ≠ gb256) := ⟨h7_⟩
   have n8_ : Aside0 (gb256 ≠ gb253) := ⟨h8_⟩
   have n9_ : Aside0 (Below w.heap.size w w12) := ⟨h9_⟩
   clear BK252
   clear BK253
   clear HB
   clear h0_ h1_ h2_ h3_ h4_ h5_ h6_ h7_ h8_ h9_
   have BK252 := n0_
   have BK253 := n1_
   have BK256 := n2_
   have GW256 := n3_
   have GE256 := n4_
   have NB252_256 := n5_
   have NB256_252 := n6_
   have NB253_256 := n7_
   have NB256_253 := n8_
   have HB := n9_
   clear n0_ n1_ n2_ n3_ n4_ n5_ n6_ n7_ n8_ n9_
   have hHeld : w12.cell? ⟨gb253, 0, none⟩ = some (.slice A1_0 l1_0.length c1_0) ∧ w12.cell? ⟨gb253, 1, none⟩ = some (.slice A1_1 l1_1.length c1_1) ∧ w12.cell? ⟨gb252, 0, none⟩ = some (.int .i64 a0_0) ∧ w12.cell? ⟨gb252, 1, none⟩ = some (.int .i64 a0_1) := hS_
   refine norm_ (a' := ?_) ?_ ?_
   rotate_left
   ·simp only [putAll, Act.put, List.setIfInBounds_toArray, List.set_cons_zero, List.set_cons_succ]
    rfl
   refine one_ (i := 9) (N := some 6) #[true, true, true, true, true, true, true, true, true, true, false, false] rfl rfl (one_of HT_.out zK) (by decide) (fun K hK => ?_)
   refine box_step ?hg (N := 6) ?hd (cs := #[.int .i64 0]) (t := 3) ?hr ?_; (case hd => rfl); (case hg => rfl); (case hr => first | (go_simp; done) | (go_simp; rfl))
   intro gb257 hg w13 hbox hb
   have n0_ := Aside0.mk (blk_below (g := gb252) (o := .cells #[.int .i64 a0_0, .int .i64 a0_1] 68 (0, 0)) (zk BK252) hb)
   have n1_ := Aside0.mk (blk_below (g := gb253) (o := .cells #[.slice A1_0 l1_0.length c1_0, .slice A1_1 l1_1.length c1_1] 61 (0, 0)) (zk BK253) hb)
   have n2_ := Aside0.mk (blk_below (g := gb256) (o := .cells #[.int .i64 0] 3 (0, 0)) (zk BK256) hb)
   have n3_ := Aside0.mk (below_step zB hb)
   have n4_ := Aside0.mk (hbox)
   have n5_ := Aside0.mk ((by rw [hg]; exact (below_size zB) : w.heap.size ≤ gb257))
   have n6_ := Aside0.mk ((by rw [hg]; exact (below_size zB) : w.heap.size ≤ gb257))
   have n7_ := Aside0.mk ((by rw [hg]; exact Nat.ne_of_lt (blk_lt (g := gb252) (o := .cells #[.int .i64 a0_0, .int .i64 a0_1] 68 (0, 0)) (zk BK252)) : gb252 ≠ gb257))
   have n8_ := Aside0.mk ((by rw [hg]; exact Nat.ne_of_gt (blk_lt (g := gb252) (o := .cells #[.int .i64 a0_0, .int .i64 a0_1] 68 (0, 0)) (zk BK252)) : gb257 ≠ gb252))
   have n9_ := Aside0.mk ((by rw [hg]; exact Nat.ne_of_lt (blk_lt (g := gb253) (o := .cells #[.slice A1_0 l1_0.length c1_0, .slice A1_1 l1_1.length c1_1] 61 (0, 0)) (zk BK253)) : gb253 ≠ gb257))
   have n10_ := Aside0.mk ((by rw [hg]; exact Nat.ne_of_gt (blk_lt (g := gb253) (o := .cells #[.slice A1_0 l1_0.length c1_0, .slice A1_1 l1_1.length c1_1] 61 (0, 0)) (zk BK253)) : gb257 ≠ gb253))
   have n11_ := Aside0.mk ((by rw [hg]; exact Nat.ne_of_lt (blk_lt (g := gb256) (o := .cells #[.int .i64 0] 3 (0, 0)) (zk BK256)) : gb256 ≠ gb257))
   have n12_ := Aside0.mk ((by rw [hg]; exact Nat.ne_of_gt (blk_lt (g := gb256) (o := .cells #[.int .i64 0] 3 (0, 0)) (zk BK256)) : gb257 ≠ gb256))
   clear BK252
   clear BK253
   clear BK256
   clear HB
   have BK252 := n0_
   have BK253 := n1_
   have BK256 := n2_
   have HB := n3_
   have BK257 := n4_
   have GW257 := n5_
   have GE257 := n6_
   have NB252_257 := n7_
   have NB257_252 := n8_
   have NB253_257 := n9_
   have NB257_253 := n10_
   have NB256_257 := n11_
   have NB257_256 := n12_
   clear n0_ n1_ n2_ n3_ n4_ n5_ n6_ n7_ n8_ n9_ n10_ n11_ n12_
   clear hb hbox hg
   refine hK.out _ _ ⟨(blk_cell BK253.out 0).trans rfl, (blk_cell BK253.out 1).trans rfl, (blk_cell BK252.out 0).trans rfl, (blk_cell BK252.out 1).trans rfl⟩ (fun hHeld => ?_)
   clear hK K
   refine norm_ (a' := ?_) ?_ ?_
   rotate_left
   ·show Act.put _ (some 6) _ = _
    simp only [Act.put, List.setIfInBounds_toArray, List.set_cons_zero, List.set_cons_succ, i64_w, i32_w]
    rfl
   exact norm_ (by first | (simp only [putAll, Act.put, List.setIfInBounds_toArray, List.set_cons_zero, List.set_cons_succ]; done) | (simp only [putAll, Act.put, List.setIfInBounds_toArray, List.set_cons_zero, List.set_cons_succ]; rfl)) (hJ3_7_8_9 (gb256, gb257) _ ⟨hHeld, (zk BK252), (zk BK253), (zk BK256), (zk BK257), GW256.out, GE256.out, NB252_256.out, NB256_252.out, NB253_256.out, NB256_253.out, NB257_256.out, NB256_257.out, GW257.out, GE257.out, NB252_257.out, NB257_252.out, NB253_257.out, NB257_253.out, zB⟩)
 rintro ⟨gb256, gb257⟩ w13 ⟨hS_, h0_, h1_, h2_, h3_, h4_, h5_, h6_, h7_, h8_, h9_, h10_, h11_, h12_, h13_, h14_, h15_, h16_, h17_, h18_⟩
 have n0_ : Aside0 (w13.heap[gb252]? = some (.cells #[.int .i64 a0_0, .int .i64 a0_1] 68 (0, 0))) := ⟨h0_⟩
 have n1_ : Aside0 (w13.heap[gb253]? = some (.cells #[.slice A1_0 l1_0.length c1_0, .slice A1_1 l1_1.length c1_1] 61 (0, 0))) := ⟨h1_⟩
 have n2_ : Aside0 (w13.heap[gb256]? = some (.cells #[.int .i64 0] 3 (0, 0))) := ⟨h2_⟩
 have n3_ : Aside0 (w13.heap[gb257]? = some (.cells #[.int .i64 0] 3 (0, 0))) := ⟨h3_⟩
 have n4_ : Aside0 (w.heap.size ≤ gb256) := ⟨h4_⟩
 have n5_ : Aside0 (w.heap.size ≤ gb256) := ⟨h5_⟩
 have n6_ : Aside0 (gb252 ≠ gb256) := ⟨h6_⟩
 have n7_ : Aside0 (gb256 ≠ gb252) := ⟨h7_⟩
 have n8_ : Aside0 (gb253 ≠ gb256) := ⟨h8_⟩
 have n9_ : Aside0 (gb256 ≠ gb253) := ⟨h9_⟩
 have n10_ : Aside0 (gb257 ≠ gb256) := ⟨h10_⟩
 have n11_ : Aside0 (gb256 ≠ gb257) := ⟨h11_⟩
 have n12_ : Aside0 (w.heap.size ≤ gb257) := ⟨h12_⟩
 have n13_ : Aside0 (w.heap.size ≤ gb257) := ⟨h13_⟩
 have n14_ : Aside0 (gb252 ≠ gb257) := ⟨h14_⟩
 have n15_ : Aside0 (gb257 ≠ gb252) := ⟨h15_⟩
 have n16_ : Aside0 (gb253 ≠ gb257) := ⟨h16_⟩
 have n17_ : Aside0 (gb257 ≠ gb253) := ⟨h17_⟩
 have n18_ : Aside0 (Below w.heap.size w w13) := ⟨h18_⟩
 clear BK252
 clear BK253
 clear HB
 clear h0_ h1_ h2_ h3_ h4_ h5_ h6_ h7_ h8_ h9_ h10_ h11_ h12_ h13_ h14_ h15_ h16_ h17_ h18_
 have BK252 := n0_
 have BK253 := n1_
 have BK256 := n2_
 have BK257 := n3_
 have GW256 := n4_
 have GE256 := n5_
 have NB252_256 := n6_
 have NB256_252 := n7_
 have NB253_256 := n8_
 have NB256_253 := n9_
 have NB257_256 := n10_
 have NB256_257 := n11_
 have GW257 := n12_
 have GE257 := n13_
 have NB252_257 := n14_
 have NB257_252 := n15_
 have NB253_257 := n16_
 have NB257_253 := n17_
 have HB := n18_
 clear n0_ n1_ n2_ n3_ n4_ n5_ n6_ n7_ n8_ n9_ n10_ n11_ n12_ n13_ n14_ n15_ n16_ n17_ n18_
 have hHeld : w13.cell? ⟨gb253, 0, none⟩ = some (.slice A1_0 l1_0.length c1_0) ∧ w13.cell? ⟨gb253, 1, none⟩ = some (.slice A1_1 l1_1.length c1_1) ∧ w13.cell? ⟨gb252, 0, none⟩ = some (.int .i64 a0_0) ∧ w13.cell? ⟨gb252, 1, none⟩ = some (.int .i64 a0_1) := hS_
 refine norm_ (a' := ?_) ?_ ?_
 rotate_left
 ·simp only [putAll, Act.put, List.setIfInBounds_toArray, List.set_cons_zero, List.set_cons_succ]
  rfl
 refine one_ (i := 10) (N := none) #[true, true, true, true, true, true, true, true, true, true, true, false] rfl rfl (one_of HT_.out zK) (by decide) (fun K hK => ?_)
 have hs14 : w13.cell? ⟨gb256, 0, none⟩ = some (.int .i64 0) := (blk_cell BK256.out 0).trans rfl
 have hfs14 := blk_frozen BK256.out 0
 have hns14_0 := NB252_256.out
 have hns14_1 := NB253_256.out
 have hns14_3 := NB257_256.out
 have hms14_0 := NB256_252.out
 have hms14_1 := NB256_253.out
 have hms14_3 := NB256_257.out
 refine skip_ (w1 := ?_) (by rfl) rfl ?_ ?_
 rotate_left
 ·go_simp
  rfl
 refine hK.out _ _ ⟨((cell_far (p := ⟨gb256, _, none⟩) NB253_256.out _).trans (hHeld.1)), ((cell_far (p := ⟨gb256, _, none⟩) NB253_256.out _).trans (hHeld.2.1)), ((cell_far (p := ⟨gb256, _, none⟩) NB252_256.out _).trans (hHeld.2.2.1)), ((cell_far (p := ⟨gb256, _, none⟩) NB252_256.out _).trans (hHeld.2.2.2))⟩ (fun hHeld => ?_)
 clear hK K
 refine one_ (i := 11) (N := none) #[true, true, true, true, true, true, true, true, true, true, true, true] rfl rfl (one_of HT_.out zK) (by decide) (fun K hK => ?_)
 have hs15 : w13.cell? ⟨gb257, 0, none⟩ = some (.int .i64 0) := (blk_cell BK257.out 0).trans rfl
 have hfs15 := blk_frozen BK257.out 0
 have hns15_0 := NB252_257.out
 have hns15_1 := NB253_257.out
 have hns15_2 := NB256_257.out
 have hms15_0 := NB257_252.out
 have hms15_1 := NB257_253.out
 have hms15_2 := NB257_256.out
 refine skip_ (w1 := ?_) (by rfl) rfl ?_ ?_
 rotate_left
 ·go_simp
  rfl
 refine hK.out _ _ ⟨((cell_far (p := ⟨gb257, _, none⟩) NB253_257.out _).trans (hHeld.1)), ((cell_far (p := ⟨gb257, _, none⟩) NB253_257.out _).trans (hHeld.2.1)), ((cell_far (p := ⟨gb257, _, none⟩) NB252_257.out _).trans (hHeld.2.2.1)), ((cell_far (p := ⟨gb257, _, none⟩) NB252_257.out _).trans (hHeld.2.2.2))⟩ (fun hHeld => ?_)
 clear hK K
 refine done_ (done_of HT_.out zK) ?_
 have hnb16 := NB253_252.out
 have hnc16 := NB252_253.out
 have hnb17 := NB253_256.out
 have hnc17 := NB256_253.out
 have hnb18 := NB253_257.out
 have hnc18 := NB257_253.out
 have hcz19_0 : w13.cell? ⟨gb253, 0, none⟩ = some (.slice A1_0 l1_0.length c1_0) := (blk_cell BK253.out 0).trans rfl
 have hcz19_1 : w13.cell? ⟨gb253, 1, none⟩ = some (.slice A1_1 l1_1.length c1_1) := (blk_cell BK253.out 1).trans rfl
 have hfz19_0 := blk_frozen BK253.out 0
 have hfz19_1 := blk_frozen BK253.out 1
 try go_wp2_with (first | ((with_reducible refine gate_callee (f := 123) rfl ?_); refine goesL_ (some 18) rfl rfl Try.func123 zK rfl #[.slice A1_1 l1_1.length c1_1, .func (.func 124) #[] #[.pointer (some ⟨gb256, 0, none⟩), .pointer (some ⟨gb257, 0, none⟩)]] rfl zM ?_; (with_reducible refine (slices_ContainsFunc_int_int_solve_choices_fails_1.calls k _ _ l1_1 gb256 gb257 t254 t255 t258 _ ?side1 ?side2 ?side3 ?side4 A5.out).mono ?_); (case side1 => exact Kd.C_below HR1_1.out zB); (case side2 => exact HC1_1.out); (case side3 => (with_reducible repeat (first | refine blk_drewN ?_ _ | refine blk_drew ?_ | refine blk_alloc ?_ _)); refine blk_far ?_ NB256_257.out _; (with_reducible repeat (first | refine blk_drewN ?_ _ | refine blk_drew ?_ | refine blk_alloc ?_ _)); refine blk_put (cs := #[.int .i64 0]) ?_ 0 _ rfl; (with_reducible repeat (first | refine blk_drewN ?_ _ | refine blk_drew ?_ | refine blk_alloc ?_ _)); exact BK256.out); (case side4 => (with_reducible repeat (first | refine blk_drewN ?_ _ | refine blk_drew ?_ | refine blk_alloc ?_ _)); refine blk_put (cs := #[.int .i64 0]) ?_ 0 _ rfl; (with_reducible repeat (first | refine blk_drewN ?_ _ | refine blk_drew ?_ | refine blk_alloc ?_ _)); refine blk_far ?_ NB257_256.out _; (with_reducible repeat (first | refine blk_drewN ?_ _ | refine blk_drew ?_ | refine blk_alloc ?_ _)); exact BK257.out); rintro e w20 ⟨rfl, hb⟩; refine ⟨_, rfl, ?_⟩; have n0_ := Aside0.mk (blk_below (g := gb252) (o := .cells #[.int .i64 a0_0, .int .i64 a0_1] 68 (0, 0)) (by (with_reducible repeat (first | refine blk_drewN ?_ _ | refine blk_drew ?_ | refine blk_alloc ?_ _)); refine blk_far ?_ NB252_257.out _; (with_reducible repeat (first | refine blk_drewN ?_ _ | refine blk_drew ?_ | refine blk_alloc ?_ _)); refine blk_far ?_ NB252_256.out _; (with_reducible repeat (first | refine blk_drewN ?_ _ | refine blk_drew ?_ | refine blk_alloc ?_ _)); exact BK252.out) hb); have n1_ := Aside0.mk (blk_below (g := gb253) (o := .cells #[.slice A1_0 l1_0.length c1_0, .slice A1_1 l1_1.length c1_1] 61 (0, 0)) (by (with_reducible repeat (first | refine blk_drewN ?_ _ | refine blk_drew ?_ | refine blk_alloc ?_ _)); refine blk_far ?_ NB253_257.out _; (with_reducible repeat (first | refine blk_drewN ?_ _ | refine blk_drew ?_ | refine blk_alloc ?_ _)); refine blk_far ?_ NB253_256.out _; (with_reducible repeat (first | refine blk_drewN ?_ _ | refine blk_drew ?_ | refine blk_alloc ?_ _)); exact BK253.out) hb); have n2_ := Aside0.mk (blk_below (g := gb256) (o := .cells #[.int .i64 t254] 3 (0, 0)) (by (with_reducible repeat (first | refine blk_drewN ?_ _ | refine blk_drew ?_ | refine blk_alloc ?_ _)); refine blk_far ?_ NB256_257.out _; (with_reducible repeat (first | refine blk_drewN ?_ _ | refine blk_drew ?_ | refine blk_alloc ?_ _)); refine blk_put (cs := #[.int .i64 0]) ?_ 0 _ rfl; (with_reducible repeat (first | refine blk_drewN ?_ _ | refine blk_drew ?_ | refine blk_alloc ?_ _)); exact BK256.out) hb); have n3_ := Aside0.mk (blk_below (g := gb257) (o := .cells #[.int .i64 t255] 3 (0, 0)) (by (with_reducible repeat (first | refine blk_drewN ?_ _ | refine blk_drew ?_ | refine blk_alloc ?_ _)); refine blk_put (cs := #[.int .i64 0]) ?_ 0 _ rfl; (with_reducible repeat (first | refine blk_drewN ?_ _ | refine blk_drew ?_ | refine blk_alloc ?_ _)); refine blk_far ?_ NB257_256.out _; (with_reducible repeat (first | refine blk_drewN ?_ _ | refine blk_drew ?_ | refine blk_alloc ?_ _)); exact BK257.out) hb); have n4_ := Aside0.mk (below_step zB hb); clear BK252; clear BK253; clear BK256; clear BK257; clear HB; have BK252 := n0_; have BK253 := n1_; have BK256 := n2_; have BK257 := n3_; have HB := n4_; clear n0_ n1_ n2_ n3_ n4_; (try clear hb); (try clear hb2); (try clear hk); (try clear hi)))
 go_ret
 exact ⟨by first | rfl | (simp [errW_none, errW_some] <;> rfl) | (simp [*, errW_none, errW_some] <;> rfl), by repeat (first | (with_reducible first | exact HB.out | apply below_alloc | apply pw_below_drewN | apply below_drew1 | refine below_set ?_ GE252.out | refine below_set ?_ GE253.out | refine below_set ?_ GE256.out | refine below_set ?_ GE257.out) | exact HB.out)⟩
end Go.Proofs.Ytbagnalcabdlhaa.S
