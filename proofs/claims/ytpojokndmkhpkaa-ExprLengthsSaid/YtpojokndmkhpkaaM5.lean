-- Written by wip/tools/myprint.py, a program of this session's.
import Derived.Test.YtpojokndmkhpkaaM0
import Derived.Test.YtpojokndmkhpkaaM1
import Derived.Test.YtpojokndmkhpkaaM3
import Derived.Test.YtpojokndmkhpkaaM4
namespace Go.Proofs.Ytpojokndmkhpkaa.M
open Go.RowKit Go.Proofs.YtpojokndmkhpkaaW.PrintWords Go.Proofs.YtpojokndmkhpkaaW.PrintLast Go.Proofs.YtpojokndmkhpkaaW.PrintMore
attribute [local go_sem] max2_int min2_int max_two min_two max_three min_three max_four min_four   -- for this text's walks alone
set_option linter.unusedVariables false
set_option linter.unusedSimpArgs false
/-! ### ancepsref08_lengths: function 41 -/
mutual
def ancepsref08_lengths.l0 : Nat → Int → Int → Int → Int → Int → Int → List (S24) → Option (Int × Int × Bool)
 | 0, _, _, _, _, _, _, _ => none
 | k + 1, x5, x6, x7, x174000, x174001, x174002, x174003 => if x7 < (x174003.length : Int) then (if 0 ≤ x7 then ((ancepsref08_lengths.f k ((rd_T24 x174003 x7).f0) ((rd_T24 x174003 x7).f1) ((rd_T24 x174003 x7).f2) ((rd_T24 x174003 x7).f3)).bind fun bt175 => (if bt175.2.2 = true then (if bt175.2.1 < 0 then (ancepsref08_lengths.l0 k (wrap64 (x5 + bt175.1)) (-1) (wrap64 (x7 + 1)) x174000 x174001 x174002 x174003) else (if x6 < 0 then (ancepsref08_lengths.l0 k (wrap64 (x5 + bt175.1)) (-1) (wrap64 (x7 + 1)) x174000 x174001 x174002 x174003) else (ancepsref08_lengths.l0 k (wrap64 (x5 + bt175.1)) (wrap64 (x6 + bt175.2.1)) (wrap64 (x7 + 1)) x174000 x174001 x174002 x174003))) else (some (0, 0, false)))) else (none)) else (some (x5, x6, true))
def ancepsref08_lengths.l1 : Nat → Int → Int → Bool → Int → Int → Int → Int → List (S24) → Option (Int × Int × Bool)
 | 0, _, _, _, _, _, _, _, _ => none
 | k + 1, x11, x12, x13, x14, x174000, x174001, x174002, x174003 => if x14 < (x174003.length : Int) then (if 0 ≤ x14 then ((ancepsref08_lengths.f k ((rd_T24 x174003 x14).f0) ((rd_T24 x174003 x14).f1) ((rd_T24 x174003 x14).f2) ((rd_T24 x174003 x14).f3)).bind fun bt179 => (if bt179.2.2 = true then (if x13 = true then (if bt179.1 < x11 then (if x12 ≥ 0 then (if bt179.2.1 < 0 then (ancepsref08_lengths.l1 k bt179.1 bt179.2.1 true (wrap64 (x14 + 1)) x174000 x174001 x174002 x174003) else (if bt179.2.1 > x12 then (ancepsref08_lengths.l1 k bt179.1 bt179.2.1 true (wrap64 (x14 + 1)) x174000 x174001 x174002 x174003) else (ancepsref08_lengths.l1 k bt179.1 x12 true (wrap64 (x14 + 1)) x174000 x174001 x174002 x174003))) else (ancepsref08_lengths.l1 k bt179.1 x12 true (wrap64 (x14 + 1)) x174000 x174001 x174002 x174003)) else (if x12 ≥ 0 then (if bt179.2.1 < 0 then (ancepsref08_lengths.l1 k x11 bt179.2.1 true (wrap64 (x14 + 1)) x174000 x174001 x174002 x174003) else (if bt179.2.1 > x12 then (ancepsref08_lengths.l1 k x11 bt179.2.1 true (wrap64 (x14 + 1)) x174000 x174001 x174002 x174003) else (ancepsref08_lengths.l1 k x11 x12 true (wrap64 (x14 + 1)) x174000 x174001 x174002 x174003))) else (ancepsref08_lengths.l1 k x11 x12 true (wrap64 (x14 + 1)) x174000 x174001 x174002 x174003))) else (ancepsref08_lengths.l1 k bt179.1 bt179.2.1 true (wrap64 (x14 + 1)) x174000 x174001 x174002 x174003)) else (ancepsref08_lengths.l1 k x11 x12 x13 (wrap64 (x14 + 1)) x174000 x174001 x174002 x174003))) else (none)) else (some (x11, x12, x13))
def ancepsref08_lengths.f : Nat → Int → Int → Int → List (S24) → Option (Int × Int × Bool)
 | 0, _, _, _, _ => none
 | k + 1, a0_0, a0_1, a0_2, l0_3 => if a0_0 = 1 then (some (1, 1, (a0_1 != 0))) else (if a0_0 = 2 then (ancepsref08_lengths.l0 k 0 0 0 a0_0 a0_1 a0_2 l0_3) else (if a0_0 = 3 then (ancepsref08_lengths.l1 k 0 0 false 0 a0_0 a0_1 a0_2 l0_3) else (if a0_0 = 4 then (if 0 < (l0_3.length : Int) then ((ancepsref08_lengths.f k ((rd_T24 l0_3 0).f0) ((rd_T24 l0_3 0).f1) ((rd_T24 l0_3 0).f2) ((rd_T24 l0_3 0).f3)).bind fun bt183 => (if a0_2 = 0 then (some (0, 0, true)) else (if bt183.2.1 > 0 then (some (wrap64 (bt183.1 * a0_2), wrap64 (bt183.2.1 * a0_2), bt183.2.2)) else (some (wrap64 (bt183.1 * a0_2), bt183.2.1, bt183.2.2))))) else (none)) else (if 0 < (l0_3.length : Int) then ((ancepsref08_lengths.f k ((rd_T24 l0_3 0).f0) ((rd_T24 l0_3 0).f1) ((rd_T24 l0_3 0).f2) ((rd_T24 l0_3 0).f3)).bind fun bt187 => (if bt187.2.2 = true then (if a0_0 = 5 then (if bt187.2.1 = 0 then (some (0, bt187.2.1, true)) else (some (0, (-1), true))) else (some (0, bt187.2.1, true))) else (some (0, 0, true)))) else (none)))))
end
theorem ancepsref08_lengths.mono_l : ∀ k, (∀ y0 y1 y2 y3, LeO (ancepsref08_lengths.f k y0 y1 y2 y3) (ancepsref08_lengths.f (k + 1) y0 y1 y2 y3)) ∧ (∀ y0 y1 y2 y3 y4 y5 y6, LeO (ancepsref08_lengths.l0 k y0 y1 y2 y3 y4 y5 y6) (ancepsref08_lengths.l0 (k + 1) y0 y1 y2 y3 y4 y5 y6)) ∧ (∀ y0 y1 y2 y3 y4 y5 y6 y7, LeO (ancepsref08_lengths.l1 k y0 y1 y2 y3 y4 y5 y6 y7) (ancepsref08_lengths.l1 (k + 1) y0 y1 y2 y3 y4 y5 y6 y7))
 | 0 => ⟨fun _ _ _ _ r h => by simp [ancepsref08_lengths.f] at h, fun _ _ _ _ _ _ _ r h => by simp [ancepsref08_lengths.l0] at h, fun _ _ _ _ _ _ _ _ r h => by simp [ancepsref08_lengths.l1] at h⟩
 | k + 1 => by
  obtain ⟨ih0, ih1, ih2⟩ := ancepsref08_lengths.mono_l k
  refine ⟨?_, ?_, ?_⟩
  ·intro y0 y1 y2 y3
   unfold ancepsref08_lengths.f
   repeat' first
   | (with_reducible exact ih0 _ _ _ _)
   | (with_reducible exact ih1 _ _ _ _ _ _ _)
   | (with_reducible exact ih2 _ _ _ _ _ _ _ _)
   | (with_reducible exact LeO.refl _)
   | (with_reducible exact LeO.none _)
   | (with_reducible refine LeO.ite ?_ ?_)
   | (with_reducible refine LeO.bind ?_ (fun _ => ?_))
   | exact ih0 _ _ _ _
   | exact ih1 _ _ _ _ _ _ _
   | exact ih2 _ _ _ _ _ _ _ _
   | exact LeO.none _
   | refine LeO.ite ?_ ?_
   | refine LeO.bind ?_ (fun _ => ?_)
  ·intro y0 y1 y2 y3 y4 y5 y6
   unfold ancepsref08_lengths.l0
   repeat' first
   | (with_reducible exact ih0 _ _ _ _)
   | (with_reducible exact ih1 _ _ _ _ _ _ _)
   | (with_reducible exact ih2 _ _ _ _ _ _ _ _)
   | (with_reducible exact LeO.refl _)
   | (with_reducible exact LeO.none _)
   | (with_reducible refine LeO.ite ?_ ?_)
   | (with_reducible refine LeO.bind ?_ (fun _ => ?_))
   | exact ih0 _ _ _ _
   | exact ih1 _ _ _ _ _ _ _
   | exact ih2 _ _ _ _ _ _ _ _
   | exact LeO.none _
   | refine LeO.ite ?_ ?_
   | refine LeO.bind ?_ (fun _ => ?_)
  ·intro y0 y1 y2 y3 y4 y5 y6 y7
   unfold ancepsref08_lengths.l1
   repeat' first
   | (with_reducible exact ih0 _ _ _ _)
   | (with_reducible exact ih1 _ _ _ _ _ _ _)
   | (with_reducible exact ih2 _ _ _ _ _ _ _ _)
   | (with_reducible exact LeO.refl _)
   | (with_reducible exact LeO.none _)
   | (with_reducible refine LeO.ite ?_ ?_)
   | (with_reducible refine LeO.bind ?_ (fun _ => ?_))
   | exact ih0 _ _ _ _
   | exact ih1 _ _ _ _ _ _ _
   | exact ih2 _ _ _ _ _ _ _ _
   | exact LeO.none _
   | refine LeO.ite ?_ ?_
   | refine LeO.bind ?_ (fun _ => ?_)
theorem ancepsref08_lengths.mono : ∀ a0 a1 a2 a3 k, LeO (ancepsref08_lengths.f k a0 a1 a2 a3) (ancepsref08_lengths.f (k + 1) a0 a1 a2 a3) := by
 intro a0 a1 a2 a3 k
 obtain ⟨ih0, ih1, ih2⟩ := ancepsref08_lengths.mono_l k
 exact ih0 a0 a1 a2 a3
set_option maxHeartbeats 8000000 in
set_option maxRecDepth 100000 in
theorem ancepsref08_lengths.calls (k : Nat) : ∀ (a0_0 : Int) (a0_1 : Int) (a0_2 : Int) (A0_3 : Option Addr) (c0_3 : Nat) (l0_3 : List (S24)) (r1 : Int) (r2 : Int) (r3 : Bool) (w : World) (hr0_3 : Kd.C k24 w A0_3 l0_3.length l0_3) (hc0_3 : l0_3.length ≤ c0_3) (h : ancepsref08_lengths.f k a0_0 a0_1 a0_2 l0_3 = some (r1, r2, r3)),
  Calls Try.prog 41 #[.agg #[.int .i64 a0_0, .int .i64 a0_1, .int .i64 a0_2, .slice A0_3 l0_3.length c0_3]] w fun e w' => e = .returned (.tuple #[.int .i64 r1, .int .i64 r2, .bool r3]) ∧ Below w.heap.size w w' := by
 induction k using Nat.strongRecOn with
 | _ k ih =>
 intro a0_0 a0_1 a0_2 A0_3 c0_3 l0_3 r1 r2 r3 w hr0_3 hc0_3 h
 cases k with
 | zero => exact absurd h (by simp [ancepsref08_lengths.f])
 | succ k =>
 simp only [ancepsref08_lengths.f] at h
 have hu24 := Try.underlying24
 have hu3 := Try.underlying3
 have hu22 := Try.underlying22
 have HR0_3 := Aside0.mk hr0_3
 have HC0_3 := Aside0.mk hc0_3
 clear hr0_3 hc0_3
 have HB := Aside0.mk (Below.refl w.heap.size w)
 have H : (if a0_0 = 1 then (some (1, 1, (a0_1 != 0))) else (if a0_0 = 2 then (ancepsref08_lengths.l0 k 0 0 0 a0_0 a0_1 a0_2 l0_3) else (if a0_0 = 3 then (ancepsref08_lengths.l1 k 0 0 false 0 a0_0 a0_1 a0_2 l0_3) else (if a0_0 = 4 then (if 0 < (l0_3.length : Int) then ((ancepsref08_lengths.f k ((rd_T24 l0_3 0).f0) ((rd_T24 l0_3 0).f1) ((rd_T24 l0_3 0).f2) ((rd_T24 l0_3 0).f3)).bind fun bt183 => (if a0_2 = 0 then (some (0, 0, true)) else (if bt183.2.1 > 0 then (some (wrap64 (bt183.1 * a0_2), wrap64 (bt183.2.1 * a0_2), bt183.2.2)) else (some (wrap64 (bt183.1 * a0_2), bt183.2.1, bt183.2.2))))) else (none)) else (if 0 < (l0_3.length : Int) then ((ancepsref08_lengths.f k ((rd_T24 l0_3 0).f0) ((rd_T24 l0_3 0).f1) ((rd_T24 l0_3 0).f2) ((rd_T24 l0_3 0).f3)).bind fun bt187 => (if bt187.2.2 = true then (if a0_0 = 5 then (if bt187.2.1 = 0 then (some (0, bt187.2.1, true)) else (some (0, (-1), true))) else (some (0, bt187.2.1, true))) else (some (0, 0, true)))) else (none)))))) = some (r1, r2, r3) := h
 clear h
 have HC2 := Aside0.mk H
 clear H
 go_enter Try.func41, Try.ntmps41
 go_upto_if 26 with (first | ((with_reducible refine gate_dst (N := 1) rfl ?_); refine box_event ?hg (N := 1) ?hd (cs := #[.int .i64 a0_0, .int .i64 a0_1, .int .i64 a0_2, .slice A0_3 l0_3.length c0_3]) (t := 24) ?hr ?_; (case hd => rfl); (case hg => rfl); (case hr => first | (go_simp; done) | (go_simp; rfl)); intro gb173 hg w3 hbox hb; have n0_ := Aside0.mk (below_step zB hb); have n1_ := Aside0.mk (hbox); have n2_ := Aside0.mk ((by rw [hg]; exact (below_size zB) : w.heap.size ≤ gb173)); have n3_ := Aside0.mk ((by rw [hg]; exact (below_size zB) : w.heap.size ≤ gb173)); clear HB; have HB := n0_; have BK173 := n1_; have GW173 := n2_; have GE173 := n3_; clear n0_ n1_ n2_ n3_; clear hb hbox hg; have hcz4_0 : w3.cell? ⟨gb173, 0, none⟩ = some (.int .i64 a0_0) := (blk_cell BK173.out 0).trans rfl; have hcz4_1 : w3.cell? ⟨gb173, 1, none⟩ = some (.int .i64 a0_1) := (blk_cell BK173.out 1).trans rfl; have hcz4_2 : w3.cell? ⟨gb173, 2, none⟩ = some (.int .i64 a0_2) := (blk_cell BK173.out 2).trans rfl; have hcz4_3 : w3.cell? ⟨gb173, 3, none⟩ = some (.slice A0_3 l0_3.length c0_3) := (blk_cell BK173.out 3).trans rfl; have hfz4_0 := blk_frozen BK173.out 0; have hfz4_1 := blk_frozen BK173.out 1; have hfz4_2 := blk_frozen BK173.out 2; have hfz4_3 := blk_frozen BK173.out 3))
 repeat (go_quiet (first | ((with_reducible refine gate_dst (N := 1) rfl ?_); refine box_event ?hg (N := 1) ?hd (cs := #[.int .i64 a0_0, .int .i64 a0_1, .int .i64 a0_2, .slice A0_3 l0_3.length c0_3]) (t := 24) ?hr ?_; (case hd => rfl); (case hg => rfl); (case hr => first | (go_simp; done) | (go_simp; rfl)); intro gb173 hg w3 hbox hb; have n0_ := Aside0.mk (below_step zB hb); have n1_ := Aside0.mk (hbox); have n2_ := Aside0.mk ((by rw [hg]; exact (below_size zB) : w.heap.size ≤ gb173)); have n3_ := Aside0.mk ((by rw [hg]; exact (below_size zB) : w.heap.size ≤ gb173)); clear HB; have HB := n0_; have BK173 := n1_; have GW173 := n2_; have GE173 := n3_; clear n0_ n1_ n2_ n3_; clear hb hbox hg; have hcz4_0 : w3.cell? ⟨gb173, 0, none⟩ = some (.int .i64 a0_0) := (blk_cell BK173.out 0).trans rfl; have hcz4_1 : w3.cell? ⟨gb173, 1, none⟩ = some (.int .i64 a0_1) := (blk_cell BK173.out 1).trans rfl; have hcz4_2 : w3.cell? ⟨gb173, 2, none⟩ = some (.int .i64 a0_2) := (blk_cell BK173.out 2).trans rfl; have hcz4_3 : w3.cell? ⟨gb173, 3, none⟩ = some (.slice A0_3 l0_3.length c0_3) := (blk_cell BK173.out 3).trans rfl; have hfz4_0 := blk_frozen BK173.out 0; have hfz4_1 := blk_frozen BK173.out 1; have hfz4_2 := blk_frozen BK173.out 2; have hfz4_3 := blk_frozen BK173.out 3)); go_upto_if 26 with (first | ((with_reducible refine gate_dst (N := 1) rfl ?_); refine box_event ?hg (N := 1) ?hd (cs := #[.int .i64 a0_0, .int .i64 a0_1, .int .i64 a0_2, .slice A0_3 l0_3.length c0_3]) (t := 24) ?hr ?_; (case hd => rfl); (case hg => rfl); (case hr => first | (go_simp; done) | (go_simp; rfl)); intro gb173 hg w3 hbox hb; have n0_ := Aside0.mk (below_step zB hb); have n1_ := Aside0.mk (hbox); have n2_ := Aside0.mk ((by rw [hg]; exact (below_size zB) : w.heap.size ≤ gb173)); have n3_ := Aside0.mk ((by rw [hg]; exact (below_size zB) : w.heap.size ≤ gb173)); clear HB; have HB := n0_; have BK173 := n1_; have GW173 := n2_; have GE173 := n3_; clear n0_ n1_ n2_ n3_; clear hb hbox hg; have hcz4_0 : w3.cell? ⟨gb173, 0, none⟩ = some (.int .i64 a0_0) := (blk_cell BK173.out 0).trans rfl; have hcz4_1 : w3.cell? ⟨gb173, 1, none⟩ = some (.int .i64 a0_1) := (blk_cell BK173.out 1).trans rfl; have hcz4_2 : w3.cell? ⟨gb173, 2, none⟩ = some (.int .i64 a0_2) := (blk_cell BK173.out 2).trans rfl; have hcz4_3 : w3.cell? ⟨gb173, 3, none⟩ = some (.slice A0_3 l0_3.length c0_3) := (blk_cell BK173.out 3).trans rfl; have hfz4_0 := blk_frozen BK173.out 0; have hfz4_1 := blk_frozen BK173.out 1; have hfz4_2 := blk_frozen BK173.out 2; have hfz4_3 := blk_frozen BK173.out 3)))
 (try simp only [Act.put, List.setIfInBounds_toArray, List.set_cons_zero, List.set_cons_succ])
 have H := HC2.out
 clear HC2
 by_cases c5 : a0_0 = 1
 ·rw [if_pos c5] at H
  have c5b0 : (a0_0 == 1) = true := beq_iff_eq.mpr c5
  have c5b1 : (a0_0 != 1) = false := bne_eq_false_iff_eq.mpr c5
  clear c5
  (first | rw [c5b0] | (simp only [i64_w, i32_w]; rw [c5b0]) | skip)
  (try rw [c5b1])
  simp only [Option.some.injEq, Prod.mk.injEq] at H
  obtain ⟨rfl, rfl, rfl⟩ := H
  have hcz6_0 : w3.cell? ⟨gb173, 0, none⟩ = some (.int .i64 a0_0) := (blk_cell BK173.out 0).trans rfl
  have hcz6_1 : w3.cell? ⟨gb173, 1, none⟩ = some (.int .i64 a0_1) := (blk_cell BK173.out 1).trans rfl
  have hcz6_2 : w3.cell? ⟨gb173, 2, none⟩ = some (.int .i64 a0_2) := (blk_cell BK173.out 2).trans rfl
  have hcz6_3 : w3.cell? ⟨gb173, 3, none⟩ = some (.slice A0_3 l0_3.length c0_3) := (blk_cell BK173.out 3).trans rfl
  have hfz6_0 := blk_frozen BK173.out 0
  have hfz6_1 := blk_frozen BK173.out 1
  have hfz6_2 := blk_frozen BK173.out 2
  have hfz6_3 := blk_frozen BK173.out 3
  go_wp2
  repeat (go_quiet (fail); try go_wp2)
  go_ret3
  exact ⟨by first | rfl | (simp [errW_none, errW_some] <;> rfl) | (simp [*, errW_none, errW_some] <;> rfl), by repeat (first | (with_reducible first | exact HB.out | apply below_alloc | apply pw_below_drewN | apply below_drew1 | refine below_set ?_ GE173.out) | exact HB.out)⟩
 ·rw [if_neg c5] at H
  have c5b0 : (a0_0 == 1) = false := beq_eq_false_iff_ne.mpr c5
  have c5b1 : (a0_0 != 1) = true := bne_iff_ne.mpr c5
  (first | rw [c5b0] | (simp only [i64_w, i32_w]; rw [c5b0]) | skip)
  (try rw [c5b1])
  by_cases c7 : a0_0 = 2
  ·rw [if_pos c7] at H
   have c7b0 : (a0_0 == 2) = true := beq_iff_eq.mpr c7
   have c7b1 : (a0_0 != 2) = false := bne_eq_false_iff_eq.mpr c7
   clear c7
   have H' := Aside0.mk H
   clear H
   go_wp2
   repeat (go_quiet (fail); try go_wp2)
   go_loopg [5, 6, 7] k (fun kq v5 v6 v7 w' => ∃ (x5_1 : Int) (x6_1 : Int) (x7_1 : Int), v5 = .int .i64 x5_1 ∧ v6 = .int .i64 x6_1 ∧ v7 = .int .i64 x7_1 ∧ Aside0 (ancepsref08_lengths.l0 kq x5_1 x6_1 x7_1 a0_0 a0_1 a0_2 l0_3 = some (r1, r2, r3)) ∧ Aside0 (kq ≤ k) ∧ Aside0 (w'.heap[gb173]? = some (.cells #[.int .i64 a0_0, .int .i64 a0_1, .int .i64 a0_2, (.slice A0_3 l0_3.length c0_3)] 24 (0, 0))) ∧ Aside0 (Below w.heap.size w w'))
   case atStart => exact ⟨(0), (0), (0), zT, zT, zT, H', ⟨Nat.le_refl _⟩, ⟨by (with_reducible repeat (first | refine blk_drewN ?_ _ | refine blk_drew ?_ | refine blk_alloc ?_ _)); exact BK173.out⟩, ⟨by repeat (first | (with_reducible first | exact HB.out | apply below_alloc | apply pw_below_drewN | apply below_drew1 | refine below_set ?_ GE173.out) | exact HB.out)⟩⟩
   case round =>
    clear H'
    try clear c5
    try clear c5b0
    try clear c5b1
    try clear c7
    try clear c7b0
    try clear c7b1
    try clear hcz4_0
    try clear hcz4_1
    try clear hcz4_2
    try clear hcz4_3
    try clear hfz4_0
    try clear hfz4_1
    try clear hfz4_2
    try clear hfz4_3
    obtain ⟨x5_1, x6_1, x7_1, rfl, rfl, rfl, HA, HK1, BK173, HB⟩ := hrel
    cases gk with
    | zero => exact absurd HA.out (by simp [ancepsref08_lengths.l0])
    | succ k1 =>
     have H := HA.out
     clear HA
     simp only [ancepsref08_lengths.l0] at H
     by_cases c8 : x7_1 < (l0_3.length : Int)
     ·rw [if_pos c8] at H
      have c8b0 : decide (x7_1 < (l0_3.length : Int)) = true := decide_eq_true c8
      clear c8
      by_cases c9 : 0 ≤ x7_1
      ·rw [if_pos c9] at H
       have c9b0 : decide (0 ≤ x7_1) = true := decide_eq_true c9
       clear c9
       replace H := Option.bind_eq_some_iff.mp H
       obtain ⟨⟨t175, t176, t177⟩, A100, H⟩ := H
       replace H : (if t177 = true then (if t176 < 0 then (ancepsref08_lengths.l0 k1 (wrap64 (x5_1 + t175)) (-1) (wrap64 (x7_1 + 1)) a0_0 a0_1 a0_2 l0_3) else (if x6_1 < 0 then (ancepsref08_lengths.l0 k1 (wrap64 (x5_1 + t175)) (-1) (wrap64 (x7_1 + 1)) a0_0 a0_1 a0_2 l0_3) else (ancepsref08_lengths.l0 k1 (wrap64 (x5_1 + t175)) (wrap64 (x6_1 + t176)) (wrap64 (x7_1 + 1)) a0_0 a0_1 a0_2 l0_3))) else (some (0, 0, false))) = some (r1, r2, r3) := H
       have A10 := Aside0.mk A100
       clear A100
       have HC11 := Aside0.mk H
       clear H
       have hcz12_0 : wr.cell? ⟨gb173, 0, none⟩ = some (.int .i64 a0_0) := (blk_cell BK173.out 0).trans rfl
       have hcz12_1 : wr.cell? ⟨gb173, 1, none⟩ = some (.int .i64 a0_1) := (blk_cell BK173.out 1).trans rfl
       have hcz12_2 : wr.cell? ⟨gb173, 2, none⟩ = some (.int .i64 a0_2) := (blk_cell BK173.out 2).trans rfl
       have hcz12_3 : wr.cell? ⟨gb173, 3, none⟩ = some (.slice A0_3 l0_3.length c0_3) := (blk_cell BK173.out 3).trans rfl
       have hfz12_0 := blk_frozen BK173.out 0
       have hfz12_1 := blk_frozen BK173.out 1
       have hfz12_2 := blk_frozen BK173.out 2
       have hfz12_3 := blk_frozen BK173.out 3
       have p174 : 0 ≤ (x7_1 : Int) := of_decide_eq_true zh
       have q174 : x7_1 < (l0_3.length : Int) := of_decide_eq_true zh
       obtain ⟨ad174, A174_3, c174_3, e174, hx174_0, hx174_1, hx174_2, hx174_3, hl174_3, hi174_3⟩ := at_T24 HR0_3.out x7_1 p174 q174
       cases e174
       replace hx174_0 := (HB.out.cell (World.block_lt_of_cell? w _ hx174_0)).trans hx174_0
       replace hx174_1 := (HB.out.cell (World.block_lt_of_cell? w _ hx174_1)).trans hx174_1
       replace hx174_2 := (HB.out.cell (World.block_lt_of_cell? w _ hx174_2)).trans hx174_2
       replace hx174_3 := (HB.out.cell (World.block_lt_of_cell? w _ hx174_3)).trans hx174_3
       have HR174_3 := Aside0.mk hi174_3
       have HC174_3 := Aside0.mk hl174_3
       clear hi174_3 hl174_3
       replace p174 := eq_true p174
       replace q174 := eq_true q174
       go_upto_if 51 with (first | (go_at_call 41; (with_reducible refine (ih k1 (by have := HK1.out; omega) ((rd_T24 l0_3 x7_1).f0) ((rd_T24 l0_3 x7_1).f1) ((rd_T24 l0_3 x7_1).f2) _ _ ((rd_T24 l0_3 x7_1).f3) t175 t176 t177 _ ?side1 ?side2 A10.out).mono ?_); (case side1 => repeat (first | exact (Kd.C_below HR174_3.out HB.out) | (with_reducible refine Kd.C_alloc ?_ _) | (with_reducible refine Kd.C_drewN ?_ _) | (with_reducible refine Kd.C_drew ?_))); (case side2 => exact HC174_3.out); rintro e w13 ⟨rfl, hb⟩; have n0_ := Aside0.mk (blk_below (g := gb173) (o := .cells #[.int .i64 a0_0, .int .i64 a0_1, .int .i64 a0_2, .slice (some ad174) l0_3.length c0_3] 24 (0, 0)) (zk BK173) hb); have n1_ := Aside0.mk (below_step zB hb); clear BK173; clear HB; have BK173 := n0_; have HB := n1_; clear n0_ n1_; (try clear hb); (try clear hb2); (try clear hk); (try clear hi)))
       repeat (go_quiet (first | (go_at_call 41; (with_reducible refine (ih k1 (by have := HK1.out; omega) ((rd_T24 l0_3 x7_1).f0) ((rd_T24 l0_3 x7_1).f1) ((rd_T24 l0_3 x7_1).f2) _ _ ((rd_T24 l0_3 x7_1).f3) t175 t176 t177 _ ?side1 ?side2 A10.out).mono ?_); (case side1 => repeat (first | exact (Kd.C_below HR174_3.out HB.out) | (with_reducible refine Kd.C_alloc ?_ _) | (with_reducible refine Kd.C_drewN ?_ _) | (with_reducible refine Kd.C_drew ?_))); (case side2 => exact HC174_3.out); rintro e w13 ⟨rfl, hb⟩; have n0_ := Aside0.mk (blk_below (g := gb173) (o := .cells #[.int .i64 a0_0, .int .i64 a0_1, .int .i64 a0_2, .slice (some ad174) l0_3.length c0_3] 24 (0, 0)) (zk BK173) hb); have n1_ := Aside0.mk (below_step zB hb); clear BK173; clear HB; have BK173 := n0_; have HB := n1_; clear n0_ n1_; (try clear hb); (try clear hb2); (try clear hk); (try clear hi))); go_upto_if 51 with (first | (go_at_call 41; (with_reducible refine (ih k1 (by have := HK1.out; omega) ((rd_T24 l0_3 x7_1).f0) ((rd_T24 l0_3 x7_1).f1) ((rd_T24 l0_3 x7_1).f2) _ _ ((rd_T24 l0_3 x7_1).f3) t175 t176 t177 _ ?side1 ?side2 A10.out).mono ?_); (case side1 => repeat (first | exact (Kd.C_below HR174_3.out HB.out) | (with_reducible refine Kd.C_alloc ?_ _) | (with_reducible refine Kd.C_drewN ?_ _) | (with_reducible refine Kd.C_drew ?_))); (case side2 => exact HC174_3.out); rintro e w13 ⟨rfl, hb⟩; have n0_ := Aside0.mk (blk_below (g := gb173) (o := .cells #[.int .i64 a0_0, .int .i64 a0_1, .int .i64 a0_2, .slice (some ad174) l0_3.length c0_3] 24 (0, 0)) (zk BK173) hb); have n1_ := Aside0.mk (below_step zB hb); clear BK173; clear HB; have BK173 := n0_; have HB := n1_; clear n0_ n1_; (try clear hb); (try clear hb2); (try clear hk); (try clear hi))))
       (try simp only [Act.put, List.setIfInBounds_toArray, List.set_cons_zero, List.set_cons_succ])
       have H := HC11.out
       clear HC11
       by_cases c14 : t177 = true
       ·subst c14
        have H1 : (if t176 < 0 then (ancepsref08_lengths.l0 k1 (wrap64 (x5_1 + t175)) (-1) (wrap64 (x7_1 + 1)) a0_0 a0_1 a0_2 l0_3) else (if x6_1 < 0 then (ancepsref08_lengths.l0 k1 (wrap64 (x5_1 + t175)) (-1) (wrap64 (x7_1 + 1)) a0_0 a0_1 a0_2 l0_3) else (ancepsref08_lengths.l0 k1 (wrap64 (x5_1 + t175)) (wrap64 (x6_1 + t176)) (wrap64 (x7_1 + 1)) a0_0 a0_1 a0_2 l0_3))) = some (r1, r2, r3) := by rw [if_pos rfl] at H; exact H
        clear H
        have H := H1
        clear H1
        by_cases c15 : t176 < 0
        ·rw [if_pos c15] at H
         have c15b0 : decide (t176 < 0) = true := decide_eq_true c15
         clear c15
         (first | rw [c15b0] | (simp only [i64_w, i32_w]; rw [c15b0]) | skip)
         have H' := Aside0.mk H
         clear H
         go_wp2
         repeat (go_quiet (fail); try go_wp2)
         go_roundg k1
         case measure => have := HK1.out; omega
         case rel => exact ⟨(wrap64 (x5_1 + t175)), ((-1)), (wrap64 (x7_1 + 1)), zT, zT, zT, H', ⟨by have := HK1.out; omega⟩, ⟨by (with_reducible repeat (first | refine blk_drewN ?_ _ | refine blk_drew ?_ | refine blk_alloc ?_ _)); exact BK173.out⟩, ⟨by repeat (first | (with_reducible first | exact HB.out | apply below_alloc | apply pw_below_drewN | apply below_drew1 | refine below_set ?_ GE173.out) | exact HB.out)⟩⟩
        ·rw [if_neg c15] at H
         have c15b0 : decide (t176 < 0) = false := decide_eq_false c15
         clear c15
         (first | rw [c15b0] | (simp only [i64_w, i32_w]; rw [c15b0]) | skip)
         by_cases c16 : x6_1 < 0
         ·rw [if_pos c16] at H
          have c16b0 : decide (x6_1 < 0) = true := decide_eq_true c16
          clear c16
          have H' := Aside0.mk H
          clear H
          go_wp2
          repeat (go_quiet (fail); try go_wp2)
          go_roundg k1
          case measure => have := HK1.out; omega
          case rel => exact ⟨(wrap64 (x5_1 + t175)), ((-1)), (wrap64 (x7_1 + 1)), zT, zT, zT, H', ⟨by have := HK1.out; omega⟩, ⟨by (with_reducible repeat (first | refine blk_drewN ?_ _ | refine blk_drew ?_ | refine blk_alloc ?_ _)); exact BK173.out⟩, ⟨by repeat (first | (with_reducible first | exact HB.out | apply below_alloc | apply pw_below_drewN | apply below_drew1 | refine below_set ?_ GE173.out) | exact HB.out)⟩⟩
         ·rw [if_neg c16] at H
          have c16b0 : decide (x6_1 < 0) = false := decide_eq_false c16
          clear c16
          have H' := Aside0.mk H
          clear H
          go_wp2
          repeat (go_quiet (fail); try go_wp2)
          go_roundg k1
          case measure => have := HK1.out; omega
          case rel => exact ⟨(wrap64 (x5_1 + t175)), (wrap64 (x6_1 + t176)), (wrap64 (x7_1 + 1)), zT, zT, zT, H', ⟨by have := HK1.out; omega⟩, ⟨by (with_reducible repeat (first | refine blk_drewN ?_ _ | refine blk_drew ?_ | refine blk_alloc ?_ _)); exact BK173.out⟩, ⟨by repeat (first | (with_reducible first | exact HB.out | apply below_alloc | apply pw_below_drewN | apply below_drew1 | refine below_set ?_ GE173.out) | exact HB.out)⟩⟩
       ·replace c14 := Bool.eq_false_iff.mpr c14
        subst c14
        have H1 : (some (0, 0, false)) = some (r1, r2, r3) := by rw [if_neg (show ¬ (false = true) by decide)] at H; exact H
        clear H
        have H := H1
        clear H1
        simp only [Option.some.injEq, Prod.mk.injEq] at H
        obtain ⟨rfl, rfl, rfl⟩ := H
        go_wp2
        repeat (go_quiet (fail); try go_wp2)
        go_ret3
        exact ⟨by first | rfl | (simp [errW_none, errW_some] <;> rfl) | (simp [*, errW_none, errW_some] <;> rfl), by repeat (first | (with_reducible first | exact HB.out | apply below_alloc | apply pw_below_drewN | apply below_drew1 | refine below_set ?_ GE173.out) | exact HB.out)⟩
      ·rw [if_neg c9] at H
       exact absurd H (by simp)
     ·rw [if_neg c8] at H
      have c8b0 : decide (x7_1 < (l0_3.length : Int)) = false := decide_eq_false c8
      clear c8
      simp only [Option.some.injEq, Prod.mk.injEq] at H
      obtain ⟨rfl, rfl, rfl⟩ := H
      have hcz17_0 : wr.cell? ⟨gb173, 0, none⟩ = some (.int .i64 a0_0) := (blk_cell BK173.out 0).trans rfl
      have hcz17_1 : wr.cell? ⟨gb173, 1, none⟩ = some (.int .i64 a0_1) := (blk_cell BK173.out 1).trans rfl
      have hcz17_2 : wr.cell? ⟨gb173, 2, none⟩ = some (.int .i64 a0_2) := (blk_cell BK173.out 2).trans rfl
      have hcz17_3 : wr.cell? ⟨gb173, 3, none⟩ = some (.slice A0_3 l0_3.length c0_3) := (blk_cell BK173.out 3).trans rfl
      have hfz17_0 := blk_frozen BK173.out 0
      have hfz17_1 := blk_frozen BK173.out 1
      have hfz17_2 := blk_frozen BK173.out 2
      have hfz17_3 := blk_frozen BK173.out 3
      go_wp2
      repeat (go_quiet (fail); try go_wp2)
      go_ret3
      exact ⟨by first | rfl | (simp [errW_none, errW_some] <;> rfl) | (simp [*, errW_none, errW_some] <;> rfl), by repeat (first | (with_reducible first | exact HB.out | apply below_alloc | apply pw_below_drewN | apply below_drew1 | refine below_set ?_ GE173.out) | exact HB.out)⟩
  ·rw [if_neg c7] at H
   have c7b0 : (a0_0 == 2) = false := beq_eq_false_iff_ne.mpr c7
   have c7b1 : (a0_0 != 2) = true := bne_iff_ne.mpr c7
   by_cases c18 : a0_0 = 3
   ·rw [if_pos c18] at H
    have c18b0 : (a0_0 == 3) = true := beq_iff_eq.mpr c18
    have c18b1 : (a0_0 != 3) = false := bne_eq_false_iff_eq.mpr c18
    clear c18
    have H' := Aside0.mk H
    clear H
    go_wp2
    repeat (go_quiet (fail); try go_wp2)
    go_loopg [11, 12, 13, 14] k (fun kq v11 v12 v13 v14 w' => ∃ (x11_1 : Int) (x12_1 : Int) (x13_1 : Bool) (x14_1 : Int), v11 = .int .i64 x11_1 ∧ v12 = .int .i64 x12_1 ∧ v13 = .bool x13_1 ∧ v14 = .int .i64 x14_1 ∧ Aside0 (ancepsref08_lengths.l1 kq x11_1 x12_1 x13_1 x14_1 a0_0 a0_1 a0_2 l0_3 = some (r1, r2, r3)) ∧ Aside0 (kq ≤ k) ∧ Aside0 (w'.heap[gb173]? = some (.cells #[.int .i64 a0_0, .int .i64 a0_1, .int .i64 a0_2, (.slice A0_3 l0_3.length c0_3)] 24 (0, 0))) ∧ Aside0 (Below w.heap.size w w'))
    case atStart => exact ⟨(0), (0), (false), (0), zT, zT, zT, zT, H', ⟨Nat.le_refl _⟩, ⟨by (with_reducible repeat (first | refine blk_drewN ?_ _ | refine blk_drew ?_ | refine blk_alloc ?_ _)); exact BK173.out⟩, ⟨by repeat (first | (with_reducible first | exact HB.out | apply below_alloc | apply pw_below_drewN | apply below_drew1 | refine below_set ?_ GE173.out) | exact HB.out)⟩⟩
    case round =>
     clear H'
     try clear c5
     try clear c5b0
     try clear c5b1
     try clear c7
     try clear c7b0
     try clear c7b1
     try clear c18
     try clear c18b0
     try clear c18b1
     try clear hcz4_0
     try clear hcz4_1
     try clear hcz4_2
     try clear hcz4_3
     try clear hfz4_0
     try clear hfz4_1
     try clear hfz4_2
     try clear hfz4_3
     obtain ⟨x11_1, x12_1, x13_1, x14_1, rfl, rfl, rfl, rfl, HA, HK1, BK173, HB⟩ := hrel
     cases gk with
     | zero => exact absurd HA.out (by simp [ancepsref08_lengths.l1])
     | succ k1 =>
      have H := HA.out
      clear HA
      simp only [ancepsref08_lengths.l1] at H
      by_cases c19 : x14_1 < (l0_3.length : Int)
      ·rw [if_pos c19] at H
       have c19b0 : decide (x14_1 < (l0_3.length : Int)) = true := decide_eq_true c19
       clear c19
       by_cases c20 : 0 ≤ x14_1
       ·rw [if_pos c20] at H
        have c20b0 : decide (0 ≤ x14_1) = true := decide_eq_true c20
        clear c20
        replace H := Option.bind_eq_some_iff.mp H
        obtain ⟨⟨t179, t180, t181⟩, A210, H⟩ := H
        replace H : (if t181 = true then (if x13_1 = true then (if t179 < x11_1 then (if x12_1 ≥ 0 then (if t180 < 0 then (ancepsref08_lengths.l1 k1 t179 t180 true (wrap64 (x14_1 + 1)) a0_0 a0_1 a0_2 l0_3) else (if t180 > x12_1 then (ancepsref08_lengths.l1 k1 t179 t180 true (wrap64 (x14_1 + 1)) a0_0 a0_1 a0_2 l0_3) else (ancepsref08_lengths.l1 k1 t179 x12_1 true (wrap64 (x14_1 + 1)) a0_0 a0_1 a0_2 l0_3))) else (ancepsref08_lengths.l1 k1 t179 x12_1 true (wrap64 (x14_1 + 1)) a0_0 a0_1 a0_2 l0_3)) else (if x12_1 ≥ 0 then (if t180 < 0 then (ancepsref08_lengths.l1 k1 x11_1 t180 true (wrap64 (x14_1 + 1)) a0_0 a0_1 a0_2 l0_3) else (if t180 > x12_1 then (ancepsref08_lengths.l1 k1 x11_1 t180 true (wrap64 (x14_1 + 1)) a0_0 a0_1 a0_2 l0_3) else (ancepsref08_lengths.l1 k1 x11_1 x12_1 true (wrap64 (x14_1 + 1)) a0_0 a0_1 a0_2 l0_3))) else (ancepsref08_lengths.l1 k1 x11_1 x12_1 true (wrap64 (x14_1 + 1)) a0_0 a0_1 a0_2 l0_3))) else (ancepsref08_lengths.l1 k1 t179 t180 true (wrap64 (x14_1 + 1)) a0_0 a0_1 a0_2 l0_3)) else (ancepsref08_lengths.l1 k1 x11_1 x12_1 x13_1 (wrap64 (x14_1 + 1)) a0_0 a0_1 a0_2 l0_3)) = some (r1, r2, r3) := H
        have A21 := Aside0.mk A210
        clear A210
        have HC22 := Aside0.mk H
        clear H
        have hcz23_0 : wr.cell? ⟨gb173, 0, none⟩ = some (.int .i64 a0_0) := (blk_cell BK173.out 0).trans rfl
        have hcz23_1 : wr.cell? ⟨gb173, 1, none⟩ = some (.int .i64 a0_1) := (blk_cell BK173.out 1).trans rfl
        have hcz23_2 : wr.cell? ⟨gb173, 2, none⟩ = some (.int .i64 a0_2) := (blk_cell BK173.out 2).trans rfl
        have hcz23_3 : wr.cell? ⟨gb173, 3, none⟩ = some (.slice A0_3 l0_3.length c0_3) := (blk_cell BK173.out 3).trans rfl
        have hfz23_0 := blk_frozen BK173.out 0
        have hfz23_1 := blk_frozen BK173.out 1
        have hfz23_2 := blk_frozen BK173.out 2
        have hfz23_3 := blk_frozen BK173.out 3
        have p178 : 0 ≤ (x14_1 : Int) := of_decide_eq_true zh
        have q178 : x14_1 < (l0_3.length : Int) := of_decide_eq_true zh
        obtain ⟨ad178, A178_3, c178_3, e178, hx178_0, hx178_1, hx178_2, hx178_3, hl178_3, hi178_3⟩ := at_T24 HR0_3.out x14_1 p178 q178
        cases e178
        replace hx178_0 := (HB.out.cell (World.block_lt_of_cell? w _ hx178_0)).trans hx178_0
        replace hx178_1 := (HB.out.cell (World.block_lt_of_cell? w _ hx178_1)).trans hx178_1
        replace hx178_2 := (HB.out.cell (World.block_lt_of_cell? w _ hx178_2)).trans hx178_2
        replace hx178_3 := (HB.out.cell (World.block_lt_of_cell? w _ hx178_3)).trans hx178_3
        have HR178_3 := Aside0.mk hi178_3
        have HC178_3 := Aside0.mk hl178_3
        clear hi178_3 hl178_3
        replace p178 := eq_true p178
        replace q178 := eq_true q178
        go_upto_if 86 with (first | (go_at_call 41; (with_reducible refine (ih k1 (by have := HK1.out; omega) ((rd_T24 l0_3 x14_1).f0) ((rd_T24 l0_3 x14_1).f1) ((rd_T24 l0_3 x14_1).f2) _ _ ((rd_T24 l0_3 x14_1).f3) t179 t180 t181 _ ?side1 ?side2 A21.out).mono ?_); (case side1 => repeat (first | exact (Kd.C_below HR178_3.out HB.out) | (with_reducible refine Kd.C_alloc ?_ _) | (with_reducible refine Kd.C_drewN ?_ _) | (with_reducible refine Kd.C_drew ?_))); (case side2 => exact HC178_3.out); rintro e w24 ⟨rfl, hb⟩; have n0_ := Aside0.mk (blk_below (g := gb173) (o := .cells #[.int .i64 a0_0, .int .i64 a0_1, .int .i64 a0_2, .slice (some ad178) l0_3.length c0_3] 24 (0, 0)) (zk BK173) hb); have n1_ := Aside0.mk (below_step zB hb); clear BK173; clear HB; have BK173 := n0_; have HB := n1_; clear n0_ n1_; (try clear hb); (try clear hb2); (try clear hk); (try clear hi)))
        repeat (go_quiet (first | (go_at_call 41; (with_reducible refine (ih k1 (by have := HK1.out; omega) ((rd_T24 l0_3 x14_1).f0) ((rd_T24 l0_3 x14_1).f1) ((rd_T24 l0_3 x14_1).f2) _ _ ((rd_T24 l0_3 x14_1).f3) t179 t180 t181 _ ?side1 ?side2 A21.out).mono ?_); (case side1 => repeat (first | exact (Kd.C_below HR178_3.out HB.out) | (with_reducible refine Kd.C_alloc ?_ _) | (with_reducible refine Kd.C_drewN ?_ _) | (with_reducible refine Kd.C_drew ?_))); (case side2 => exact HC178_3.out); rintro e w24 ⟨rfl, hb⟩; have n0_ := Aside0.mk (blk_below (g := gb173) (o := .cells #[.int .i64 a0_0, .int .i64 a0_1, .int .i64 a0_2, .slice (some ad178) l0_3.length c0_3] 24 (0, 0)) (zk BK173) hb); have n1_ := Aside0.mk (below_step zB hb); clear BK173; clear HB; have BK173 := n0_; have HB := n1_; clear n0_ n1_; (try clear hb); (try clear hb2); (try clear hk); (try clear hi))); go_upto_if 86 with (first | (go_at_call 41; (with_reducible refine (ih k1 (by have := HK1.out; omega) ((rd_T24 l0_3 x14_1).f0) ((rd_T24 l0_3 x14_1).f1) ((rd_T24 l0_3 x14_1).f2) _ _ ((rd_T24 l0_3 x14_1).f3) t179 t180 t181 _ ?side1 ?side2 A21.out).mono ?_); (case side1 => repeat (first | exact (Kd.C_below HR178_3.out HB.out) | (with_reducible refine Kd.C_alloc ?_ _) | (with_reducible refine Kd.C_drewN ?_ _) | (with_reducible refine Kd.C_drew ?_))); (case side2 => exact HC178_3.out); rintro e w24 ⟨rfl, hb⟩; have n0_ := Aside0.mk (blk_below (g := gb173) (o := .cells #[.int .i64 a0_0, .int .i64 a0_1, .int .i64 a0_2, .slice (some ad178) l0_3.length c0_3] 24 (0, 0)) (zk BK173) hb); have n1_ := Aside0.mk (below_step zB hb); clear BK173; clear HB; have BK173 := n0_; have HB := n1_; clear n0_ n1_; (try clear hb); (try clear hb2); (try clear hk); (try clear hi))))
        (try simp only [Act.put, List.setIfInBounds_toArray, List.set_cons_zero, List.set_cons_succ])
        have H := HC22.out
        clear HC22
        by_cases c25 : t181 = true
        ·subst c25
         have H1 : (if x13_1 = true then (if t179 < x11_1 then (if x12_1 ≥ 0 then (if t180 < 0 then (ancepsref08_lengths.l1 k1 t179 t180 true (wrap64 (x14_1 + 1)) a0_0 a0_1 a0_2 l0_3) else (if t180 > x12_1 then (ancepsref08_lengths.l1 k1 t179 t180 true (wrap64 (x14_1 + 1)) a0_0 a0_1 a0_2 l0_3) else (ancepsref08_lengths.l1 k1 t179 x12_1 true (wrap64 (x14_1 + 1)) a0_0 a0_1 a0_2 l0_3))) else (ancepsref08_lengths.l1 k1 t179 x12_1 true (wrap64 (x14_1 + 1)) a0_0 a0_1 a0_2 l0_3)) else (if x12_1 ≥ 0 then (if t180 < 0 then (ancepsref08_lengths.l1 k1 x11_1 t180 true (wrap64 (x14_1 + 1)) a0_0 a0_1 a0_2 l0_3) else (if t180 > x12_1 then (ancepsref08_lengths.l1 k1 x11_1 t180 true (wrap64 (x14_1 + 1)) a0_0 a0_1 a0_2 l0_3) else (ancepsref08_lengths.l1 k1 x11_1 x12_1 true (wrap64 (x14_1 + 1)) a0_0 a0_1 a0_2 l0_3))) else (ancepsref08_lengths.l1 k1 x11_1 x12_1 true (wrap64 (x14_1 + 1)) a0_0 a0_1 a0_2 l0_3))) else (ancepsref08_lengths.l1 k1 t179 t180 true (wrap64 (x14_1 + 1)) a0_0 a0_1 a0_2 l0_3)) = some (r1, r2, r3) := by rw [if_pos rfl] at H; exact H
         clear H
         have H := H1
         clear H1
         by_cases c26 : x13_1 = true
         ·subst c26
          have H1 : (if t179 < x11_1 then (if x12_1 ≥ 0 then (if t180 < 0 then (ancepsref08_lengths.l1 k1 t179 t180 true (wrap64 (x14_1 + 1)) a0_0 a0_1 a0_2 l0_3) else (if t180 > x12_1 then (ancepsref08_lengths.l1 k1 t179 t180 true (wrap64 (x14_1 + 1)) a0_0 a0_1 a0_2 l0_3) else (ancepsref08_lengths.l1 k1 t179 x12_1 true (wrap64 (x14_1 + 1)) a0_0 a0_1 a0_2 l0_3))) else (ancepsref08_lengths.l1 k1 t179 x12_1 true (wrap64 (x14_1 + 1)) a0_0 a0_1 a0_2 l0_3)) else (if x12_1 ≥ 0 then (if t180 < 0 then (ancepsref08_lengths.l1 k1 x11_1 t180 true (wrap64 (x14_1 + 1)) a0_0 a0_1 a0_2 l0_3) else (if t180 > x12_1 then (ancepsref08_lengths.l1 k1 x11_1 t180 true (wrap64 (x14_1 + 1)) a0_0 a0_1 a0_2 l0_3) else (ancepsref08_lengths.l1 k1 x11_1 x12_1 true (wrap64 (x14_1 + 1)) a0_0 a0_1 a0_2 l0_3))) else (ancepsref08_lengths.l1 k1 x11_1 x12_1 true (wrap64 (x14_1 + 1)) a0_0 a0_1 a0_2 l0_3))) = some (r1, r2, r3) := by rw [if_pos rfl] at H; exact H
          clear H
          have H := H1
          clear H1
          by_cases c27 : t179 < x11_1
          ·rw [if_pos c27] at H
           have c27b0 : decide (t179 < x11_1) = true := decide_eq_true c27
           clear c27
           (first | rw [c27b0] | (simp only [i64_w, i32_w]; rw [c27b0]) | skip)
           by_cases c28 : x12_1 ≥ 0
           ·rw [if_pos c28] at H
            have c28b0 : decide (0 ≤ x12_1) = true := decide_eq_true c28
            clear c28
            by_cases c29 : t180 < 0
            ·rw [if_pos c29] at H
             have c29b0 : decide (t180 < 0) = true := decide_eq_true c29
             clear c29
             have H' := Aside0.mk H
             clear H
             go_wp2
             repeat (go_quiet (fail); try go_wp2)
             go_roundg k1
             case measure => have := HK1.out; omega
             case rel => exact ⟨(t179), (t180), (true), (wrap64 (x14_1 + 1)), zT, zT, zT, zT, H', ⟨by have := HK1.out; omega⟩, ⟨by (with_reducible repeat (first | refine blk_drewN ?_ _ | refine blk_drew ?_ | refine blk_alloc ?_ _)); exact BK173.out⟩, ⟨by repeat (first | (with_reducible first | exact HB.out | apply below_alloc | apply pw_below_drewN | apply below_drew1 | refine below_set ?_ GE173.out) | exact HB.out)⟩⟩
            ·rw [if_neg c29] at H
             have c29b0 : decide (t180 < 0) = false := decide_eq_false c29
             clear c29
             by_cases c30 : t180 > x12_1
             ·rw [if_pos c30] at H
              have c30b0 : decide (x12_1 < t180) = true := decide_eq_true c30
              clear c30
              have H' := Aside0.mk H
              clear H
              go_wp2
              repeat (go_quiet (fail); try go_wp2)
              go_roundg k1
              case measure => have := HK1.out; omega
              case rel => exact ⟨(t179), (t180), (true), (wrap64 (x14_1 + 1)), zT, zT, zT, zT, H', ⟨by have := HK1.out; omega⟩, ⟨by (with_reducible repeat (first | refine blk_drewN ?_ _ | refine blk_drew ?_ | refine blk_alloc ?_ _)); exact BK173.out⟩, ⟨by repeat (first | (with_reducible first | exact HB.out | apply below_alloc | apply pw_below_drewN | apply below_drew1 | refine below_set ?_ GE173.out) | exact HB.out)⟩⟩
             ·rw [if_neg c30] at H
              have c30b0 : decide (x12_1 < t180) = false := decide_eq_false c30
              clear c30
              have H' := Aside0.mk H
              clear H
              go_wp2
              repeat (go_quiet (fail); try go_wp2)
              go_roundg k1
              case measure => have := HK1.out; omega
              case rel => exact ⟨(t179), (x12_1), (true), (wrap64 (x14_1 + 1)), zT, zT, zT, zT, H', ⟨by have := HK1.out; omega⟩, ⟨by (with_reducible repeat (first | refine blk_drewN ?_ _ | refine blk_drew ?_ | refine blk_alloc ?_ _)); exact BK173.out⟩, ⟨by repeat (first | (with_reducible first | exact HB.out | apply below_alloc | apply pw_below_drewN | apply below_drew1 | refine below_set ?_ GE173.out) | exact HB.out)⟩⟩
           ·rw [if_neg c28] at H
            have c28b0 : decide (0 ≤ x12_1) = false := decide_eq_false c28
            clear c28
            have H' := Aside0.mk H
            clear H
            go_wp2
            repeat (go_quiet (fail); try go_wp2)
            go_roundg k1
            case measure => have := HK1.out; omega
            case rel => exact ⟨(t179), (x12_1), (true), (wrap64 (x14_1 + 1)), zT, zT, zT, zT, H', ⟨by have := HK1.out; omega⟩, ⟨by (with_reducible repeat (first | refine blk_drewN ?_ _ | refine blk_drew ?_ | refine blk_alloc ?_ _)); exact BK173.out⟩, ⟨by repeat (first | (with_reducible first | exact HB.out | apply below_alloc | apply pw_below_drewN | apply below_drew1 | refine below_set ?_ GE173.out) | exact HB.out)⟩⟩
          ·rw [if_neg c27] at H
           have c27b0 : decide (t179 < x11_1) = false := decide_eq_false c27
           clear c27
           (first | rw [c27b0] | (simp only [i64_w, i32_w]; rw [c27b0]) | skip)
           by_cases c31 : x12_1 ≥ 0
           ·rw [if_pos c31] at H
            have c31b0 : decide (0 ≤ x12_1) = true := decide_eq_true c31
            clear c31
            by_cases c32 : t180 < 0
            ·rw [if_pos c32] at H
             have c32b0 : decide (t180 < 0) = true := decide_eq_true c32
             clear c32
             have H' := Aside0.mk H
             clear H
             go_wp2
             repeat (go_quiet (fail); try go_wp2)
             go_roundg k1
             case measure => have := HK1.out; omega
             case rel => exact ⟨(x11_1), (t180), (true), (wrap64 (x14_1 + 1)), zT, zT, zT, zT, H', ⟨by have := HK1.out; omega⟩, ⟨by (with_reducible repeat (first | refine blk_drewN ?_ _ | refine blk_drew ?_ | refine blk_alloc ?_ _)); exact BK173.out⟩, ⟨by repeat (first | (with_reducible first | exact HB.out | apply below_alloc | apply pw_below_drewN | apply below_drew1 | refine below_set ?_ GE173.out) | exact HB.out)⟩⟩
            ·rw [if_neg c32] at H
             have c32b0 : decide (t180 < 0) = false := decide_eq_false c32
             clear c32
             by_cases c33 : t180 > x12_1
             ·rw [if_pos c33] at H
              have c33b0 : decide (x12_1 < t180) = true := decide_eq_true c33
              clear c33
              have H' := Aside0.mk H
              clear H
              go_wp2
              repeat (go_quiet (fail); try go_wp2)
              go_roundg k1
              case measure => have := HK1.out; omega
              case rel => exact ⟨(x11_1), (t180), (true), (wrap64 (x14_1 + 1)), zT, zT, zT, zT, H', ⟨by have := HK1.out; omega⟩, ⟨by (with_reducible repeat (first | refine blk_drewN ?_ _ | refine blk_drew ?_ | refine blk_alloc ?_ _)); exact BK173.out⟩, ⟨by repeat (first | (with_reducible first | exact HB.out | apply below_alloc | apply pw_below_drewN | apply below_drew1 | refine below_set ?_ GE173.out) | exact HB.out)⟩⟩
             ·rw [if_neg c33] at H
              have c33b0 : decide (x12_1 < t180) = false := decide_eq_false c33
              clear c33
              have H' := Aside0.mk H
              clear H
              go_wp2
              repeat (go_quiet (fail); try go_wp2)
              go_roundg k1
              case measure => have := HK1.out; omega
              case rel => exact ⟨(x11_1), (x12_1), (true), (wrap64 (x14_1 + 1)), zT, zT, zT, zT, H', ⟨by have := HK1.out; omega⟩, ⟨by (with_reducible repeat (first | refine blk_drewN ?_ _ | refine blk_drew ?_ | refine blk_alloc ?_ _)); exact BK173.out⟩, ⟨by repeat (first | (with_reducible first | exact HB.out | apply below_alloc | apply pw_below_drewN | apply below_drew1 | refine below_set ?_ GE173.out) | exact HB.out)⟩⟩
           ·rw [if_neg c31] at H
            have c31b0 : decide (0 ≤ x12_1) = false := decide_eq_false c31
            clear c31
            have H' := Aside0.mk H
            clear H
            go_wp2
            repeat (go_quiet (fail); try go_wp2)
            go_roundg k1
            case measure => have := HK1.out; omega
            case rel => exact ⟨(x11_1), (x12_1), (true), (wrap64 (x14_1 + 1)), zT, zT, zT, zT, H', ⟨by have := HK1.out; omega⟩, ⟨by (with_reducible repeat (first | refine blk_drewN ?_ _ | refine blk_drew ?_ | refine blk_alloc ?_ _)); exact BK173.out⟩, ⟨by repeat (first | (with_reducible first | exact HB.out | apply below_alloc | apply pw_below_drewN | apply below_drew1 | refine below_set ?_ GE173.out) | exact HB.out)⟩⟩
         ·replace c26 := Bool.eq_false_iff.mpr c26
          subst c26
          have H1 : (ancepsref08_lengths.l1 k1 t179 t180 true (wrap64 (x14_1 + 1)) a0_0 a0_1 a0_2 l0_3) = some (r1, r2, r3) := by rw [if_neg (show ¬ (false = true) by decide)] at H; exact H
          clear H
          have H := H1
          clear H1
          have H' := Aside0.mk H
          clear H
          go_wp2
          repeat (go_quiet (fail); try go_wp2)
          go_roundg k1
          case measure => have := HK1.out; omega
          case rel => exact ⟨(t179), (t180), (true), (wrap64 (x14_1 + 1)), zT, zT, zT, zT, H', ⟨by have := HK1.out; omega⟩, ⟨by (with_reducible repeat (first | refine blk_drewN ?_ _ | refine blk_drew ?_ | refine blk_alloc ?_ _)); exact BK173.out⟩, ⟨by repeat (first | (with_reducible first | exact HB.out | apply below_alloc | apply pw_below_drewN | apply below_drew1 | refine below_set ?_ GE173.out) | exact HB.out)⟩⟩
        ·replace c25 := Bool.eq_false_iff.mpr c25
         subst c25
         have H1 : (ancepsref08_lengths.l1 k1 x11_1 x12_1 x13_1 (wrap64 (x14_1 + 1)) a0_0 a0_1 a0_2 l0_3) = some (r1, r2, r3) := by rw [if_neg (show ¬ (false = true) by decide)] at H; exact H
         clear H
         have H := H1
         clear H1
         have H' := Aside0.mk H
         clear H
         go_wp2
         repeat (go_quiet (fail); try go_wp2)
         go_roundg k1
         case measure => have := HK1.out; omega
         case rel => exact ⟨(x11_1), (x12_1), (x13_1), (wrap64 (x14_1 + 1)), zT, zT, zT, zT, H', ⟨by have := HK1.out; omega⟩, ⟨by (with_reducible repeat (first | refine blk_drewN ?_ _ | refine blk_drew ?_ | refine blk_alloc ?_ _)); exact BK173.out⟩, ⟨by repeat (first | (with_reducible first | exact HB.out | apply below_alloc | apply pw_below_drewN | apply below_drew1 | refine below_set ?_ GE173.out) | exact HB.out)⟩⟩
       ·rw [if_neg c20] at H
        exact absurd H (by simp)
      ·rw [if_neg c19] at H
       have c19b0 : decide (x14_1 < (l0_3.length : Int)) = false := decide_eq_false c19
       clear c19
       simp only [Option.some.injEq, Prod.mk.injEq] at H
       obtain ⟨rfl, rfl, rfl⟩ := H
       have hcz34_0 : wr.cell? ⟨gb173, 0, none⟩ = some (.int .i64 a0_0) := (blk_cell BK173.out 0).trans rfl
       have hcz34_1 : wr.cell? ⟨gb173, 1, none⟩ = some (.int .i64 a0_1) := (blk_cell BK173.out 1).trans rfl
       have hcz34_2 : wr.cell? ⟨gb173, 2, none⟩ = some (.int .i64 a0_2) := (blk_cell BK173.out 2).trans rfl
       have hcz34_3 : wr.cell? ⟨gb173, 3, none⟩ = some (.slice A0_3 l0_3.length c0_3) := (blk_cell BK173.out 3).trans rfl
       have hfz34_0 := blk_frozen BK173.out 0
       have hfz34_1 := blk_frozen BK173.out 1
       have hfz34_2 := blk_frozen BK173.out 2
       have hfz34_3 := blk_frozen BK173.out 3
       go_wp2
       repeat (go_quiet (fail); try go_wp2)
       go_ret3
       exact ⟨by first | rfl | (simp [errW_none, errW_some] <;> rfl) | (simp [*, errW_none, errW_some] <;> rfl), by repeat (first | (with_reducible first | exact HB.out | apply below_alloc | apply pw_below_drewN | apply below_drew1 | refine below_set ?_ GE173.out) | exact HB.out)⟩
   ·rw [if_neg c18] at H
    have c18b0 : (a0_0 == 3) = false := beq_eq_false_iff_ne.mpr c18
    have c18b1 : (a0_0 != 3) = true := bne_iff_ne.mpr c18
    by_cases c35 : a0_0 = 4
    ·rw [if_pos c35] at H
     have c35b0 : (a0_0 == 4) = true := beq_iff_eq.mpr c35
     have c35b1 : (a0_0 != 4) = false := bne_eq_false_iff_eq.mpr c35
     clear c35
     by_cases c36 : 0 < (l0_3.length : Int)
     ·rw [if_pos c36] at H
      have c36b0 : decide (0 < (l0_3.length : Int)) = true := decide_eq_true c36
      have c36b1 : decide (0 < l0_3.length) = true := decide_eq_true (by omega)
      clear c36
      replace H := Option.bind_eq_some_iff.mp H
      obtain ⟨⟨t183, t184, t185⟩, A370, H⟩ := H
      replace H : (if a0_2 = 0 then (some (0, 0, true)) else (if t184 > 0 then (some (wrap64 (t183 * a0_2), wrap64 (t184 * a0_2), t185)) else (some (wrap64 (t183 * a0_2), t184, t185)))) = some (r1, r2, r3) := H
      have A37 := Aside0.mk A370
      clear A370
      have HC38 := Aside0.mk H
      clear H
      have hcz39_0 : w3.cell? ⟨gb173, 0, none⟩ = some (.int .i64 a0_0) := (blk_cell BK173.out 0).trans rfl
      have hcz39_1 : w3.cell? ⟨gb173, 1, none⟩ = some (.int .i64 a0_1) := (blk_cell BK173.out 1).trans rfl
      have hcz39_2 : w3.cell? ⟨gb173, 2, none⟩ = some (.int .i64 a0_2) := (blk_cell BK173.out 2).trans rfl
      have hcz39_3 : w3.cell? ⟨gb173, 3, none⟩ = some (.slice A0_3 l0_3.length c0_3) := (blk_cell BK173.out 3).trans rfl
      have hfz39_0 := blk_frozen BK173.out 0
      have hfz39_1 := blk_frozen BK173.out 1
      have hfz39_2 := blk_frozen BK173.out 2
      have hfz39_3 := blk_frozen BK173.out 3
      have p182 : 0 ≤ (0 : Int) := (by omega)
      have q182 : 0 < (l0_3.length : Int) := of_decide_eq_true zh
      obtain ⟨ad182, A182_3, c182_3, e182, hx182_0, hx182_1, hx182_2, hx182_3, hl182_3, hi182_3⟩ := at_T24 HR0_3.out 0 p182 q182
      cases e182
      have qi182 : (0 < l0_3.length) = True := eq_true (by omega)
      (try rw [show ((0 : Int)).toNat = 0 from rfl] at hx182_0)
      (try rw [show 0 * 4 = 0 from rfl] at hx182_0)
      (try rw [Addr.add_zero'] at hx182_0)
      (try rw [show ((0 : Int)).toNat = 0 from rfl] at hx182_1)
      (try rw [show 0 * 4 = 0 from rfl] at hx182_1)
      (try rw [Addr.add_zero'] at hx182_1)
      (try rw [show ((0 : Int)).toNat = 0 from rfl] at hx182_2)
      (try rw [show 0 * 4 = 0 from rfl] at hx182_2)
      (try rw [Addr.add_zero'] at hx182_2)
      (try rw [show ((0 : Int)).toNat = 0 from rfl] at hx182_3)
      (try rw [show 0 * 4 = 0 from rfl] at hx182_3)
      (try rw [Addr.add_zero'] at hx182_3)
      replace hx182_0 := (HB.out.cell (World.block_lt_of_cell? w _ hx182_0)).trans hx182_0
      replace hx182_1 := (HB.out.cell (World.block_lt_of_cell? w _ hx182_1)).trans hx182_1
      replace hx182_2 := (HB.out.cell (World.block_lt_of_cell? w _ hx182_2)).trans hx182_2
      replace hx182_3 := (HB.out.cell (World.block_lt_of_cell? w _ hx182_3)).trans hx182_3
      have HR182_3 := Aside0.mk hi182_3
      have HC182_3 := Aside0.mk hl182_3
      clear hi182_3 hl182_3
      replace p182 := eq_true p182
      replace q182 := eq_true q182
      go_upto_if 127 with (first | (go_at_call 41; (with_reducible refine (ih k (by omega) ((rd_T24 l0_3 0).f0) ((rd_T24 l0_3 0).f1) ((rd_T24 l0_3 0).f2) _ _ ((rd_T24 l0_3 0).f3) t183 t184 t185 _ ?side1 ?side2 A37.out).mono ?_); (case side1 => repeat (first | exact (Kd.C_below HR182_3.out HB.out) | (with_reducible refine Kd.C_alloc ?_ _) | (with_reducible refine Kd.C_drewN ?_ _) | (with_reducible refine Kd.C_drew ?_))); (case side2 => exact HC182_3.out); rintro e w40 ⟨rfl, hb⟩; have n0_ := Aside0.mk (blk_below (g := gb173) (o := .cells #[.int .i64 a0_0, .int .i64 a0_1, .int .i64 a0_2, .slice (some ad182) l0_3.length c0_3] 24 (0, 0)) (zk BK173) hb); have n1_ := Aside0.mk (below_step zB hb); clear BK173; clear HB; have BK173 := n0_; have HB := n1_; clear n0_ n1_; (try clear hb); (try clear hb2); (try clear hk); (try clear hi); have hcz41_0 : w40.cell? ⟨gb173, 0, none⟩ = some (.int .i64 a0_0) := (blk_cell BK173.out 0).trans rfl; have hcz41_1 : w40.cell? ⟨gb173, 1, none⟩ = some (.int .i64 a0_1) := (blk_cell BK173.out 1).trans rfl; have hcz41_2 : w40.cell? ⟨gb173, 2, none⟩ = some (.int .i64 a0_2) := (blk_cell BK173.out 2).trans rfl; have hcz41_3 : w40.cell? ⟨gb173, 3, none⟩ = some (.slice (some ad182) l0_3.length c0_3) := (blk_cell BK173.out 3).trans rfl; have hfz41_0 := blk_frozen BK173.out 0; have hfz41_1 := blk_frozen BK173.out 1; have hfz41_2 := blk_frozen BK173.out 2; have hfz41_3 := blk_frozen BK173.out 3))
      repeat (go_quiet (first | (go_at_call 41; (with_reducible refine (ih k (by omega) ((rd_T24 l0_3 0).f0) ((rd_T24 l0_3 0).f1) ((rd_T24 l0_3 0).f2) _ _ ((rd_T24 l0_3 0).f3) t183 t184 t185 _ ?side1 ?side2 A37.out).mono ?_); (case side1 => repeat (first | exact (Kd.C_below HR182_3.out HB.out) | (with_reducible refine Kd.C_alloc ?_ _) | (with_reducible refine Kd.C_drewN ?_ _) | (with_reducible refine Kd.C_drew ?_))); (case side2 => exact HC182_3.out); rintro e w40 ⟨rfl, hb⟩; have n0_ := Aside0.mk (blk_below (g := gb173) (o := .cells #[.int .i64 a0_0, .int .i64 a0_1, .int .i64 a0_2, .slice (some ad182) l0_3.length c0_3] 24 (0, 0)) (zk BK173) hb); have n1_ := Aside0.mk (below_step zB hb); clear BK173; clear HB; have BK173 := n0_; have HB := n1_; clear n0_ n1_; (try clear hb); (try clear hb2); (try clear hk); (try clear hi); have hcz41_0 : w40.cell? ⟨gb173, 0, none⟩ = some (.int .i64 a0_0) := (blk_cell BK173.out 0).trans rfl; have hcz41_1 : w40.cell? ⟨gb173, 1, none⟩ = some (.int .i64 a0_1) := (blk_cell BK173.out 1).trans rfl; have hcz41_2 : w40.cell? ⟨gb173, 2, none⟩ = some (.int .i64 a0_2) := (blk_cell BK173.out 2).trans rfl; have hcz41_3 : w40.cell? ⟨gb173, 3, none⟩ = some (.slice (some ad182) l0_3.length c0_3) := (blk_cell BK173.out 3).trans rfl; have hfz41_0 := blk_frozen BK173.out 0; have hfz41_1 := blk_frozen BK173.out 1; have hfz41_2 := blk_frozen BK173.out 2; have hfz41_3 := blk_frozen BK173.out 3)); go_upto_if 127 with (first | (go_at_call 41; (with_reducible refine (ih k (by omega) ((rd_T24 l0_3 0).f0) ((rd_T24 l0_3 0).f1) ((rd_T24 l0_3 0).f2) _ _ ((rd_T24 l0_3 0).f3) t183 t184 t185 _ ?side1 ?side2 A37.out).mono ?_); (case side1 => repeat (first | exact (Kd.C_below HR182_3.out HB.out) | (with_reducible refine Kd.C_alloc ?_ _) | (with_reducible refine Kd.C_drewN ?_ _) | (with_reducible refine Kd.C_drew ?_))); (case side2 => exact HC182_3.out); rintro e w40 ⟨rfl, hb⟩; have n0_ := Aside0.mk (blk_below (g := gb173) (o := .cells #[.int .i64 a0_0, .int .i64 a0_1, .int .i64 a0_2, .slice (some ad182) l0_3.length c0_3] 24 (0, 0)) (zk BK173) hb); have n1_ := Aside0.mk (below_step zB hb); clear BK173; clear HB; have BK173 := n0_; have HB := n1_; clear n0_ n1_; (try clear hb); (try clear hb2); (try clear hk); (try clear hi); have hcz41_0 : w40.cell? ⟨gb173, 0, none⟩ = some (.int .i64 a0_0) := (blk_cell BK173.out 0).trans rfl; have hcz41_1 : w40.cell? ⟨gb173, 1, none⟩ = some (.int .i64 a0_1) := (blk_cell BK173.out 1).trans rfl; have hcz41_2 : w40.cell? ⟨gb173, 2, none⟩ = some (.int .i64 a0_2) := (blk_cell BK173.out 2).trans rfl; have hcz41_3 : w40.cell? ⟨gb173, 3, none⟩ = some (.slice (some ad182) l0_3.length c0_3) := (blk_cell BK173.out 3).trans rfl; have hfz41_0 := blk_frozen BK173.out 0; have hfz41_1 := blk_frozen BK173.out 1; have hfz41_2 := blk_frozen BK173.out 2; have hfz41_3 := blk_frozen BK173.out 3)))
      (try simp only [Act.put, List.setIfInBounds_toArray, List.set_cons_zero, List.set_cons_succ])
      have H := HC38.out
      clear HC38
      by_cases c42 : a0_2 = 0
      ·rw [if_pos c42] at H
       have c42b0 : (a0_2 == 0) = true := beq_iff_eq.mpr c42
       have c42b1 : (a0_2 != 0) = false := bne_eq_false_iff_eq.mpr c42
       clear c42
       (first | rw [c42b0] | (simp only [i64_w, i32_w]; rw [c42b0]) | skip)
       (try rw [c42b1])
       simp only [Option.some.injEq, Prod.mk.injEq] at H
       obtain ⟨rfl, rfl, rfl⟩ := H
       go_wp2
       repeat (go_quiet (fail); try go_wp2)
       go_ret3
       exact ⟨by first | rfl | (simp [errW_none, errW_some] <;> rfl) | (simp [*, errW_none, errW_some] <;> rfl), by repeat (first | (with_reducible first | exact HB.out | apply below_alloc | apply pw_below_drewN | apply below_drew1 | refine below_set ?_ GE173.out) | exact HB.out)⟩
      ·rw [if_neg c42] at H
       have c42b0 : (a0_2 == 0) = false := beq_eq_false_iff_ne.mpr c42
       have c42b1 : (a0_2 != 0) = true := bne_iff_ne.mpr c42
       (first | rw [c42b0] | (simp only [i64_w, i32_w]; rw [c42b0]) | skip)
       (try rw [c42b1])
       by_cases c43 : t184 > 0
       ·rw [if_pos c43] at H
        have c43b0 : decide (0 < t184) = true := decide_eq_true c43
        clear c43
        simp only [Option.some.injEq, Prod.mk.injEq] at H
        obtain ⟨rfl, rfl, rfl⟩ := H
        have hcz44_0 : w40.cell? ⟨gb173, 0, none⟩ = some (.int .i64 a0_0) := (blk_cell BK173.out 0).trans rfl
        have hcz44_1 : w40.cell? ⟨gb173, 1, none⟩ = some (.int .i64 a0_1) := (blk_cell BK173.out 1).trans rfl
        have hcz44_2 : w40.cell? ⟨gb173, 2, none⟩ = some (.int .i64 a0_2) := (blk_cell BK173.out 2).trans rfl
        have hcz44_3 : w40.cell? ⟨gb173, 3, none⟩ = some (.slice (some ad182) l0_3.length c0_3) := (blk_cell BK173.out 3).trans rfl
        have hfz44_0 := blk_frozen BK173.out 0
        have hfz44_1 := blk_frozen BK173.out 1
        have hfz44_2 := blk_frozen BK173.out 2
        have hfz44_3 := blk_frozen BK173.out 3
        go_wp2
        repeat (go_quiet (fail); try go_wp2)
        go_ret3
        exact ⟨by first | rfl | (simp [errW_none, errW_some] <;> rfl) | (simp [*, errW_none, errW_some] <;> rfl), by repeat (first | (with_reducible first | exact HB.out | apply below_alloc | apply pw_below_drewN | apply below_drew1 | refine below_set ?_ GE173.out) | exact HB.out)⟩
       ·rw [if_neg c43] at H
        have c43b0 : decide (0 < t184) = false := decide_eq_false c43
        clear c43
        simp only [Option.some.injEq, Prod.mk.injEq] at H
        obtain ⟨rfl, rfl, rfl⟩ := H
        have hcz45_0 : w40.cell? ⟨gb173, 0, none⟩ = some (.int .i64 a0_0) := (blk_cell BK173.out 0).trans rfl
        have hcz45_1 : w40.cell? ⟨gb173, 1, none⟩ = some (.int .i64 a0_1) := (blk_cell BK173.out 1).trans rfl
        have hcz45_2 : w40.cell? ⟨gb173, 2, none⟩ = some (.int .i64 a0_2) := (blk_cell BK173.out 2).trans rfl
        have hcz45_3 : w40.cell? ⟨gb173, 3, none⟩ = some (.slice (some ad182) l0_3.length c0_3) := (blk_cell BK173.out 3).trans rfl
        have hfz45_0 := blk_frozen BK173.out 0
        have hfz45_1 := blk_frozen BK173.out 1
        have hfz45_2 := blk_frozen BK173.out 2
        have hfz45_3 := blk_frozen BK173.out 3
        go_wp2
        repeat (go_quiet (fail); try go_wp2)
        go_ret3
        exact ⟨by first | rfl | (simp [errW_none, errW_some] <;> rfl) | (simp [*, errW_none, errW_some] <;> rfl), by repeat (first | (with_reducible first | exact HB.out | apply below_alloc | apply pw_below_drewN | apply below_drew1 | refine below_set ?_ GE173.out) | exact HB.out)⟩
     ·rw [if_neg c36] at H
      exact absurd H (by simp)
    ·rw [if_neg c35] at H
     have c35b0 : (a0_0 == 4) = false := beq_eq_false_iff_ne.mpr c35
     have c35b1 : (a0_0 != 4) = true := bne_iff_ne.mpr c35
     by_cases c46 : 0 < (l0_3.length : Int)
     ·rw [if_pos c46] at H
      have c46b0 : decide (0 < (l0_3.length : Int)) = true := decide_eq_true c46
      have c46b1 : decide (0 < l0_3.length) = true := decide_eq_true (by omega)
      clear c46
      replace H := Option.bind_eq_some_iff.mp H
      obtain ⟨⟨t187, t188, t189⟩, A470, H⟩ := H
      replace H : (if t189 = true then (if a0_0 = 5 then (if t188 = 0 then (some (0, t188, true)) else (some (0, (-1), true))) else (some (0, t188, true))) else (some (0, 0, true))) = some (r1, r2, r3) := H
      have A47 := Aside0.mk A470
      clear A470
      have HC48 := Aside0.mk H
      clear H
      have hcz49_0 : w3.cell? ⟨gb173, 0, none⟩ = some (.int .i64 a0_0) := (blk_cell BK173.out 0).trans rfl
      have hcz49_1 : w3.cell? ⟨gb173, 1, none⟩ = some (.int .i64 a0_1) := (blk_cell BK173.out 1).trans rfl
      have hcz49_2 : w3.cell? ⟨gb173, 2, none⟩ = some (.int .i64 a0_2) := (blk_cell BK173.out 2).trans rfl
      have hcz49_3 : w3.cell? ⟨gb173, 3, none⟩ = some (.slice A0_3 l0_3.length c0_3) := (blk_cell BK173.out 3).trans rfl
      have hfz49_0 := blk_frozen BK173.out 0
      have hfz49_1 := blk_frozen BK173.out 1
      have hfz49_2 := blk_frozen BK173.out 2
      have hfz49_3 := blk_frozen BK173.out 3
      have p186 : 0 ≤ (0 : Int) := (by omega)
      have q186 : 0 < (l0_3.length : Int) := of_decide_eq_true zh
      obtain ⟨ad186, A186_3, c186_3, e186, hx186_0, hx186_1, hx186_2, hx186_3, hl186_3, hi186_3⟩ := at_T24 HR0_3.out 0 p186 q186
      cases e186
      have qi186 : (0 < l0_3.length) = True := eq_true (by omega)
      (try rw [show ((0 : Int)).toNat = 0 from rfl] at hx186_0)
      (try rw [show 0 * 4 = 0 from rfl] at hx186_0)
      (try rw [Addr.add_zero'] at hx186_0)
      (try rw [show ((0 : Int)).toNat = 0 from rfl] at hx186_1)
      (try rw [show 0 * 4 = 0 from rfl] at hx186_1)
      (try rw [Addr.add_zero'] at hx186_1)
      (try rw [show ((0 : Int)).toNat = 0 from rfl] at hx186_2)
      (try rw [show 0 * 4 = 0 from rfl] at hx186_2)
      (try rw [Addr.add_zero'] at hx186_2)
      (try rw [show ((0 : Int)).toNat = 0 from rfl] at hx186_3)
      (try rw [show 0 * 4 = 0 from rfl] at hx186_3)
      (try rw [Addr.add_zero'] at hx186_3)
      replace hx186_0 := (HB.out.cell (World.block_lt_of_cell? w _ hx186_0)).trans hx186_0
      replace hx186_1 := (HB.out.cell (World.block_lt_of_cell? w _ hx186_1)).trans hx186_1
      replace hx186_2 := (HB.out.cell (World.block_lt_of_cell? w _ hx186_2)).trans hx186_2
      replace hx186_3 := (HB.out.cell (World.block_lt_of_cell? w _ hx186_3)).trans hx186_3
      have HR186_3 := Aside0.mk hi186_3
      have HC186_3 := Aside0.mk hl186_3
      clear hi186_3 hl186_3
      replace p186 := eq_true p186
      replace q186 := eq_true q186
      go_upto_if 150 with (first | (go_at_call 41; (with_reducible refine (ih k (by omega) ((rd_T24 l0_3 0).f0) ((rd_T24 l0_3 0).f1) ((rd_T24 l0_3 0).f2) _ _ ((rd_T24 l0_3 0).f3) t187 t188 t189 _ ?side1 ?side2 A47.out).mono ?_); (case side1 => repeat (first | exact (Kd.C_below HR186_3.out HB.out) | (with_reducible refine Kd.C_alloc ?_ _) | (with_reducible refine Kd.C_drewN ?_ _) | (with_reducible refine Kd.C_drew ?_))); (case side2 => exact HC186_3.out); rintro e w50 ⟨rfl, hb⟩; have n0_ := Aside0.mk (blk_below (g := gb173) (o := .cells #[.int .i64 a0_0, .int .i64 a0_1, .int .i64 a0_2, .slice (some ad186) l0_3.length c0_3] 24 (0, 0)) (zk BK173) hb); have n1_ := Aside0.mk (below_step zB hb); clear BK173; clear HB; have BK173 := n0_; have HB := n1_; clear n0_ n1_; (try clear hb); (try clear hb2); (try clear hk); (try clear hi)))
      repeat (go_quiet (first | (go_at_call 41; (with_reducible refine (ih k (by omega) ((rd_T24 l0_3 0).f0) ((rd_T24 l0_3 0).f1) ((rd_T24 l0_3 0).f2) _ _ ((rd_T24 l0_3 0).f3) t187 t188 t189 _ ?side1 ?side2 A47.out).mono ?_); (case side1 => repeat (first | exact (Kd.C_below HR186_3.out HB.out) | (with_reducible refine Kd.C_alloc ?_ _) | (with_reducible refine Kd.C_drewN ?_ _) | (with_reducible refine Kd.C_drew ?_))); (case side2 => exact HC186_3.out); rintro e w50 ⟨rfl, hb⟩; have n0_ := Aside0.mk (blk_below (g := gb173) (o := .cells #[.int .i64 a0_0, .int .i64 a0_1, .int .i64 a0_2, .slice (some ad186) l0_3.length c0_3] 24 (0, 0)) (zk BK173) hb); have n1_ := Aside0.mk (below_step zB hb); clear BK173; clear HB; have BK173 := n0_; have HB := n1_; clear n0_ n1_; (try clear hb); (try clear hb2); (try clear hk); (try clear hi))); go_upto_if 150 with (first | (go_at_call 41; (with_reducible refine (ih k (by omega) ((rd_T24 l0_3 0).f0) ((rd_T24 l0_3 0).f1) ((rd_T24 l0_3 0).f2) _ _ ((rd_T24 l0_3 0).f3) t187 t188 t189 _ ?side1 ?side2 A47.out).mono ?_); (case side1 => repeat (first | exact (Kd.C_below HR186_3.out HB.out) | (with_reducible refine Kd.C_alloc ?_ _) | (with_reducible refine Kd.C_drewN ?_ _) | (with_reducible refine Kd.C_drew ?_))); (case side2 => exact HC186_3.out); rintro e w50 ⟨rfl, hb⟩; have n0_ := Aside0.mk (blk_below (g := gb173) (o := .cells #[.int .i64 a0_0, .int .i64 a0_1, .int .i64 a0_2, .slice (some ad186) l0_3.length c0_3] 24 (0, 0)) (zk BK173) hb); have n1_ := Aside0.mk (below_step zB hb); clear BK173; clear HB; have BK173 := n0_; have HB := n1_; clear n0_ n1_; (try clear hb); (try clear hb2); (try clear hk); (try clear hi))))
      (try simp only [Act.put, List.setIfInBounds_toArray, List.set_cons_zero, List.set_cons_succ])
      have H := HC48.out
      clear HC48
      by_cases c51 : t189 = true
      ·subst c51
       have H1 : (if a0_0 = 5 then (if t188 = 0 then (some (0, t188, true)) else (some (0, (-1), true))) else (some (0, t188, true))) = some (r1, r2, r3) := by rw [if_pos rfl] at H; exact H
       clear H
       have H := H1
       clear H1
       by_cases c52 : a0_0 = 5
       ·rw [if_pos c52] at H
        have c52b0 : (a0_0 == 5) = true := beq_iff_eq.mpr c52
        have c52b1 : (a0_0 != 5) = false := bne_eq_false_iff_eq.mpr c52
        clear c52
        (first | rw [c52b0] | (simp only [i64_w, i32_w]; rw [c52b0]) | skip)
        (try rw [c52b1])
        by_cases c53 : t188 = 0
        ·rw [if_pos c53] at H
         have c53b0 : (t188 == 0) = true := beq_iff_eq.mpr c53
         have c53b1 : (t188 != 0) = false := bne_eq_false_iff_eq.mpr c53
         clear c53
         simp only [Option.some.injEq, Prod.mk.injEq] at H
         obtain ⟨rfl, rfl, rfl⟩ := H
         have hcz54_0 : w50.cell? ⟨gb173, 0, none⟩ = some (.int .i64 a0_0) := (blk_cell BK173.out 0).trans rfl
         have hcz54_1 : w50.cell? ⟨gb173, 1, none⟩ = some (.int .i64 a0_1) := (blk_cell BK173.out 1).trans rfl
         have hcz54_2 : w50.cell? ⟨gb173, 2, none⟩ = some (.int .i64 a0_2) := (blk_cell BK173.out 2).trans rfl
         have hcz54_3 : w50.cell? ⟨gb173, 3, none⟩ = some (.slice (some ad186) l0_3.length c0_3) := (blk_cell BK173.out 3).trans rfl
         have hfz54_0 := blk_frozen BK173.out 0
         have hfz54_1 := blk_frozen BK173.out 1
         have hfz54_2 := blk_frozen BK173.out 2
         have hfz54_3 := blk_frozen BK173.out 3
         go_wp2
         repeat (go_quiet (fail); try go_wp2)
         go_ret3
         exact ⟨by first | rfl | (simp [errW_none, errW_some] <;> rfl) | (simp [*, errW_none, errW_some] <;> rfl), by repeat (first | (with_reducible first | exact HB.out | apply below_alloc | apply pw_below_drewN | apply below_drew1 | refine below_set ?_ GE173.out) | exact HB.out)⟩
        ·rw [if_neg c53] at H
         have c53b0 : (t188 == 0) = false := beq_eq_false_iff_ne.mpr c53
         have c53b1 : (t188 != 0) = true := bne_iff_ne.mpr c53
         simp only [Option.some.injEq, Prod.mk.injEq] at H
         obtain ⟨rfl, rfl, rfl⟩ := H
         have hcz55_0 : w50.cell? ⟨gb173, 0, none⟩ = some (.int .i64 a0_0) := (blk_cell BK173.out 0).trans rfl
         have hcz55_1 : w50.cell? ⟨gb173, 1, none⟩ = some (.int .i64 a0_1) := (blk_cell BK173.out 1).trans rfl
         have hcz55_2 : w50.cell? ⟨gb173, 2, none⟩ = some (.int .i64 a0_2) := (blk_cell BK173.out 2).trans rfl
         have hcz55_3 : w50.cell? ⟨gb173, 3, none⟩ = some (.slice (some ad186) l0_3.length c0_3) := (blk_cell BK173.out 3).trans rfl
         have hfz55_0 := blk_frozen BK173.out 0
         have hfz55_1 := blk_frozen BK173.out 1
         have hfz55_2 := blk_frozen BK173.out 2
         have hfz55_3 := blk_frozen BK173.out 3
         go_wp2
         repeat (go_quiet (fail); try go_wp2)
         go_ret3
         exact ⟨by first | rfl | (simp [errW_none, errW_some] <;> rfl) | (simp [*, errW_none, errW_some] <;> rfl), by repeat (first | (with_reducible first | exact HB.out | apply below_alloc | apply pw_below_drewN | apply below_drew1 | refine below_set ?_ GE173.out) | exact HB.out)⟩
       ·rw [if_neg c52] at H
        have c52b0 : (a0_0 == 5) = false := beq_eq_false_iff_ne.mpr c52
        have c52b1 : (a0_0 != 5) = true := bne_iff_ne.mpr c52
        (first | rw [c52b0] | (simp only [i64_w, i32_w]; rw [c52b0]) | skip)
        (try rw [c52b1])
        simp only [Option.some.injEq, Prod.mk.injEq] at H
        obtain ⟨rfl, rfl, rfl⟩ := H
        have hcz56_0 : w50.cell? ⟨gb173, 0, none⟩ = some (.int .i64 a0_0) := (blk_cell BK173.out 0).trans rfl
        have hcz56_1 : w50.cell? ⟨gb173, 1, none⟩ = some (.int .i64 a0_1) := (blk_cell BK173.out 1).trans rfl
        have hcz56_2 : w50.cell? ⟨gb173, 2, none⟩ = some (.int .i64 a0_2) := (blk_cell BK173.out 2).trans rfl
        have hcz56_3 : w50.cell? ⟨gb173, 3, none⟩ = some (.slice (some ad186) l0_3.length c0_3) := (blk_cell BK173.out 3).trans rfl
        have hfz56_0 := blk_frozen BK173.out 0
        have hfz56_1 := blk_frozen BK173.out 1
        have hfz56_2 := blk_frozen BK173.out 2
        have hfz56_3 := blk_frozen BK173.out 3
        go_wp2
        repeat (go_quiet (fail); try go_wp2)
        go_ret3
        exact ⟨by first | rfl | (simp [errW_none, errW_some] <;> rfl) | (simp [*, errW_none, errW_some] <;> rfl), by repeat (first | (with_reducible first | exact HB.out | apply below_alloc | apply pw_below_drewN | apply below_drew1 | refine below_set ?_ GE173.out) | exact HB.out)⟩
      ·replace c51 := Bool.eq_false_iff.mpr c51
       subst c51
       have H1 : (some (0, 0, true)) = some (r1, r2, r3) := by rw [if_neg (show ¬ (false = true) by decide)] at H; exact H
       clear H
       have H := H1
       clear H1
       simp only [Option.some.injEq, Prod.mk.injEq] at H
       obtain ⟨rfl, rfl, rfl⟩ := H
       go_wp2
       repeat (go_quiet (fail); try go_wp2)
       go_ret3
       exact ⟨by first | rfl | (simp [errW_none, errW_some] <;> rfl) | (simp [*, errW_none, errW_some] <;> rfl), by repeat (first | (with_reducible first | exact HB.out | apply below_alloc | apply pw_below_drewN | apply below_drew1 | refine below_set ?_ GE173.out) | exact HB.out)⟩
     ·rw [if_neg c46] at H
      exact absurd H (by simp)
/-! ### ancepsref08_Lengths: function 17 -/
def ancepsref08_Lengths.f (k : Nat) (a0_0 : Int) (a0_1 : Int) (a0_2 : Int) (l0_3 : List (S24)) : Option (Int × Int × Int) := (ancepsref08_Valid.f k a0_0 a0_1 a0_2 l0_3).bind fun t191 => (if t191 = 0 then ((ancepsref08_lengths.f k a0_0 a0_1 a0_2 l0_3).bind fun bt192 => (if bt192.2.2 = true then (some (bt192.1, bt192.2.1, 0)) else (some (0, 0, 10)))) else (some (0, 0, t191)))
theorem ancepsref08_Lengths.mono : ∀ a0 a1 a2 a3 k, LeO (ancepsref08_Lengths.f k a0 a1 a2 a3) (ancepsref08_Lengths.f (k + 1) a0 a1 a2 a3) := by
 intro a0 a1 a2 a3 k
 unfold ancepsref08_Lengths.f
 repeat' first
   | (with_reducible exact ancepsref08_Valid.mono _ _ _ _ _)
   | (with_reducible exact ancepsref08_lengths.mono _ _ _ _ _)
   | (with_reducible exact LeO.refl _)
   | (with_reducible exact LeO.none _)
   | (with_reducible refine LeO.ite ?_ ?_)
   | (with_reducible refine LeO.bind ?_ (fun _ => ?_))
   | exact ancepsref08_Valid.mono _ _ _ _ _
   | exact ancepsref08_lengths.mono _ _ _ _ _
   | exact LeO.none _
   | refine LeO.ite ?_ ?_
   | refine LeO.bind ?_ (fun _ => ?_)
set_option maxHeartbeats 8000000 in
set_option maxRecDepth 100000 in
theorem ancepsref08_Lengths.calls (k : Nat) (a0_0 : Int) (a0_1 : Int) (a0_2 : Int) (A0_3 : Option Addr) (c0_3 : Nat) (l0_3 : List (S24)) (r1 : Int) (r2 : Int) (r3 : Int) (w : World) (hr0_3 : Kd.C k24 w A0_3 l0_3.length l0_3) (hc0_3 : l0_3.length ≤ c0_3) (h : ancepsref08_Lengths.f k a0_0 a0_1 a0_2 l0_3 = some (r1, r2, r3)) :
  Calls Try.prog 17 #[.agg #[.int .i64 a0_0, .int .i64 a0_1, .int .i64 a0_2, .slice A0_3 l0_3.length c0_3]] w fun e w' => e = .returned (.tuple #[.int .i64 r1, .int .i64 r2, .int .i64 r3]) ∧ Below w.heap.size w w' := by
 have hu24 := Try.underlying24
 have HR0_3 := Aside0.mk hr0_3
 have HC0_3 := Aside0.mk hc0_3
 clear hr0_3 hc0_3
 have HB := Aside0.mk (Below.refl w.heap.size w)
 have H : ((ancepsref08_Valid.f k a0_0 a0_1 a0_2 l0_3).bind fun t191 => (if t191 = 0 then ((ancepsref08_lengths.f k a0_0 a0_1 a0_2 l0_3).bind fun bt192 => (if bt192.2.2 = true then (some (bt192.1, bt192.2.1, 0)) else (some (0, 0, 10)))) else (some (0, 0, t191)))) = some (r1, r2, r3) := h
 clear h
 replace H := Option.bind_eq_some_iff.mp H
 obtain ⟨t191, A20, H⟩ := H
 replace H : (if t191 = 0 then ((ancepsref08_lengths.f k a0_0 a0_1 a0_2 l0_3).bind fun bt192 => (if bt192.2.2 = true then (some (bt192.1, bt192.2.1, 0)) else (some (0, 0, 10)))) else (some (0, 0, t191))) = some (r1, r2, r3) := H
 have A2 := Aside0.mk A20
 clear A20
 have HC3 := Aside0.mk H
 clear H
 go_enter Try.func17, Try.ntmps17
 go_upto_if 12 with (first | ((with_reducible refine gate_dst (N := 1) rfl ?_); refine box_event ?hg (N := 1) ?hd (cs := #[.int .i64 a0_0, .int .i64 a0_1, .int .i64 a0_2, .slice A0_3 l0_3.length c0_3]) (t := 24) ?hr ?_; (case hd => rfl); (case hg => rfl); (case hr => first | (go_simp; done) | (go_simp; rfl)); intro gb190 hg w4 hbox hb; have n0_ := Aside0.mk (below_step zB hb); have n1_ := Aside0.mk (hbox); have n2_ := Aside0.mk ((by rw [hg]; exact (below_size zB) : w.heap.size ≤ gb190)); have n3_ := Aside0.mk ((by rw [hg]; exact (below_size zB) : w.heap.size ≤ gb190)); clear HB; have HB := n0_; have BK190 := n1_; have GW190 := n2_; have GE190 := n3_; clear n0_ n1_ n2_ n3_; clear hb hbox hg; have hcz5_0 : w4.cell? ⟨gb190, 0, none⟩ = some (.int .i64 a0_0) := (blk_cell BK190.out 0).trans rfl; have hcz5_1 : w4.cell? ⟨gb190, 1, none⟩ = some (.int .i64 a0_1) := (blk_cell BK190.out 1).trans rfl; have hcz5_2 : w4.cell? ⟨gb190, 2, none⟩ = some (.int .i64 a0_2) := (blk_cell BK190.out 2).trans rfl; have hcz5_3 : w4.cell? ⟨gb190, 3, none⟩ = some (.slice A0_3 l0_3.length c0_3) := (blk_cell BK190.out 3).trans rfl; have hfz5_0 := blk_frozen BK190.out 0; have hfz5_1 := blk_frozen BK190.out 1; have hfz5_2 := blk_frozen BK190.out 2; have hfz5_3 := blk_frozen BK190.out 3) | ((with_reducible refine gate_callee (f := 12) rfl ?_); refine goesL_ (some 10) rfl rfl Try.func12 zK rfl #[.agg #[.int .i64 a0_0, .int .i64 a0_1, .int .i64 a0_2, .slice A0_3 l0_3.length c0_3]] rfl zM ?_; (with_reducible refine (ancepsref08_Valid.calls k a0_0 a0_1 a0_2 _ _ l0_3 t191 _ ?side1 ?side2 A2.out).mono ?_); (case side1 => repeat (first | exact (Kd.C_below HR0_3.out HB.out) | (with_reducible refine Kd.C_alloc ?_ _) | (with_reducible refine Kd.C_drewN ?_ _) | (with_reducible refine Kd.C_drew ?_))); (case side2 => exact HC0_3.out); rintro e w6 ⟨rfl, hb⟩; refine ⟨_, rfl, ?_⟩; have n0_ := Aside0.mk (blk_below (g := gb190) (o := .cells #[.int .i64 a0_0, .int .i64 a0_1, .int .i64 a0_2, .slice A0_3 l0_3.length c0_3] 24 (0, 0)) (zk BK190) hb); have n1_ := Aside0.mk (below_step zB hb); clear BK190; clear HB; have BK190 := n0_; have HB := n1_; clear n0_ n1_; (try clear hb); (try clear hb2); (try clear hk); (try clear hi)))
 (try simp only [Act.put, List.setIfInBounds_toArray, List.set_cons_zero, List.set_cons_succ])
 have H := HC3.out
 clear HC3
 by_cases c7 : t191 = 0
 ·rw [if_pos c7] at H
  have c7b0 : (t191 == 0) = true := beq_iff_eq.mpr c7
  have c7b1 : (t191 != 0) = false := bne_eq_false_iff_eq.mpr c7
  clear c7
  (first | rw [c7b0] | (simp only [i64_w, i32_w]; rw [c7b0]) | skip)
  (try rw [c7b1])
  replace H := Option.bind_eq_some_iff.mp H
  obtain ⟨⟨t192, t193, t194⟩, A80, H⟩ := H
  replace H : (if t194 = true then (some (t192, t193, 0)) else (some (0, 0, 10))) = some (r1, r2, r3) := H
  have A8 := Aside0.mk A80
  clear A80
  have HC9 := Aside0.mk H
  clear H
  have hcz10_0 : w6.cell? ⟨gb190, 0, none⟩ = some (.int .i64 a0_0) := (blk_cell BK190.out 0).trans rfl
  have hcz10_1 : w6.cell? ⟨gb190, 1, none⟩ = some (.int .i64 a0_1) := (blk_cell BK190.out 1).trans rfl
  have hcz10_2 : w6.cell? ⟨gb190, 2, none⟩ = some (.int .i64 a0_2) := (blk_cell BK190.out 2).trans rfl
  have hcz10_3 : w6.cell? ⟨gb190, 3, none⟩ = some (.slice A0_3 l0_3.length c0_3) := (blk_cell BK190.out 3).trans rfl
  have hfz10_0 := blk_frozen BK190.out 0
  have hfz10_1 := blk_frozen BK190.out 1
  have hfz10_2 := blk_frozen BK190.out 2
  have hfz10_3 := blk_frozen BK190.out 3
  go_upto_if 21 with (first | ((with_reducible refine gate_callee (f := 41) rfl ?_); refine goesL_ (some 16) rfl rfl Try.func41 zK rfl #[.agg #[.int .i64 a0_0, .int .i64 a0_1, .int .i64 a0_2, .slice A0_3 l0_3.length c0_3]] rfl zM ?_; (with_reducible refine (ancepsref08_lengths.calls k a0_0 a0_1 a0_2 _ _ l0_3 t192 t193 t194 _ ?side1 ?side2 A8.out).mono ?_); (case side1 => repeat (first | exact (Kd.C_below HR0_3.out HB.out) | (with_reducible refine Kd.C_alloc ?_ _) | (with_reducible refine Kd.C_drewN ?_ _) | (with_reducible refine Kd.C_drew ?_))); (case side2 => exact HC0_3.out); rintro e w11 ⟨rfl, hb⟩; refine ⟨_, rfl, ?_⟩; have n0_ := Aside0.mk (blk_below (g := gb190) (o := .cells #[.int .i64 a0_0, .int .i64 a0_1, .int .i64 a0_2, .slice A0_3 l0_3.length c0_3] 24 (0, 0)) (zk BK190) hb); have n1_ := Aside0.mk (below_step zB hb); clear BK190; clear HB; have BK190 := n0_; have HB := n1_; clear n0_ n1_; (try clear hb); (try clear hb2); (try clear hk); (try clear hi)))
  (try simp only [Act.put, List.setIfInBounds_toArray, List.set_cons_zero, List.set_cons_succ])
  have H := HC9.out
  clear HC9
  by_cases c12 : t194 = true
  ·subst c12
   have H1 : (some (t192, t193, 0)) = some (r1, r2, r3) := by rw [if_pos rfl] at H; exact H
   clear H
   have H := H1
   clear H1
   simp only [Option.some.injEq, Prod.mk.injEq] at H
   obtain ⟨rfl, rfl, rfl⟩ := H
   go_wp2
   go_ret3
   exact ⟨by first | rfl | (simp [errW_none, errW_some] <;> rfl) | (simp [*, errW_none, errW_some] <;> rfl), by repeat (first | (with_reducible first | exact HB.out | apply below_alloc | apply pw_below_drewN | apply below_drew1 | refine below_set ?_ GE190.out) | exact HB.out)⟩
  ·replace c12 := Bool.eq_false_iff.mpr c12
   subst c12
   have H1 : (some (0, 0, 10)) = some (r1, r2, r3) := by rw [if_neg (show ¬ (false = true) by decide)] at H; exact H
   clear H
   have H := H1
   clear H1
   simp only [Option.some.injEq, Prod.mk.injEq] at H
   obtain ⟨rfl, rfl, rfl⟩ := H
   go_wp2
   go_ret3
   exact ⟨by first | rfl | (simp [errW_none, errW_some] <;> rfl) | (simp [*, errW_none, errW_some] <;> rfl), by repeat (first | (with_reducible first | exact HB.out | apply below_alloc | apply pw_below_drewN | apply below_drew1 | refine below_set ?_ GE190.out) | exact HB.out)⟩
 ·rw [if_neg c7] at H
  have c7b0 : (t191 == 0) = false := beq_eq_false_iff_ne.mpr c7
  have c7b1 : (t191 != 0) = true := bne_iff_ne.mpr c7
  (first | rw [c7b0] | (simp only [i64_w, i32_w]; rw [c7b0]) | skip)
  (try rw [c7b1])
  simp only [Option.some.injEq, Prod.mk.injEq] at H
  obtain ⟨rfl, rfl, rfl⟩ := H
  go_wp2
  go_ret3
  exact ⟨by first | rfl | (simp [errW_none, errW_some] <;> rfl) | (simp [*, errW_none, errW_some] <;> rfl), by repeat (first | (with_reducible first | exact HB.out | apply below_alloc | apply pw_below_drewN | apply below_drew1 | refine below_set ?_ GE190.out) | exact HB.out)⟩
/-! ### ancepslaw08_ExprLengths: function 5 -/
def ancepslaw08_ExprLengths.f (k : Nat) (a0_0 : Int) (a0_1 : Int) (a0_2 : Int) (l0_3 : List (S24)) : Option (Bool) := (ancepslaw08_awake.f k).bind fun t196 => (if t196 = true then ((ancepsref08_Few.f k a0_0 a0_1 a0_2 l0_3 100).bind fun t197 => (if t197 = true then ((expr_Lengths.f k a0_0 a0_1 a0_2 l0_3).bind fun bt198 => ((ancepsref08_Lengths.f k a0_0 a0_1 a0_2 l0_3).bind fun bt201 => (if bt198.1 = bt201.1 then (if bt198.2.1 = bt201.2.1 then (some (bt198.2.2 == bt201.2.2)) else (none)) else (none)))) else ((ancepslaw08_awake.f k).bind fun t204 => (some t204)))) else ((ancepslaw08_awake.f k).bind fun t205 => (some t205)))
theorem ancepslaw08_ExprLengths.mono : ∀ a0 a1 a2 a3 k, LeO (ancepslaw08_ExprLengths.f k a0 a1 a2 a3) (ancepslaw08_ExprLengths.f (k + 1) a0 a1 a2 a3) := by
 intro a0 a1 a2 a3 k
 unfold ancepslaw08_ExprLengths.f
 repeat' first
   | (with_reducible exact ancepslaw08_awake.mono _)
   | (with_reducible exact ancepsref08_Few.mono _ _ _ _ _ _)
   | (with_reducible exact ancepsref08_Lengths.mono _ _ _ _ _)
   | (with_reducible exact expr_Lengths.mono _ _ _ _ _)
   | (with_reducible exact LeO.refl _)
   | (with_reducible exact LeO.none _)
   | (with_reducible refine LeO.ite ?_ ?_)
   | (with_reducible refine LeO.bind ?_ (fun _ => ?_))
   | exact ancepslaw08_awake.mono _
   | exact ancepsref08_Few.mono _ _ _ _ _ _
   | exact ancepsref08_Lengths.mono _ _ _ _ _
   | exact expr_Lengths.mono _ _ _ _ _
   | exact LeO.none _
   | refine LeO.ite ?_ ?_
   | refine LeO.bind ?_ (fun _ => ?_)
set_option maxHeartbeats 8000000 in
set_option maxRecDepth 100000 in
theorem ancepslaw08_ExprLengths.calls (k : Nat) (a0_0 : Int) (a0_1 : Int) (a0_2 : Int) (A0_3 : Option Addr) (c0_3 : Nat) (l0_3 : List (S24)) (r : Bool) (w : World) (hr0_3 : Kd.C k24 w A0_3 l0_3.length l0_3) (hc0_3 : l0_3.length ≤ c0_3) (h : ancepslaw08_ExprLengths.f k a0_0 a0_1 a0_2 l0_3 = some r) :
  Calls Try.prog 5 #[.agg #[.int .i64 a0_0, .int .i64 a0_1, .int .i64 a0_2, .slice A0_3 l0_3.length c0_3]] w fun e w' => e = .returned (.bool r) ∧ Below w.heap.size w w' := by
 have hu24 := Try.underlying24
 have HR0_3 := Aside0.mk hr0_3
 have HC0_3 := Aside0.mk hc0_3
 clear hr0_3 hc0_3
 have HB := Aside0.mk (Below.refl w.heap.size w)
 have H : ((ancepslaw08_awake.f k).bind fun t196 => (if t196 = true then ((ancepsref08_Few.f k a0_0 a0_1 a0_2 l0_3 100).bind fun t197 => (if t197 = true then ((expr_Lengths.f k a0_0 a0_1 a0_2 l0_3).bind fun bt198 => ((ancepsref08_Lengths.f k a0_0 a0_1 a0_2 l0_3).bind fun bt201 => (if bt198.1 = bt201.1 then (if bt198.2.1 = bt201.2.1 then (some (bt198.2.2 == bt201.2.2)) else (none)) else (none)))) else ((ancepslaw08_awake.f k).bind fun t204 => (some t204)))) else ((ancepslaw08_awake.f k).bind fun t205 => (some t205)))) = some r := h
 clear h
 have HC2 := Aside0.mk H
 clear H
 go_enter Try.func5, Try.ntmps5
 go_upto_region 1 with (first | ((with_reducible refine gate_dst (N := 1) rfl ?_); refine box_event ?hg (N := 1) ?hd (cs := #[.int .i64 a0_0, .int .i64 a0_1, .int .i64 a0_2, .slice A0_3 l0_3.length c0_3]) (t := 24) ?hr ?_; (case hd => rfl); (case hg => rfl); (case hr => first | (go_simp; done) | (go_simp; rfl)); intro gb195 hg w3 hbox hb; have n0_ := Aside0.mk (below_step zB hb); have n1_ := Aside0.mk (hbox); have n2_ := Aside0.mk ((by rw [hg]; exact (below_size zB) : w.heap.size ≤ gb195)); have n3_ := Aside0.mk ((by rw [hg]; exact (below_size zB) : w.heap.size ≤ gb195)); clear HB; have HB := n0_; have BK195 := n1_; have GW195 := n2_; have GE195 := n3_; clear n0_ n1_ n2_ n3_; clear hb hbox hg))
 (try simp only [Act.put, List.setIfInBounds_toArray, List.set_cons_zero, List.set_cons_succ])
 have H := HC2.out
 clear HC2
 replace H := Option.bind_eq_some_iff.mp H
 obtain ⟨t196, A40, H⟩ := H
 replace H : (if t196 = true then ((ancepsref08_Few.f k a0_0 a0_1 a0_2 l0_3 100).bind fun t197 => (if t197 = true then ((expr_Lengths.f k a0_0 a0_1 a0_2 l0_3).bind fun bt198 => ((ancepsref08_Lengths.f k a0_0 a0_1 a0_2 l0_3).bind fun bt201 => (if bt198.1 = bt201.1 then (if bt198.2.1 = bt201.2.1 then (some (bt198.2.2 == bt201.2.2)) else (none)) else (none)))) else ((ancepslaw08_awake.f k).bind fun t204 => (some t204)))) else ((ancepslaw08_awake.f k).bind fun t205 => (some t205))) = some r := H
 have A4 := Aside0.mk A40
 clear A40
 by_cases c5 : t196 = true
 ·subst c5
  have H1 : ((ancepsref08_Few.f k a0_0 a0_1 a0_2 l0_3 100).bind fun t197 => (if t197 = true then ((expr_Lengths.f k a0_0 a0_1 a0_2 l0_3).bind fun bt198 => ((ancepsref08_Lengths.f k a0_0 a0_1 a0_2 l0_3).bind fun bt201 => (if bt198.1 = bt201.1 then (if bt198.2.1 = bt201.2.1 then (some (bt198.2.2 == bt201.2.2)) else (none)) else (none)))) else ((ancepslaw08_awake.f k).bind fun t204 => (some t204)))) = some r := by rw [if_pos rfl] at H; exact H
  clear H
  have H := H1
  clear H1
  replace H := Option.bind_eq_some_iff.mp H
  obtain ⟨t197, A60, H⟩ := H
  replace H : (if t197 = true then ((expr_Lengths.f k a0_0 a0_1 a0_2 l0_3).bind fun bt198 => ((ancepsref08_Lengths.f k a0_0 a0_1 a0_2 l0_3).bind fun bt201 => (if bt198.1 = bt201.1 then (if bt198.2.1 = bt201.2.1 then (some (bt198.2.2 == bt201.2.2)) else (none)) else (none)))) else ((ancepslaw08_awake.f k).bind fun t204 => (some t204))) = some r := H
  have A6 := Aside0.mk A60
  clear A60
  have HC7 := Aside0.mk H
  clear H
  go_upto_if 15 with (first | ((with_reducible refine gate_callee (f := 7) rfl ?_); refine goesL_ (some 9) rfl rfl Try.func7 zK rfl #[] rfl zM ?_; (with_reducible refine (ancepslaw08_awake.calls k  true _ A4.out).mono ?_); rintro e w8 ⟨rfl, hb⟩; refine ⟨_, rfl, ?_⟩; have n0_ := Aside0.mk (blk_below (g := gb195) (o := .cells #[.int .i64 a0_0, .int .i64 a0_1, .int .i64 a0_2, .slice A0_3 l0_3.length c0_3] 24 (0, 0)) (zk BK195) hb); have n1_ := Aside0.mk (below_step zB hb); clear BK195; clear HB; have BK195 := n0_; have HB := n1_; clear n0_ n1_; (try clear hb); (try clear hb2); (try clear hk); (try clear hi); have hcz9_0 : w8.cell? ⟨gb195, 0, none⟩ = some (.int .i64 a0_0) := (blk_cell BK195.out 0).trans rfl; have hcz9_1 : w8.cell? ⟨gb195, 1, none⟩ = some (.int .i64 a0_1) := (blk_cell BK195.out 1).trans rfl; have hcz9_2 : w8.cell? ⟨gb195, 2, none⟩ = some (.int .i64 a0_2) := (blk_cell BK195.out 2).trans rfl; have hcz9_3 : w8.cell? ⟨gb195, 3, none⟩ = some (.slice A0_3 l0_3.length c0_3) := (blk_cell BK195.out 3).trans rfl; have hfz9_0 := blk_frozen BK195.out 0; have hfz9_1 := blk_frozen BK195.out 1; have hfz9_2 := blk_frozen BK195.out 2; have hfz9_3 := blk_frozen BK195.out 3) | (go_at_call 8; (with_reducible refine (ancepsref08_Few.calls k a0_0 a0_1 a0_2 _ _ l0_3 100 t197 _ ?side1 ?side2 A6.out).mono ?_); (case side1 => repeat (first | exact (Kd.C_below HR0_3.out HB.out) | (with_reducible refine Kd.C_alloc ?_ _) | (with_reducible refine Kd.C_drewN ?_ _) | (with_reducible refine Kd.C_drew ?_))); (case side2 => exact HC0_3.out); rintro e w10 ⟨rfl, hb⟩; have n0_ := Aside0.mk (blk_below (g := gb195) (o := .cells #[.int .i64 a0_0, .int .i64 a0_1, .int .i64 a0_2, .slice A0_3 l0_3.length c0_3] 24 (0, 0)) (zk BK195) hb); have n1_ := Aside0.mk (below_step zB hb); clear BK195; clear HB; have BK195 := n0_; have HB := n1_; clear n0_ n1_; (try clear hb); (try clear hb2); (try clear hk); (try clear hi)))
  (try simp only [Act.put, List.setIfInBounds_toArray, List.set_cons_zero, List.set_cons_succ])
  have H := HC7.out
  clear HC7
  by_cases c11 : t197 = true
  ·subst c11
   have H1 : ((expr_Lengths.f k a0_0 a0_1 a0_2 l0_3).bind fun bt198 => ((ancepsref08_Lengths.f k a0_0 a0_1 a0_2 l0_3).bind fun bt201 => (if bt198.1 = bt201.1 then (if bt198.2.1 = bt201.2.1 then (some (bt198.2.2 == bt201.2.2)) else (none)) else (none)))) = some r := by rw [if_pos rfl] at H; exact H
   clear H
   have H := H1
   clear H1
   replace H := Option.bind_eq_some_iff.mp H
   obtain ⟨⟨t198, t199, t200⟩, A120, H⟩ := H
   replace H : ((ancepsref08_Lengths.f k a0_0 a0_1 a0_2 l0_3).bind fun bt201 => (if t198 = bt201.1 then (if t199 = bt201.2.1 then (some (t200 == bt201.2.2)) else (none)) else (none))) = some r := H
   have A12 := Aside0.mk A120
   clear A120
   replace H := Option.bind_eq_some_iff.mp H
   obtain ⟨⟨t201, t202, t203⟩, A130, H⟩ := H
   replace H : (if t198 = t201 then (if t199 = t202 then (some (t200 == t203)) else (none)) else (none)) = some r := H
   have A13 := Aside0.mk A130
   clear A130
   by_cases c14 : t198 = t201
   ·rw [if_pos c14] at H
    have c14b0 : (t198 == t201) = true := beq_iff_eq.mpr c14
    have c14b1 : (t198 != t201) = false := bne_eq_false_iff_eq.mpr c14
    clear c14
    (first | rw [c14b0] | (simp only [i64_w, i32_w]; rw [c14b0]) | skip)
    (try rw [c14b1])
    by_cases c15 : t199 = t202
    ·rw [if_pos c15] at H
     have c15b0 : (t199 == t202) = true := beq_iff_eq.mpr c15
     have c15b1 : (t199 != t202) = false := bne_eq_false_iff_eq.mpr c15
     clear c15
     obtain rfl := Option.some.inj H
     have hcz16_0 : w10.cell? ⟨gb195, 0, none⟩ = some (.int .i64 a0_0) := (blk_cell BK195.out 0).trans rfl
     have hcz16_1 : w10.cell? ⟨gb195, 1, none⟩ = some (.int .i64 a0_1) := (blk_cell BK195.out 1).trans rfl
     have hcz16_2 : w10.cell? ⟨gb195, 2, none⟩ = some (.int .i64 a0_2) := (blk_cell BK195.out 2).trans rfl
     have hcz16_3 : w10.cell? ⟨gb195, 3, none⟩ = some (.slice A0_3 l0_3.length c0_3) := (blk_cell BK195.out 3).trans rfl
     have hfz16_0 := blk_frozen BK195.out 0
     have hfz16_1 := blk_frozen BK195.out 1
     have hfz16_2 := blk_frozen BK195.out 2
     have hfz16_3 := blk_frozen BK195.out 3
     go_wp2_with (first | ((with_reducible refine gate_callee (f := 16) rfl ?_); refine goesL_ (some 19) rfl rfl Try.func16 zK rfl #[.agg #[.int .i64 a0_0, .int .i64 a0_1, .int .i64 a0_2, .slice A0_3 l0_3.length c0_3]] rfl zM ?_; (with_reducible refine (expr_Lengths.calls k a0_0 a0_1 a0_2 _ _ l0_3 t198 t199 t200 _ ?side1 ?side2 A12.out).mono ?_); (case side1 => repeat (first | exact (Kd.C_below HR0_3.out HB.out) | (with_reducible refine Kd.C_alloc ?_ _) | (with_reducible refine Kd.C_drewN ?_ _) | (with_reducible refine Kd.C_drew ?_))); (case side2 => exact HC0_3.out); rintro e w17 ⟨rfl, hb⟩; refine ⟨_, rfl, ?_⟩; have n0_ := Aside0.mk (blk_below (g := gb195) (o := .cells #[.int .i64 a0_0, .int .i64 a0_1, .int .i64 a0_2, .slice A0_3 l0_3.length c0_3] 24 (0, 0)) (zk BK195) hb); have n1_ := Aside0.mk (below_step zB hb); clear BK195; clear HB; have BK195 := n0_; have HB := n1_; clear n0_ n1_; (try clear hb); (try clear hb2); (try clear hk); (try clear hi); have hcz18_0 : w17.cell? ⟨gb195, 0, none⟩ = some (.int .i64 a0_0) := (blk_cell BK195.out 0).trans rfl; have hcz18_1 : w17.cell? ⟨gb195, 1, none⟩ = some (.int .i64 a0_1) := (blk_cell BK195.out 1).trans rfl; have hcz18_2 : w17.cell? ⟨gb195, 2, none⟩ = some (.int .i64 a0_2) := (blk_cell BK195.out 2).trans rfl; have hcz18_3 : w17.cell? ⟨gb195, 3, none⟩ = some (.slice A0_3 l0_3.length c0_3) := (blk_cell BK195.out 3).trans rfl; have hfz18_0 := blk_frozen BK195.out 0; have hfz18_1 := blk_frozen BK195.out 1; have hfz18_2 := blk_frozen BK195.out 2; have hfz18_3 := blk_frozen BK195.out 3) | ((with_reducible refine gate_callee (f := 17) rfl ?_); refine goesL_ (some 25) rfl rfl Try.func17 zK rfl #[.agg #[.int .i64 a0_0, .int .i64 a0_1, .int .i64 a0_2, .slice A0_3 l0_3.length c0_3]] rfl zM ?_; (with_reducible refine (ancepsref08_Lengths.calls k a0_0 a0_1 a0_2 _ _ l0_3 t201 t202 t203 _ ?side1 ?side2 A13.out).mono ?_); (case side1 => repeat (first | exact (Kd.C_below HR0_3.out HB.out) | (with_reducible refine Kd.C_alloc ?_ _) | (with_reducible refine Kd.C_drewN ?_ _) | (with_reducible refine Kd.C_drew ?_))); (case side2 => exact HC0_3.out); rintro e w19 ⟨rfl, hb⟩; refine ⟨_, rfl, ?_⟩; have n0_ := Aside0.mk (blk_below (g := gb195) (o := .cells #[.int .i64 a0_0, .int .i64 a0_1, .int .i64 a0_2, .slice A0_3 l0_3.length c0_3] 24 (0, 0)) (zk BK195) hb); have n1_ := Aside0.mk (below_step zB hb); clear BK195; clear HB; have BK195 := n0_; have HB := n1_; clear n0_ n1_; (try clear hb); (try clear hb2); (try clear hk); (try clear hi)))
     go_ret
     exact ⟨by first | rfl | (simp [errW_none, errW_some] <;> rfl) | (simp [*, errW_none, errW_some] <;> rfl), by repeat (first | (with_reducible first | exact HB.out | apply below_alloc | apply pw_below_drewN | apply below_drew1 | refine below_set ?_ GE195.out) | exact HB.out)⟩
    ·rw [if_neg c15] at H
     exact absurd H (by simp)
   ·rw [if_neg c14] at H
    exact absurd H (by simp)
  ·replace c11 := Bool.eq_false_iff.mpr c11
   subst c11
   have H1 : ((ancepslaw08_awake.f k).bind fun t204 => (some t204)) = some r := by rw [if_neg (show ¬ (false = true) by decide)] at H; exact H
   clear H
   have H := H1
   clear H1
   replace H := Option.bind_eq_some_iff.mp H
   obtain ⟨t204, A200, H⟩ := H
   replace H : (some t204) = some r := H
   have A20 := Aside0.mk A200
   clear A200
   obtain rfl := Option.some.inj H
   go_wp2_with (first | ((with_reducible refine gate_callee (f := 7) rfl ?_); refine goesL_ (some 16) rfl rfl Try.func7 zK rfl #[] rfl zM ?_; (with_reducible refine (ancepslaw08_awake.calls k  t204 _ A20.out).mono ?_); rintro e w21 ⟨rfl, hb⟩; refine ⟨_, rfl, ?_⟩; have n0_ := Aside0.mk (blk_below (g := gb195) (o := .cells #[.int .i64 a0_0, .int .i64 a0_1, .int .i64 a0_2, .slice A0_3 l0_3.length c0_3] 24 (0, 0)) (zk BK195) hb); have n1_ := Aside0.mk (below_step zB hb); clear BK195; clear HB; have BK195 := n0_; have HB := n1_; clear n0_ n1_; (try clear hb); (try clear hb2); (try clear hk); (try clear hi)))
   go_ret
   exact ⟨by first | rfl | (simp [errW_none, errW_some] <;> rfl) | (simp [*, errW_none, errW_some] <;> rfl), by repeat (first | (with_reducible first | exact HB.out | apply below_alloc | apply pw_below_drewN | apply below_drew1 | refine below_set ?_ GE195.out) | exact HB.out)⟩
 ·replace c5 := Bool.eq_false_iff.mpr c5
  subst c5
  have H1 : ((ancepslaw08_awake.f k).bind fun t205 => (some t205)) = some r := by rw [if_neg (show ¬ (false = true) by decide)] at H; exact H
  clear H
  have H := H1
  clear H1
  replace H := Option.bind_eq_some_iff.mp H
  obtain ⟨t205, A220, H⟩ := H
  replace H : (some t205) = some r := H
  have A22 := Aside0.mk A220
  clear A220
  obtain rfl := Option.some.inj H
  go_wp2_with (first | ((with_reducible refine gate_callee (f := 7) rfl ?_); refine goesL_ (some 9) rfl rfl Try.func7 zK rfl #[] rfl zM ?_; (with_reducible refine (ancepslaw08_awake.calls k  false _ A4.out).mono ?_); rintro e w23 ⟨rfl, hb⟩; refine ⟨_, rfl, ?_⟩; have n0_ := Aside0.mk (blk_below (g := gb195) (o := .cells #[.int .i64 a0_0, .int .i64 a0_1, .int .i64 a0_2, .slice A0_3 l0_3.length c0_3] 24 (0, 0)) (zk BK195) hb); have n1_ := Aside0.mk (below_step zB hb); clear BK195; clear HB; have BK195 := n0_; have HB := n1_; clear n0_ n1_; (try clear hb); (try clear hb2); (try clear hk); (try clear hi)) | ((with_reducible refine gate_callee (f := 7) rfl ?_); refine goesL_ (some 16) rfl rfl Try.func7 zK rfl #[] rfl zM ?_; (with_reducible refine (ancepslaw08_awake.calls k  t205 _ A22.out).mono ?_); rintro e w24 ⟨rfl, hb⟩; refine ⟨_, rfl, ?_⟩; have n0_ := Aside0.mk (blk_below (g := gb195) (o := .cells #[.int .i64 a0_0, .int .i64 a0_1, .int .i64 a0_2, .slice A0_3 l0_3.length c0_3] 24 (0, 0)) (zk BK195) hb); have n1_ := Aside0.mk (below_step zB hb); clear BK195; clear HB; have BK195 := n0_; have HB := n1_; clear n0_ n1_; (try clear hb); (try clear hb2); (try clear hk); (try clear hi)))
  go_ret
  exact ⟨by first | rfl | (simp [errW_none, errW_some] <;> rfl) | (simp [*, errW_none, errW_some] <;> rfl), by repeat (first | (with_reducible first | exact HB.out | apply below_alloc | apply pw_below_drewN | apply below_drew1 | refine below_set ?_ GE195.out) | exact HB.out)⟩
end Go.Proofs.Ytpojokndmkhpkaa.M
