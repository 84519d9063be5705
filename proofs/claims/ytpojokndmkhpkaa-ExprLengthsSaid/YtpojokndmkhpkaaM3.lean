-- Written by wip/tools/myprint.py, a program of this session's.
import Derived.Test.YtpojokndmkhpkaaM0
import Derived.Test.YtpojokndmkhpkaaM2
namespace Go.Proofs.Ytpojokndmkhpkaa.M
open Go.RowKit Go.Proofs.YtpojokndmkhpkaaW.PrintWords Go.Proofs.YtpojokndmkhpkaaW.PrintLast Go.Proofs.YtpojokndmkhpkaaW.PrintMore
attribute [local go_sem] max2_int min2_int max_two min_two max_three min_three max_four min_four   -- for this text's walks alone
set_option linter.unusedVariables false
set_option linter.unusedSimpArgs false
/-! ### expr_span: function 40 -/
mutual
def expr_span.l0 : Nat → Int → Int → Bool → List (S24) → Int → Int → Option (Int × Int × Bool)
 | 0, _, _, _, _, _, _ => none
 | k + 1, x5, x6, x7, x37, x38, x39 => if x39 < x38 then (if 0 ≤ x39 then (if x39 < (x37.length : Int) then ((expr_span.f k ((rd_T24 x37 x39).f0) ((rd_T24 x37 x39).f1) ((rd_T24 x37 x39).f2) ((rd_T24 x37 x39).f3)).bind fun bt132 => (if bt132.2.2 = true then (if x7 = true then (if bt132.2.1 < 0 then (expr_span.l0 k (mn x5 bt132.1) bt132.2.1 true x37 x38 (wrap64 (x39 + 1))) else (if x6 ≥ 0 then (if bt132.2.1 > x6 then (expr_span.l0 k (mn x5 bt132.1) bt132.2.1 true x37 x38 (wrap64 (x39 + 1))) else (expr_span.l0 k (mn x5 bt132.1) x6 true x37 x38 (wrap64 (x39 + 1)))) else (expr_span.l0 k (mn x5 bt132.1) x6 true x37 x38 (wrap64 (x39 + 1))))) else (expr_span.l0 k bt132.1 bt132.2.1 true x37 x38 (wrap64 (x39 + 1)))) else (expr_span.l0 k x5 x6 x7 x37 x38 (wrap64 (x39 + 1))))) else (none)) else (none)) else (some (x5, x6, x7))
def expr_span.l1 : Nat → Int → Int → Bool → List (S24) → Int → Int → Option (Int × Int × Bool)
 | 0, _, _, _, _, _, _ => none
 | k + 1, x19, x20, x21, x123, x124, x125 => if x125 < x124 then (if 0 ≤ x125 then (if x125 < (x123.length : Int) then ((expr_span.f k ((rd_T24 x123 x125).f0) ((rd_T24 x123 x125).f1) ((rd_T24 x123 x125).f2) ((rd_T24 x123 x125).f3)).bind fun bt149 => (if x21 = true then (if bt149.2.1 < 0 then (expr_span.l1 k (wrap64 (x19 + bt149.1)) (-1) bt149.2.2 x123 x124 (wrap64 (x125 + 1))) else (if x20 < 0 then (expr_span.l1 k (wrap64 (x19 + bt149.1)) (-1) bt149.2.2 x123 x124 (wrap64 (x125 + 1))) else (expr_span.l1 k (wrap64 (x19 + bt149.1)) (wrap64 (x20 + bt149.2.1)) bt149.2.2 x123 x124 (wrap64 (x125 + 1))))) else (if bt149.2.1 < 0 then (expr_span.l1 k (wrap64 (x19 + bt149.1)) (-1) false x123 x124 (wrap64 (x125 + 1))) else (if x20 < 0 then (expr_span.l1 k (wrap64 (x19 + bt149.1)) (-1) false x123 x124 (wrap64 (x125 + 1))) else (expr_span.l1 k (wrap64 (x19 + bt149.1)) (wrap64 (x20 + bt149.2.1)) false x123 x124 (wrap64 (x125 + 1))))))) else (none)) else (none)) else (some (x19, x20, x21))
def expr_span.f : Nat → Int → Int → Int → List (S24) → Option (Int × Int × Bool)
 | 0, _, _, _, _ => none
 | k + 1, a0_0, a0_1, a0_2, l0_3 => if a0_0 = 1 then (some (1, 1, (a0_1 != 0))) else (if a0_0 = 3 then (expr_span.l0 k 0 0 false l0_3 (l0_3.length : Int) 0) else (if a0_0 = 5 then (if 0 < (l0_3.length : Int) then ((expr_span.f k ((rd_T24 l0_3 0).f0) ((rd_T24 l0_3 0).f1) ((rd_T24 l0_3 0).f2) ((rd_T24 l0_3 0).f3)).bind fun bt136 => (if bt136.2.2 = true then (if bt136.2.1 > 0 then (some (0, (-1), true)) else (some (0, bt136.2.1, true))) else (some (0, 0, true)))) else (none)) else (if a0_0 = 6 then (if 0 < (l0_3.length : Int) then ((expr_span.f k ((rd_T24 l0_3 0).f0) ((rd_T24 l0_3 0).f1) ((rd_T24 l0_3 0).f2) ((rd_T24 l0_3 0).f3)).bind fun bt140 => (if bt140.2.2 = true then (some (0, bt140.2.1, true)) else (some (0, 0, true)))) else (none)) else (if a0_0 = 4 then (if 0 < (l0_3.length : Int) then ((expr_span.f k ((rd_T24 l0_3 0).f0) ((rd_T24 l0_3 0).f1) ((rd_T24 l0_3 0).f2) ((rd_T24 l0_3 0).f3)).bind fun bt144 => (if a0_2 = 0 then (some (0, 0, true)) else (if bt144.2.1 > 0 then (some (wrap64 (bt144.1 * a0_2), wrap64 (bt144.2.1 * a0_2), bt144.2.2)) else (some (wrap64 (bt144.1 * a0_2), bt144.2.1, bt144.2.2))))) else (none)) else (expr_span.l1 k 0 0 true l0_3 (l0_3.length : Int) 0)))))
end
theorem expr_span.mono_l : ∀ k, (∀ y0 y1 y2 y3, LeO (expr_span.f k y0 y1 y2 y3) (expr_span.f (k + 1) y0 y1 y2 y3)) ∧ (∀ y0 y1 y2 y3 y4 y5, LeO (expr_span.l0 k y0 y1 y2 y3 y4 y5) (expr_span.l0 (k + 1) y0 y1 y2 y3 y4 y5)) ∧ (∀ y0 y1 y2 y3 y4 y5, LeO (expr_span.l1 k y0 y1 y2 y3 y4 y5) (expr_span.l1 (k + 1) y0 y1 y2 y3 y4 y5))
 | 0 => ⟨fun _ _ _ _ r h => by simp [expr_span.f] at h, fun _ _ _ _ _ _ r h => by simp [expr_span.l0] at h, fun _ _ _ _ _ _ r h => by simp [expr_span.l1] at h⟩
 | k + 1 => by
  obtain ⟨ih0, ih1, ih2⟩ := expr_span.mono_l k
  refine ⟨?_, ?_, ?_⟩
  ·intro y0 y1 y2 y3
   unfold expr_span.f
   repeat' first
   | (with_reducible exact ih0 _ _ _ _)
   | (with_reducible exact ih1 _ _ _ _ _ _)
   | (with_reducible exact ih2 _ _ _ _ _ _)
   | (with_reducible exact LeO.refl _)
   | (with_reducible exact LeO.none _)
   | (with_reducible refine LeO.ite ?_ ?_)
   | (with_reducible refine LeO.bind ?_ (fun _ => ?_))
   | exact ih0 _ _ _ _
   | exact ih1 _ _ _ _ _ _
   | exact ih2 _ _ _ _ _ _
   | exact LeO.none _
   | refine LeO.ite ?_ ?_
   | refine LeO.bind ?_ (fun _ => ?_)
  ·intro y0 y1 y2 y3 y4 y5
   unfold expr_span.l0
   repeat' first
   | (with_reducible exact ih0 _ _ _ _)
   | (with_reducible exact ih1 _ _ _ _ _ _)
   | (with_reducible exact ih2 _ _ _ _ _ _)
   | (with_reducible exact LeO.refl _)
   | (with_reducible exact LeO.none _)
   | (with_reducible refine LeO.ite ?_ ?_)
   | (with_reducible refine LeO.bind ?_ (fun _ => ?_))
   | exact ih0 _ _ _ _
   | exact ih1 _ _ _ _ _ _
   | exact ih2 _ _ _ _ _ _
   | exact LeO.none _
   | refine LeO.ite ?_ ?_
   | refine LeO.bind ?_ (fun _ => ?_)
  ·intro y0 y1 y2 y3 y4 y5
   unfold expr_span.l1
   repeat' first
   | (with_reducible exact ih0 _ _ _ _)
   | (with_reducible exact ih1 _ _ _ _ _ _)
   | (with_reducible exact ih2 _ _ _ _ _ _)
   | (with_reducible exact LeO.refl _)
   | (with_reducible exact LeO.none _)
   | (with_reducible refine LeO.ite ?_ ?_)
   | (with_reducible refine LeO.bind ?_ (fun _ => ?_))
   | exact ih0 _ _ _ _
   | exact ih1 _ _ _ _ _ _
   | exact ih2 _ _ _ _ _ _
   | exact LeO.none _
   | refine LeO.ite ?_ ?_
   | refine LeO.bind ?_ (fun _ => ?_)
theorem expr_span.mono : ∀ a0 a1 a2 a3 k, LeO (expr_span.f k a0 a1 a2 a3) (expr_span.f (k + 1) a0 a1 a2 a3) := by
 intro a0 a1 a2 a3 k
 obtain ⟨ih0, ih1, ih2⟩ := expr_span.mono_l k
 exact ih0 a0 a1 a2 a3
set_option maxHeartbeats 8000000 in
set_option maxRecDepth 100000 in
theorem expr_span.calls (k : Nat) : ∀ (a0_0 : Int) (a0_1 : Int) (a0_2 : Int) (A0_3 : Option Addr) (c0_3 : Nat) (l0_3 : List (S24)) (r1 : Int) (r2 : Int) (r3 : Bool) (w : World) (hr0_3 : Kd.C k24 w A0_3 l0_3.length l0_3) (hc0_3 : l0_3.length ≤ c0_3) (h : expr_span.f k a0_0 a0_1 a0_2 l0_3 = some (r1, r2, r3)),
  Calls Try.prog 40 #[.agg #[.int .i64 a0_0, .int .i64 a0_1, .int .i64 a0_2, .slice A0_3 l0_3.length c0_3]] w fun e w' => e = .returned (.tuple #[.int .i64 r1, .int .i64 r2, .bool r3]) ∧ Below w.heap.size w w' := by
 induction k using Nat.strongRecOn with
 | _ k ih =>
 intro a0_0 a0_1 a0_2 A0_3 c0_3 l0_3 r1 r2 r3 w hr0_3 hc0_3 h
 cases k with
 | zero => exact absurd h (by simp [expr_span.f])
 | succ k =>
 simp only [expr_span.f] at h
 have hu24 := Try.underlying24
 have hu3 := Try.underlying3
 have hu22 := Try.underlying22
 have HR0_3 := Aside0.mk hr0_3
 have HC0_3 := Aside0.mk hc0_3
 clear hr0_3 hc0_3
 have HB := Aside0.mk (Below.refl w.heap.size w)
 have H : (if a0_0 = 1 then (some (1, 1, (a0_1 != 0))) else (if a0_0 = 3 then (expr_span.l0 k 0 0 false l0_3 (l0_3.length : Int) 0) else (if a0_0 = 5 then (if 0 < (l0_3.length : Int) then ((expr_span.f k ((rd_T24 l0_3 0).f0) ((rd_T24 l0_3 0).f1) ((rd_T24 l0_3 0).f2) ((rd_T24 l0_3 0).f3)).bind fun bt136 => (if bt136.2.2 = true then (if bt136.2.1 > 0 then (some (0, (-1), true)) else (some (0, bt136.2.1, true))) else (some (0, 0, true)))) else (none)) else (if a0_0 = 6 then (if 0 < (l0_3.length : Int) then ((expr_span.f k ((rd_T24 l0_3 0).f0) ((rd_T24 l0_3 0).f1) ((rd_T24 l0_3 0).f2) ((rd_T24 l0_3 0).f3)).bind fun bt140 => (if bt140.2.2 = true then (some (0, bt140.2.1, true)) else (some (0, 0, true)))) else (none)) else (if a0_0 = 4 then (if 0 < (l0_3.length : Int) then ((expr_span.f k ((rd_T24 l0_3 0).f0) ((rd_T24 l0_3 0).f1) ((rd_T24 l0_3 0).f2) ((rd_T24 l0_3 0).f3)).bind fun bt144 => (if a0_2 = 0 then (some (0, 0, true)) else (if bt144.2.1 > 0 then (some (wrap64 (bt144.1 * a0_2), wrap64 (bt144.2.1 * a0_2), bt144.2.2)) else (some (wrap64 (bt144.1 * a0_2), bt144.2.1, bt144.2.2))))) else (none)) else (expr_span.l1 k 0 0 true l0_3 (l0_3.length : Int) 0)))))) = some (r1, r2, r3) := h
 clear h
 have HC2 := Aside0.mk H
 clear H
 go_enter Try.func40, Try.ntmps40
 go_upto_if 29 with (first | ((with_reducible refine gate_dst (N := 1) rfl ?_); refine box_event ?hg (N := 1) ?hd (cs := #[.int .i64 a0_0, .int .i64 a0_1, .int .i64 a0_2, .slice A0_3 l0_3.length c0_3]) (t := 24) ?hr ?_; (case hd => rfl); (case hg => rfl); (case hr => first | (go_simp; done) | (go_simp; rfl)); intro gb129 hg w3 hbox hb; have n0_ := Aside0.mk (below_step zB hb); have n1_ := Aside0.mk (hbox); have n2_ := Aside0.mk ((by rw [hg]; exact (below_size zB) : w.heap.size ≤ gb129)); have n3_ := Aside0.mk ((by rw [hg]; exact (below_size zB) : w.heap.size ≤ gb129)); clear HB; have HB := n0_; have BK129 := n1_; have GW129 := n2_; have GE129 := n3_; clear n0_ n1_ n2_ n3_; clear hb hbox hg; have hcz4_0 : w3.cell? ⟨gb129, 0, none⟩ = some (.int .i64 a0_0) := (blk_cell BK129.out 0).trans rfl; have hcz4_1 : w3.cell? ⟨gb129, 1, none⟩ = some (.int .i64 a0_1) := (blk_cell BK129.out 1).trans rfl; have hcz4_2 : w3.cell? ⟨gb129, 2, none⟩ = some (.int .i64 a0_2) := (blk_cell BK129.out 2).trans rfl; have hcz4_3 : w3.cell? ⟨gb129, 3, none⟩ = some (.slice A0_3 l0_3.length c0_3) := (blk_cell BK129.out 3).trans rfl; have hfz4_0 := blk_frozen BK129.out 0; have hfz4_1 := blk_frozen BK129.out 1; have hfz4_2 := blk_frozen BK129.out 2; have hfz4_3 := blk_frozen BK129.out 3))
 repeat (go_quiet (first | ((with_reducible refine gate_dst (N := 1) rfl ?_); refine box_event ?hg (N := 1) ?hd (cs := #[.int .i64 a0_0, .int .i64 a0_1, .int .i64 a0_2, .slice A0_3 l0_3.length c0_3]) (t := 24) ?hr ?_; (case hd => rfl); (case hg => rfl); (case hr => first | (go_simp; done) | (go_simp; rfl)); intro gb129 hg w3 hbox hb; have n0_ := Aside0.mk (below_step zB hb); have n1_ := Aside0.mk (hbox); have n2_ := Aside0.mk ((by rw [hg]; exact (below_size zB) : w.heap.size ≤ gb129)); have n3_ := Aside0.mk ((by rw [hg]; exact (below_size zB) : w.heap.size ≤ gb129)); clear HB; have HB := n0_; have BK129 := n1_; have GW129 := n2_; have GE129 := n3_; clear n0_ n1_ n2_ n3_; clear hb hbox hg; have hcz4_0 : w3.cell? ⟨gb129, 0, none⟩ = some (.int .i64 a0_0) := (blk_cell BK129.out 0).trans rfl; have hcz4_1 : w3.cell? ⟨gb129, 1, none⟩ = some (.int .i64 a0_1) := (blk_cell BK129.out 1).trans rfl; have hcz4_2 : w3.cell? ⟨gb129, 2, none⟩ = some (.int .i64 a0_2) := (blk_cell BK129.out 2).trans rfl; have hcz4_3 : w3.cell? ⟨gb129, 3, none⟩ = some (.slice A0_3 l0_3.length c0_3) := (blk_cell BK129.out 3).trans rfl; have hfz4_0 := blk_frozen BK129.out 0; have hfz4_1 := blk_frozen BK129.out 1; have hfz4_2 := blk_frozen BK129.out 2; have hfz4_3 := blk_frozen BK129.out 3)); go_upto_if 29 with (first | ((with_reducible refine gate_dst (N := 1) rfl ?_); refine box_event ?hg (N := 1) ?hd (cs := #[.int .i64 a0_0, .int .i64 a0_1, .int .i64 a0_2, .slice A0_3 l0_3.length c0_3]) (t := 24) ?hr ?_; (case hd => rfl); (case hg => rfl); (case hr => first | (go_simp; done) | (go_simp; rfl)); intro gb129 hg w3 hbox hb; have n0_ := Aside0.mk (below_step zB hb); have n1_ := Aside0.mk (hbox); have n2_ := Aside0.mk ((by rw [hg]; exact (below_size zB) : w.heap.size ≤ gb129)); have n3_ := Aside0.mk ((by rw [hg]; exact (below_size zB) : w.heap.size ≤ gb129)); clear HB; have HB := n0_; have BK129 := n1_; have GW129 := n2_; have GE129 := n3_; clear n0_ n1_ n2_ n3_; clear hb hbox hg; have hcz4_0 : w3.cell? ⟨gb129, 0, none⟩ = some (.int .i64 a0_0) := (blk_cell BK129.out 0).trans rfl; have hcz4_1 : w3.cell? ⟨gb129, 1, none⟩ = some (.int .i64 a0_1) := (blk_cell BK129.out 1).trans rfl; have hcz4_2 : w3.cell? ⟨gb129, 2, none⟩ = some (.int .i64 a0_2) := (blk_cell BK129.out 2).trans rfl; have hcz4_3 : w3.cell? ⟨gb129, 3, none⟩ = some (.slice A0_3 l0_3.length c0_3) := (blk_cell BK129.out 3).trans rfl; have hfz4_0 := blk_frozen BK129.out 0; have hfz4_1 := blk_frozen BK129.out 1; have hfz4_2 := blk_frozen BK129.out 2; have hfz4_3 := blk_frozen BK129.out 3)))
 (try simp only [Act.put, List.setIfInBounds_toArray, List.set_cons_zero, List.set_cons_succ])
 have H := HC2.out
 clear HC2
 by_cases c5 : a0_0 = 1
 ·rw [if_pos c5] at H
  have c5b0 : (a0_0 == 1) = true := beq_iff_eq.mpr c5
  have c5b1 : (a0_0 != 1) = false := bne_eq_false_iff_eq.mpr c5
  clear c5
  (first | rw [c5b0] | (simp only [i64_w, i32_w]; rw [c5b0]) | skip)
  (try rw [c5b1])
  simp only [Option.some.injEq, Prod.mk.injEq] at H
  obtain ⟨rfl, rfl, rfl⟩ := H
  have hcz6_0 : w3.cell? ⟨gb129, 0, none⟩ = some (.int .i64 a0_0) := (blk_cell BK129.out 0).trans rfl
  have hcz6_1 : w3.cell? ⟨gb129, 1, none⟩ = some (.int .i64 a0_1) := (blk_cell BK129.out 1).trans rfl
  have hcz6_2 : w3.cell? ⟨gb129, 2, none⟩ = some (.int .i64 a0_2) := (blk_cell BK129.out 2).trans rfl
  have hcz6_3 : w3.cell? ⟨gb129, 3, none⟩ = some (.slice A0_3 l0_3.length c0_3) := (blk_cell BK129.out 3).trans rfl
  have hfz6_0 := blk_frozen BK129.out 0
  have hfz6_1 := blk_frozen BK129.out 1
  have hfz6_2 := blk_frozen BK129.out 2
  have hfz6_3 := blk_frozen BK129.out 3
  go_wp2
  repeat (go_quiet (fail); try go_wp2)
  go_ret3
  exact ⟨by first | rfl | (simp [errW_none, errW_some] <;> rfl) | (simp [*, errW_none, errW_some] <;> rfl), by repeat (first | (with_reducible first | exact HB.out | apply below_alloc | apply pw_below_drewN | apply below_drew1 | refine below_set ?_ GE129.out) | exact HB.out)⟩
 ·rw [if_neg c5] at H
  have c5b0 : (a0_0 == 1) = false := beq_eq_false_iff_ne.mpr c5
  have c5b1 : (a0_0 != 1) = true := bne_iff_ne.mpr c5
  (first | rw [c5b0] | (simp only [i64_w, i32_w]; rw [c5b0]) | skip)
  (try rw [c5b1])
  by_cases c7 : a0_0 = 3
  ·rw [if_pos c7] at H
   have c7b0 : (a0_0 == 3) = true := beq_iff_eq.mpr c7
   have c7b1 : (a0_0 != 3) = false := bne_eq_false_iff_eq.mpr c7
   clear c7
   have H' := Aside0.mk H
   clear H
   have hcz8_0 : w3.cell? ⟨gb129, 0, none⟩ = some (.int .i64 a0_0) := (blk_cell BK129.out 0).trans rfl
   have hcz8_1 : w3.cell? ⟨gb129, 1, none⟩ = some (.int .i64 a0_1) := (blk_cell BK129.out 1).trans rfl
   have hcz8_2 : w3.cell? ⟨gb129, 2, none⟩ = some (.int .i64 a0_2) := (blk_cell BK129.out 2).trans rfl
   have hcz8_3 : w3.cell? ⟨gb129, 3, none⟩ = some (.slice A0_3 l0_3.length c0_3) := (blk_cell BK129.out 3).trans rfl
   have hfz8_0 := blk_frozen BK129.out 0
   have hfz8_1 := blk_frozen BK129.out 1
   have hfz8_2 := blk_frozen BK129.out 2
   have hfz8_3 := blk_frozen BK129.out 3
   go_wp2
   repeat (go_quiet (fail); try go_wp2)
   go_loopg [5, 6, 7, 39] k (fun kq v5 v6 v7 v39 w' => ∃ (x5_1 : Int) (x6_1 : Int) (x7_1 : Bool) (x39_1 : Int), v5 = .int .i64 x5_1 ∧ v6 = .int .i64 x6_1 ∧ v7 = .bool x7_1 ∧ v39 = .int .i64 x39_1 ∧ Aside0 (expr_span.l0 kq x5_1 x6_1 x7_1 l0_3 (l0_3.length : Int) x39_1 = some (r1, r2, r3)) ∧ Aside0 (kq ≤ k) ∧ Aside0 (w'.heap[gb129]? = some (.cells #[.int .i64 a0_0, .int .i64 a0_1, .int .i64 a0_2, (.slice A0_3 l0_3.length c0_3)] 24 (0, 0))) ∧ Aside0 (Below w.heap.size w w'))
   case atStart => exact ⟨(0), (0), (false), (0), zT, zT, zT, zT, H', ⟨Nat.le_refl _⟩, ⟨by (with_reducible repeat (first | refine blk_drewN ?_ _ | refine blk_drew ?_ | refine blk_alloc ?_ _)); exact BK129.out⟩, ⟨by repeat (first | (with_reducible first | exact HB.out | apply below_alloc | apply pw_below_drewN | apply below_drew1 | refine below_set ?_ GE129.out) | exact HB.out)⟩⟩
   case round =>
    clear H'
    try clear c5
    try clear c5b0
    try clear c5b1
    try clear c7
    try clear c7b0
    try clear c7b1
    try clear hcz4_0
    try clear hcz4_1
    try clear hcz4_2
    try clear hcz4_3
    try clear hcz8_0
    try clear hcz8_1
    try clear hcz8_2
    try clear hcz8_3
    try clear hfz4_0
    try clear hfz4_1
    try clear hfz4_2
    try clear hfz4_3
    try clear hfz8_0
    try clear hfz8_1
    try clear hfz8_2
    try clear hfz8_3
    obtain ⟨x5_1, x6_1, x7_1, x39_1, rfl, rfl, rfl, rfl, HA, HK1, BK129, HB⟩ := hrel
    cases gk with
    | zero => exact absurd HA.out (by simp [expr_span.l0])
    | succ k1 =>
     have H := HA.out
     clear HA
     simp only [expr_span.l0] at H
     by_cases c9 : x39_1 < (l0_3.length : Int)
     ·rw [if_pos c9] at H
      have c9b0 : decide (x39_1 < (l0_3.length : Int)) = true := decide_eq_true c9
      clear c9
      by_cases c10 : 0 ≤ x39_1
      ·rw [if_pos c10] at H
       have c10b0 : decide (0 ≤ x39_1) = true := decide_eq_true c10
       clear c10
       by_cases c11 : x39_1 < (l0_3.length : Int)
       ·rw [if_pos c11] at H
        have c11b0 : decide (x39_1 < (l0_3.length : Int)) = true := decide_eq_true c11
        clear c11
        replace H := Option.bind_eq_some_iff.mp H
        obtain ⟨⟨t132, t133, t134⟩, A120, H⟩ := H
        replace H : (if t134 = true then (if x7_1 = true then (if t133 < 0 then (expr_span.l0 k1 (mn x5_1 t132) t133 true l0_3 (l0_3.length : Int) (wrap64 (x39_1 + 1))) else (if x6_1 ≥ 0 then (if t133 > x6_1 then (expr_span.l0 k1 (mn x5_1 t132) t133 true l0_3 (l0_3.length : Int) (wrap64 (x39_1 + 1))) else (expr_span.l0 k1 (mn x5_1 t132) x6_1 true l0_3 (l0_3.length : Int) (wrap64 (x39_1 + 1)))) else (expr_span.l0 k1 (mn x5_1 t132) x6_1 true l0_3 (l0_3.length : Int) (wrap64 (x39_1 + 1))))) else (expr_span.l0 k1 t132 t133 true l0_3 (l0_3.length : Int) (wrap64 (x39_1 + 1)))) else (expr_span.l0 k1 x5_1 x6_1 x7_1 l0_3 (l0_3.length : Int) (wrap64 (x39_1 + 1)))) = some (r1, r2, r3) := H
        have A12 := Aside0.mk A120
        clear A120
        have HC13 := Aside0.mk H
        clear H
        have p130 : 0 ≤ (x39_1 : Int) := of_decide_eq_true zh
        have q130 : x39_1 < (l0_3.length : Int) := of_decide_eq_true zh
        obtain ⟨ad130, A130_3, c130_3, e130, hx130_0, hx130_1, hx130_2, hx130_3, hl130_3, hi130_3⟩ := at_T24 HR0_3.out x39_1 p130 q130
        cases e130
        replace hx130_0 := (HB.out.cell (World.block_lt_of_cell? w _ hx130_0)).trans hx130_0
        replace hx130_1 := (HB.out.cell (World.block_lt_of_cell? w _ hx130_1)).trans hx130_1
        replace hx130_2 := (HB.out.cell (World.block_lt_of_cell? w _ hx130_2)).trans hx130_2
        replace hx130_3 := (HB.out.cell (World.block_lt_of_cell? w _ hx130_3)).trans hx130_3
        have HR130_3 := Aside0.mk hi130_3
        have HC130_3 := Aside0.mk hl130_3
        clear hi130_3 hl130_3
        replace p130 := eq_true p130
        replace q130 := eq_true q130
        go_upto_if 50 with (first | ((with_reducible refine gate_dst (N := 9) rfl ?_); refine box_event ?hg (N := 9) ?hd (cs := #[.int .i64 0, .int .i64 0, .int .i64 0, .slice none 0 0]) (t := 24) ?hr ?_; (case hd => rfl); (case hg => rfl); (case hr => first | (go_simp; done) | (go_simp; rfl)); intro gb131 hg w14 hbox hb; have n0_ := Aside0.mk (blk_below (g := gb129) (o := .cells #[.int .i64 a0_0, .int .i64 a0_1, .int .i64 a0_2, .slice (some ad130) l0_3.length c0_3] 24 (0, 0)) (zk BK129) hb); have n1_ := Aside0.mk (below_step zB hb); have n2_ := Aside0.mk (hbox); have n3_ := Aside0.mk ((by rw [hg]; exact (below_size zB) : w.heap.size ≤ gb131)); have n4_ := Aside0.mk ((by rw [hg]; exact (below_size zB) : w.heap.size ≤ gb131)); have n5_ := Aside0.mk ((by rw [hg]; exact Nat.ne_of_lt (blk_lt (g := gb129) (o := .cells #[.int .i64 a0_0, .int .i64 a0_1, .int .i64 a0_2, .slice (some ad130) l0_3.length c0_3] 24 (0, 0)) (zk BK129)) : gb129 ≠ gb131)); have n6_ := Aside0.mk ((by rw [hg]; exact Nat.ne_of_gt (blk_lt (g := gb129) (o := .cells #[.int .i64 a0_0, .int .i64 a0_1, .int .i64 a0_2, .slice (some ad130) l0_3.length c0_3] 24 (0, 0)) (zk BK129)) : gb131 ≠ gb129)); clear BK129; clear HB; have BK129 := n0_; have HB := n1_; have BK131 := n2_; have GW131 := n3_; have GE131 := n4_; have NB129_131 := n5_; have NB131_129 := n6_; clear n0_ n1_ n2_ n3_ n4_ n5_ n6_; clear hb hbox hg; have hnb15 := NB131_129.out; have hnc15 := NB129_131.out; have hcz16_0 : w14.cell? ⟨gb131, 0, none⟩ = some (.int .i64 0) := (blk_cell BK131.out 0).trans rfl; have hcz16_1 : w14.cell? ⟨gb131, 1, none⟩ = some (.int .i64 0) := (blk_cell BK131.out 1).trans rfl; have hcz16_2 : w14.cell? ⟨gb131, 2, none⟩ = some (.int .i64 0) := (blk_cell BK131.out 2).trans rfl; have hcz16_3 : w14.cell? ⟨gb131, 3, none⟩ = some (.slice none 0 0) := (blk_cell BK131.out 3).trans rfl; have hfz16_0 := blk_frozen BK131.out 0; have hfz16_1 := blk_frozen BK131.out 1; have hfz16_2 := blk_frozen BK131.out 2; have hfz16_3 := blk_frozen BK131.out 3) | (go_at_call 40; (with_reducible refine (ih k1 (by have := HK1.out; omega) ((rd_T24 l0_3 x39_1).f0) ((rd_T24 l0_3 x39_1).f1) ((rd_T24 l0_3 x39_1).f2) _ _ ((rd_T24 l0_3 x39_1).f3) t132 t133 t134 _ ?side1 ?side2 A12.out).mono ?_); (case side1 => exact Kd.C_below HR130_3.out zB); (case side2 => exact HC130_3.out); rintro e w17 ⟨rfl, hb⟩; have n0_ := Aside0.mk (blk_below (g := gb129) (o := .cells #[.int .i64 a0_0, .int .i64 a0_1, .int .i64 a0_2, .slice (some ad130) l0_3.length c0_3] 24 (0, 0)) (by (with_reducible repeat (first | refine blk_drewN ?_ _ | refine blk_drew ?_ | refine blk_alloc ?_ _)); refine blk_far ?_ NB129_131.out _; (with_reducible repeat (first | refine blk_drewN ?_ _ | refine blk_drew ?_ | refine blk_alloc ?_ _)); refine blk_far ?_ NB129_131.out _; (with_reducible repeat (first | refine blk_drewN ?_ _ | refine blk_drew ?_ | refine blk_alloc ?_ _)); refine blk_far ?_ NB129_131.out _; (with_reducible repeat (first | refine blk_drewN ?_ _ | refine blk_drew ?_ | refine blk_alloc ?_ _)); refine blk_far ?_ NB129_131.out _; (with_reducible repeat (first | refine blk_drewN ?_ _ | refine blk_drew ?_ | refine blk_alloc ?_ _)); exact BK129.out) hb); have n1_ := Aside0.mk (blk_below (g := gb131) (o := .cells #[.int .i64 ((rd_T24 l0_3 x39_1).f0), .int .i64 ((rd_T24 l0_3 x39_1).f1), .int .i64 ((rd_T24 l0_3 x39_1).f2), .slice A130_3 ((rd_T24 l0_3 x39_1).f3).length c130_3] 24 (0, 0)) (by (with_reducible repeat (first | refine blk_drewN ?_ _ | refine blk_drew ?_ | refine blk_alloc ?_ _)); refine blk_put (cs := #[.int .i64 ((rd_T24 l0_3 x39_1).f0), .int .i64 ((rd_T24 l0_3 x39_1).f1), .int .i64 ((rd_T24 l0_3 x39_1).f2), .slice none 0 0]) ?_ 3 _ rfl; (with_reducible repeat (first | refine blk_drewN ?_ _ | refine blk_drew ?_ | refine blk_alloc ?_ _)); refine blk_put (cs := #[.int .i64 ((rd_T24 l0_3 x39_1).f0), .int .i64 ((rd_T24 l0_3 x39_1).f1), .int .i64 0, .slice none 0 0]) ?_ 2 _ rfl; (with_reducible repeat (first | refine blk_drewN ?_ _ | refine blk_drew ?_ | refine blk_alloc ?_ _)); refine blk_put (cs := #[.int .i64 ((rd_T24 l0_3 x39_1).f0), .int .i64 0, .int .i64 0, .slice none 0 0]) ?_ 1 _ rfl; (with_reducible repeat (first | refine blk_drewN ?_ _ | refine blk_drew ?_ | refine blk_alloc ?_ _)); refine blk_put (cs := #[.int .i64 0, .int .i64 0, .int .i64 0, .slice none 0 0]) ?_ 0 _ rfl; (with_reducible repeat (first | refine blk_drewN ?_ _ | refine blk_drew ?_ | refine blk_alloc ?_ _)); exact BK131.out) hb); have n2_ := Aside0.mk (below_step zB hb); clear BK129; clear BK131; clear HB; have BK129 := n0_; have BK131 := n1_; have HB := n2_; clear n0_ n1_ n2_; (try clear hb); (try clear hb2); (try clear hk); (try clear hi)))
        repeat (go_quiet (first | ((with_reducible refine gate_dst (N := 9) rfl ?_); refine box_event ?hg (N := 9) ?hd (cs := #[.int .i64 0, .int .i64 0, .int .i64 0, .slice none 0 0]) (t := 24) ?hr ?_; (case hd => rfl); (case hg => rfl); (case hr => first | (go_simp; done) | (go_simp; rfl)); intro gb131 hg w14 hbox hb; have n0_ := Aside0.mk (blk_below (g := gb129) (o := .cells #[.int .i64 a0_0, .int .i64 a0_1, .int .i64 a0_2, .slice (some ad130) l0_3.length c0_3] 24 (0, 0)) (zk BK129) hb); have n1_ := Aside0.mk (below_step zB hb); have n2_ := Aside0.mk (hbox); have n3_ := Aside0.mk ((by rw [hg]; exact (below_size zB) : w.heap.size ≤ gb131)); have n4_ := Aside0.mk ((by rw [hg]; exact (below_size zB) : w.heap.size ≤ gb131)); have n5_ := Aside0.mk ((by rw [hg]; exact Nat.ne_of_lt (blk_lt (g := gb129) (o := .cells #[.int .i64 a0_0, .int .i64 a0_1, .int .i64 a0_2, .slice (some ad130) l0_3.length c0_3] 24 (0, 0)) (zk BK129)) : gb129 ≠ gb131)); have n6_ := Aside0.mk ((by rw [hg]; exact Nat.ne_of_gt (blk_lt (g := gb129) (o := .cells #[.int .i64 a0_0, .int .i64 a0_1, .int .i64 a0_2, .slice (some ad130) l0_3.length c0_3] 24 (0, 0)) (zk BK129)) : gb131 ≠ gb129)); clear BK129; clear HB; have BK129 := n0_; have HB := n1_; have BK131 := n2_; have GW131 := n3_; have GE131 := n4_; have NB129_131 := n5_; have NB131_129 := n6_; clear n0_ n1_ n2_ n3_ n4_ n5_ n6_; clear hb hbox hg; have hnb15 := NB131_129.out; have hnc15 := NB129_131.out; have hcz16_0 : w14.cell? ⟨gb131, 0, none⟩ = some (.int .i64 0) := (blk_cell BK131.out 0).trans rfl; have hcz16_1 : w14.cell? ⟨gb131, 1, none⟩ = some (.int .i64 0) := (blk_cell BK131.out 1).trans rfl; have hcz16_2 : w14.cell? ⟨gb131, 2, none⟩ = some (.int .i64 0) := (blk_cell BK131.out 2).trans rfl; have hcz16_3 : w14.cell? ⟨gb131, 3, none⟩ = some (.slice none 0 0) := (blk_cell BK131.out 3).trans rfl; have hfz16_0 := blk_frozen BK131.out 0; have hfz16_1 := blk_frozen BK131.out 1; have hfz16_2 := blk_frozen BK131.out 2; have hfz16_3 := blk_frozen BK131.out 3) | (go_at_call 40; (with_reducible refine (ih k1 (by have := HK1.out; omega) ((rd_T24 l0_3 x39_1).f0) ((rd_T24 l0_3 x39_1).f1) ((rd_T24 l0_3 x39_1).f2) _ _ ((rd_T24 l0_3 x39_1).f3) t132 t133 t134 _ ?side1 ?side2 A12.out).mono ?_); (case side1 => exact Kd.C_below HR130_3.out zB); (case side2 => exact HC130_3.out); rintro e w17 ⟨rfl, hb⟩; have n0_ := Aside0.mk (blk_below (g := gb129) (o := .cells #[.int .i64 a0_0, .int .i64 a0_1, .int .i64 a0_2, .slice (some ad130) l0_3.length c0_3] 24 (0, 0)) (by (with_reducible repeat (first | refine blk_drewN ?_ _ | refine blk_drew ?_ | refine blk_alloc ?_ _)); refine blk_far ?_ NB129_131.out _; (with_reducible repeat (first | refine blk_drewN ?_ _ | refine blk_drew ?_ | refine blk_alloc ?_ _)); refine blk_far ?_ NB129_131.out _; (with_reducible repeat (first | refine blk_drewN ?_ _ | refine blk_drew ?_ | refine blk_alloc ?_ _)); refine blk_far ?_ NB129_131.out _; (with_reducible repeat (first | refine blk_drewN ?_ _ | refine blk_drew ?_ | refine blk_alloc ?_ _)); refine blk_far ?_ NB129_131.out _; (with_reducible repeat (first | refine blk_drewN ?_ _ | refine blk_drew ?_ | refine blk_alloc ?_ _)); exact BK129.out) hb); have n1_ := Aside0.mk (blk_below (g := gb131) (o := .cells #[.int .i64 ((rd_T24 l0_3 x39_1).f0), .int .i64 ((rd_T24 l0_3 x39_1).f1), .int .i64 ((rd_T24 l0_3 x39_1).f2), .slice A130_3 ((rd_T24 l0_3 x39_1).f3).length c130_3] 24 (0, 0)) (by (with_reducible repeat (first | refine blk_drewN ?_ _ | refine blk_drew ?_ | refine blk_alloc ?_ _)); refine blk_put (cs := #[.int .i64 ((rd_T24 l0_3 x39_1).f0), .int .i64 ((rd_T24 l0_3 x39_1).f1), .int .i64 ((rd_T24 l0_3 x39_1).f2), .slice none 0 0]) ?_ 3 _ rfl; (with_reducible repeat (first | refine blk_drewN ?_ _ | refine blk_drew ?_ | refine blk_alloc ?_ _)); refine blk_put (cs := #[.int .i64 ((rd_T24 l0_3 x39_1).f0), .int .i64 ((rd_T24 l0_3 x39_1).f1), .int .i64 0, .slice none 0 0]) ?_ 2 _ rfl; (with_reducible repeat (first | refine blk_drewN ?_ _ | refine blk_drew ?_ | refine blk_alloc ?_ _)); refine blk_put (cs := #[.int .i64 ((rd_T24 l0_3 x39_1).f0), .int .i64 0, .int .i64 0, .slice none 0 0]) ?_ 1 _ rfl; (with_reducible repeat (first | refine blk_drewN ?_ _ | refine blk_drew ?_ | refine blk_alloc ?_ _)); refine blk_put (cs := #[.int .i64 0, .int .i64 0, .int .i64 0, .slice none 0 0]) ?_ 0 _ rfl; (with_reducible repeat (first | refine blk_drewN ?_ _ | refine blk_drew ?_ | refine blk_alloc ?_ _)); exact BK131.out) hb); have n2_ := Aside0.mk (below_step zB hb); clear BK129; clear BK131; clear HB; have BK129 := n0_; have BK131 := n1_; have HB := n2_; clear n0_ n1_ n2_; (try clear hb); (try clear hb2); (try clear hk); (try clear hi))); go_upto_if 50 with (first | ((with_reducible refine gate_dst (N := 9) rfl ?_); refine box_event ?hg (N := 9) ?hd (cs := #[.int .i64 0, .int .i64 0, .int .i64 0, .slice none 0 0]) (t := 24) ?hr ?_; (case hd => rfl); (case hg => rfl); (case hr => first | (go_simp; done) | (go_simp; rfl)); intro gb131 hg w14 hbox hb; have n0_ := Aside0.mk (blk_below (g := gb129) (o := .cells #[.int .i64 a0_0, .int .i64 a0_1, .int .i64 a0_2, .slice (some ad130) l0_3.length c0_3] 24 (0, 0)) (zk BK129) hb); have n1_ := Aside0.mk (below_step zB hb); have n2_ := Aside0.mk (hbox); have n3_ := Aside0.mk ((by rw [hg]; exact (below_size zB) : w.heap.size ≤ gb131)); have n4_ := Aside0.mk ((by rw [hg]; exact (below_size zB) : w.heap.size ≤ gb131)); have n5_ := Aside0.mk ((by rw [hg]; exact Nat.ne_of_lt (blk_lt (g := gb129) (o := .cells #[.int .i64 a0_0, .int .i64 a0_1, .int .i64 a0_2, .slice (some ad130) l0_3.length c0_3] 24 (0, 0)) (zk BK129)) : gb129 ≠ gb131)); have n6_ := Aside0.mk ((by rw [hg]; exact Nat.ne_of_gt (blk_lt (g := gb129) (o := .cells #[.int .i64 a0_0, .int .i64 a0_1, .int .i64 a0_2, .slice (some ad130) l0_3.length c0_3] 24 (0, 0)) (zk BK129)) : gb131 ≠ gb129)); clear BK129; clear HB; have BK129 := n0_; have HB := n1_; have BK131 := n2_; have GW131 := n3_; have GE131 := n4_; have NB129_131 := n5_; have NB131_129 := n6_; clear n0_ n1_ n2_ n3_ n4_ n5_ n6_; clear hb hbox hg; have hnb15 := NB131_129.out; have hnc15 := NB129_131.out; have hcz16_0 : w14.cell? ⟨gb131, 0, none⟩ = some (.int .i64 0) := (blk_cell BK131.out 0).trans rfl; have hcz16_1 : w14.cell? ⟨gb131, 1, none⟩ = some (.int .i64 0) := (blk_cell BK131.out 1).trans rfl; have hcz16_2 : w14.cell? ⟨gb131, 2, none⟩ = some (.int .i64 0) := (blk_cell BK131.out 2).trans rfl; have hcz16_3 : w14.cell? ⟨gb131, 3, none⟩ = some (.slice none 0 0) := (blk_cell BK131.out 3).trans rfl; have hfz16_0 := blk_frozen BK131.out 0; have hfz16_1 := blk_frozen BK131.out 1; have hfz16_2 := blk_frozen BK131.out 2; have hfz16_3 := blk_frozen BK131.out 3) | (go_at_call 40; (with_reducible refine (ih k1 (by have := HK1.out; omega) ((rd_T24 l0_3 x39_1).f0) ((rd_T24 l0_3 x39_1).f1) ((rd_T24 l0_3 x39_1).f2) _ _ ((rd_T24 l0_3 x39_1).f3) t132 t133 t134 _ ?side1 ?side2 A12.out).mono ?_); (case side1 => exact Kd.C_below HR130_3.out zB); (case side2 => exact HC130_3.out); rintro e w17 ⟨rfl, hb⟩; have n0_ := Aside0.mk (blk_below (g := gb129) (o := .cells #[.int .i64 a0_0, .int .i64 a0_1, .int .i64 a0_2, .slice (some ad130) l0_3.length c0_3] 24 (0, 0)) (by (with_reducible repeat (first | refine blk_drewN ?_ _ | refine blk_drew ?_ | refine blk_alloc ?_ _)); refine blk_far ?_ NB129_131.out _; (with_reducible repeat (first | refine blk_drewN ?_ _ | refine blk_drew ?_ | refine blk_alloc ?_ _)); refine blk_far ?_ NB129_131.out _; (with_reducible repeat (first | refine blk_drewN ?_ _ | refine blk_drew ?_ | refine blk_alloc ?_ _)); refine blk_far ?_ NB129_131.out _; (with_reducible repeat (first | refine blk_drewN ?_ _ | refine blk_drew ?_ | refine blk_alloc ?_ _)); refine blk_far ?_ NB129_131.out _; (with_reducible repeat (first | refine blk_drewN ?_ _ | refine blk_drew ?_ | refine blk_alloc ?_ _)); exact BK129.out) hb); have n1_ := Aside0.mk (blk_below (g := gb131) (o := .cells #[.int .i64 ((rd_T24 l0_3 x39_1).f0), .int .i64 ((rd_T24 l0_3 x39_1).f1), .int .i64 ((rd_T24 l0_3 x39_1).f2), .slice A130_3 ((rd_T24 l0_3 x39_1).f3).length c130_3] 24 (0, 0)) (by (with_reducible repeat (first | refine blk_drewN ?_ _ | refine blk_drew ?_ | refine blk_alloc ?_ _)); refine blk_put (cs := #[.int .i64 ((rd_T24 l0_3 x39_1).f0), .int .i64 ((rd_T24 l0_3 x39_1).f1), .int .i64 ((rd_T24 l0_3 x39_1).f2), .slice none 0 0]) ?_ 3 _ rfl; (with_reducible repeat (first | refine blk_drewN ?_ _ | refine blk_drew ?_ | refine blk_alloc ?_ _)); refine blk_put (cs := #[.int .i64 ((rd_T24 l0_3 x39_1).f0), .int .i64 ((rd_T24 l0_3 x39_1).f1), .int .i64 0, .slice none 0 0]) ?_ 2 _ rfl; (with_reducible repeat (first | refine blk_drewN ?_ _ | refine blk_drew ?_ | refine blk_alloc ?_ _)); refine blk_put (cs := #[.int .i64 ((rd_T24 l0_3 x39_1).f0), .int .i64 0, .int .i64 0, .slice none 0 0]) ?_ 1 _ rfl; (with_reducible repeat (first | refine blk_drewN ?_ _ | refine blk_drew ?_ | refine blk_alloc ?_ _)); refine blk_put (cs := #[.int .i64 0, .int .i64 0, .int .i64 0, .slice none 0 0]) ?_ 0 _ rfl; (with_reducible repeat (first | refine blk_drewN ?_ _ | refine blk_drew ?_ | refine blk_alloc ?_ _)); exact BK131.out) hb); have n2_ := Aside0.mk (below_step zB hb); clear BK129; clear BK131; clear HB; have BK129 := n0_; have BK131 := n1_; have HB := n2_; clear n0_ n1_ n2_; (try clear hb); (try clear hb2); (try clear hk); (try clear hi))))
        (try simp only [Act.put, List.setIfInBounds_toArray, List.set_cons_zero, List.set_cons_succ])
        have H := HC13.out
        clear HC13
        by_cases c18 : t134 = true
        ·subst c18
         have H1 : (if x7_1 = true then (if t133 < 0 then (expr_span.l0 k1 (mn x5_1 t132) t133 true l0_3 (l0_3.length : Int) (wrap64 (x39_1 + 1))) else (if x6_1 ≥ 0 then (if t133 > x6_1 then (expr_span.l0 k1 (mn x5_1 t132) t133 true l0_3 (l0_3.length : Int) (wrap64 (x39_1 + 1))) else (expr_span.l0 k1 (mn x5_1 t132) x6_1 true l0_3 (l0_3.length : Int) (wrap64 (x39_1 + 1)))) else (expr_span.l0 k1 (mn x5_1 t132) x6_1 true l0_3 (l0_3.length : Int) (wrap64 (x39_1 + 1))))) else (expr_span.l0 k1 t132 t133 true l0_3 (l0_3.length : Int) (wrap64 (x39_1 + 1)))) = some (r1, r2, r3) := by rw [if_pos rfl] at H; exact H
         clear H
         have H := H1
         clear H1
         by_cases c19 : x7_1 = true
         ·subst c19
          have H1 : (if t133 < 0 then (expr_span.l0 k1 (mn x5_1 t132) t133 true l0_3 (l0_3.length : Int) (wrap64 (x39_1 + 1))) else (if x6_1 ≥ 0 then (if t133 > x6_1 then (expr_span.l0 k1 (mn x5_1 t132) t133 true l0_3 (l0_3.length : Int) (wrap64 (x39_1 + 1))) else (expr_span.l0 k1 (mn x5_1 t132) x6_1 true l0_3 (l0_3.length : Int) (wrap64 (x39_1 + 1)))) else (expr_span.l0 k1 (mn x5_1 t132) x6_1 true l0_3 (l0_3.length : Int) (wrap64 (x39_1 + 1))))) = some (r1, r2, r3) := by rw [if_pos rfl] at H; exact H
          clear H
          have H := H1
          clear H1
          obtain ⟨ji20, hji20⟩ : ∃ j_ : Int, (mn x5_1 t132) = j_ := ⟨_, rfl⟩
          replace H : (if t133 < 0 then (expr_span.l0 k1 ji20 t133 true l0_3 (l0_3.length : Int) (wrap64 (x39_1 + 1))) else (if x6_1 ≥ 0 then (if t133 > x6_1 then (expr_span.l0 k1 ji20 t133 true l0_3 (l0_3.length : Int) (wrap64 (x39_1 + 1))) else (expr_span.l0 k1 ji20 x6_1 true l0_3 (l0_3.length : Int) (wrap64 (x39_1 + 1)))) else (expr_span.l0 k1 ji20 x6_1 true l0_3 (l0_3.length : Int) (wrap64 (x39_1 + 1))))) = some (r1, r2, r3) := by first | (rw [hji20] at H; exact H) | (simp only [hji20] at H ⊢; exact H)
          have hji20_ : (if t132 < x5_1 then t132 else x5_1) = ji20 := hji20
          by_cases c21 : t133 < 0
          ·rw [if_pos c21] at H
           have c21b0 : decide (t133 < 0) = true := decide_eq_true c21
           clear c21
           (first | rw [c21b0] | (simp only [i64_w, i32_w]; rw [c21b0]) | skip)
           have H' := Aside0.mk H
           clear H
           go_wp2
           repeat (go_quiet (fail); try go_wp2)
           go_roundg k1
           case measure => have := HK1.out; omega
           case rel => exact ⟨(ji20), (t133), (true), (wrap64 (x39_1 + 1)), (by first | rfl | (simp; done) | (simp only [← hji20] <;> (first | rfl | simp)) | (simp [*]; done)), zT, zT, zT, H', ⟨by have := HK1.out; omega⟩, ⟨by (with_reducible repeat (first | refine blk_drewN ?_ _ | refine blk_drew ?_ | refine blk_alloc ?_ _)); exact BK129.out⟩, ⟨by repeat (first | (with_reducible first | exact HB.out | apply below_alloc | apply pw_below_drewN | apply below_drew1 | refine below_set ?_ GE129.out | refine below_set ?_ GE131.out) | exact HB.out)⟩⟩
          ·rw [if_neg c21] at H
           have c21b0 : decide (t133 < 0) = false := decide_eq_false c21
           clear c21
           (first | rw [c21b0] | (simp only [i64_w, i32_w]; rw [c21b0]) | skip)
           by_cases c22 : x6_1 ≥ 0
           ·rw [if_pos c22] at H
            have c22b0 : decide (0 ≤ x6_1) = true := decide_eq_true c22
            clear c22
            by_cases c23 : t133 > x6_1
            ·rw [if_pos c23] at H
             have c23b0 : decide (x6_1 < t133) = true := decide_eq_true c23
             clear c23
             have H' := Aside0.mk H
             clear H
             go_wp2
             repeat (go_quiet (fail); try go_wp2)
             go_roundg k1
             case measure => have := HK1.out; omega
             case rel => exact ⟨(ji20), (t133), (true), (wrap64 (x39_1 + 1)), (by first | rfl | (simp; done) | (simp only [← hji20] <;> (first | rfl | simp)) | (simp [*]; done)), zT, zT, zT, H', ⟨by have := HK1.out; omega⟩, ⟨by (with_reducible repeat (first | refine blk_drewN ?_ _ | refine blk_drew ?_ | refine blk_alloc ?_ _)); exact BK129.out⟩, ⟨by repeat (first | (with_reducible first | exact HB.out | apply below_alloc | apply pw_below_drewN | apply below_drew1 | refine below_set ?_ GE129.out | refine below_set ?_ GE131.out) | exact HB.out)⟩⟩
            ·rw [if_neg c23] at H
             have c23b0 : decide (x6_1 < t133) = false := decide_eq_false c23
             clear c23
             have H' := Aside0.mk H
             clear H
             go_wp2
             repeat (go_quiet (fail); try go_wp2)
             go_roundg k1
             case measure => have := HK1.out; omega
             case rel => exact ⟨(ji20), (x6_1), (true), (wrap64 (x39_1 + 1)), (by first | rfl | (simp; done) | (simp only [← hji20] <;> (first | rfl | simp)) | (simp [*]; done)), zT, zT, zT, H', ⟨by have := HK1.out; omega⟩, ⟨by (with_reducible repeat (first | refine blk_drewN ?_ _ | refine blk_drew ?_ | refine blk_alloc ?_ _)); exact BK129.out⟩, ⟨by repeat (first | (with_reducible first | exact HB.out | apply below_alloc | apply pw_below_drewN | apply below_drew1 | refine below_set ?_ GE129.out | refine below_set ?_ GE131.out) | exact HB.out)⟩⟩
           ·rw [if_neg c22] at H
            have c22b0 : decide (0 ≤ x6_1) = false := decide_eq_false c22
            clear c22
            have H' := Aside0.mk H
            clear H
            go_wp2
            repeat (go_quiet (fail); try go_wp2)
            go_roundg k1
            case measure => have := HK1.out; omega
            case rel => exact ⟨(ji20), (x6_1), (true), (wrap64 (x39_1 + 1)), (by first | rfl | (simp; done) | (simp only [← hji20] <;> (first | rfl | simp)) | (simp [*]; done)), zT, zT, zT, H', ⟨by have := HK1.out; omega⟩, ⟨by (with_reducible repeat (first | refine blk_drewN ?_ _ | refine blk_drew ?_ | refine blk_alloc ?_ _)); exact BK129.out⟩, ⟨by repeat (first | (with_reducible first | exact HB.out | apply below_alloc | apply pw_below_drewN | apply below_drew1 | refine below_set ?_ GE129.out | refine below_set ?_ GE131.out) | exact HB.out)⟩⟩
         ·replace c19 := Bool.eq_false_iff.mpr c19
          subst c19
          have H1 : (expr_span.l0 k1 t132 t133 true l0_3 (l0_3.length : Int) (wrap64 (x39_1 + 1))) = some (r1, r2, r3) := by rw [if_neg (show ¬ (false = true) by decide)] at H; exact H
          clear H
          have H := H1
          clear H1
          have H' := Aside0.mk H
          clear H
          go_wp2
          repeat (go_quiet (fail); try go_wp2)
          go_roundg k1
          case measure => have := HK1.out; omega
          case rel => exact ⟨(t132), (t133), (true), (wrap64 (x39_1 + 1)), zT, zT, zT, zT, H', ⟨by have := HK1.out; omega⟩, ⟨by (with_reducible repeat (first | refine blk_drewN ?_ _ | refine blk_drew ?_ | refine blk_alloc ?_ _)); exact BK129.out⟩, ⟨by repeat (first | (with_reducible first | exact HB.out | apply below_alloc | apply pw_below_drewN | apply below_drew1 | refine below_set ?_ GE129.out | refine below_set ?_ GE131.out) | exact HB.out)⟩⟩
        ·replace c18 := Bool.eq_false_iff.mpr c18
         subst c18
         have H1 : (expr_span.l0 k1 x5_1 x6_1 x7_1 l0_3 (l0_3.length : Int) (wrap64 (x39_1 + 1))) = some (r1, r2, r3) := by rw [if_neg (show ¬ (false = true) by decide)] at H; exact H
         clear H
         have H := H1
         clear H1
         have H' := Aside0.mk H
         clear H
         go_wp2
         repeat (go_quiet (fail); try go_wp2)
         go_roundg k1
         case measure => have := HK1.out; omega
         case rel => exact ⟨(x5_1), (x6_1), (x7_1), (wrap64 (x39_1 + 1)), zT, zT, zT, zT, H', ⟨by have := HK1.out; omega⟩, ⟨by (with_reducible repeat (first | refine blk_drewN ?_ _ | refine blk_drew ?_ | refine blk_alloc ?_ _)); exact BK129.out⟩, ⟨by repeat (first | (with_reducible first | exact HB.out | apply below_alloc | apply pw_below_drewN | apply below_drew1 | refine below_set ?_ GE129.out | refine below_set ?_ GE131.out) | exact HB.out)⟩⟩
       ·rw [if_neg c11] at H
        exact absurd H (by simp)
      ·rw [if_neg c10] at H
       exact absurd H (by simp)
     ·rw [if_neg c9] at H
      have c9b0 : decide (x39_1 < (l0_3.length : Int)) = false := decide_eq_false c9
      clear c9
      simp only [Option.some.injEq, Prod.mk.injEq] at H
      obtain ⟨rfl, rfl, rfl⟩ := H
      go_wp2
      repeat (go_quiet (fail); try go_wp2)
      go_ret3
      exact ⟨by first | rfl | (simp [errW_none, errW_some] <;> rfl) | (simp [*, errW_none, errW_some] <;> rfl), by repeat (first | (with_reducible first | exact HB.out | apply below_alloc | apply pw_below_drewN | apply below_drew1 | refine below_set ?_ GE129.out) | exact HB.out)⟩
  ·rw [if_neg c7] at H
   have c7b0 : (a0_0 == 3) = false := beq_eq_false_iff_ne.mpr c7
   have c7b1 : (a0_0 != 3) = true := bne_iff_ne.mpr c7
   by_cases c24 : a0_0 = 5
   ·rw [if_pos c24] at H
    have c24b0 : (a0_0 == 5) = true := beq_iff_eq.mpr c24
    have c24b1 : (a0_0 != 5) = false := bne_eq_false_iff_eq.mpr c24
    clear c24
    by_cases c25 : 0 < (l0_3.length : Int)
    ·rw [if_pos c25] at H
     have c25b0 : decide (0 < (l0_3.length : Int)) = true := decide_eq_true c25
     have c25b1 : decide (0 < l0_3.length) = true := decide_eq_true (by omega)
     clear c25
     replace H := Option.bind_eq_some_iff.mp H
     obtain ⟨⟨t136, t137, t138⟩, A260, H⟩ := H
     replace H : (if t138 = true then (if t137 > 0 then (some (0, (-1), true)) else (some (0, t137, true))) else (some (0, 0, true))) = some (r1, r2, r3) := H
     have A26 := Aside0.mk A260
     clear A260
     have HC27 := Aside0.mk H
     clear H
     have hcz28_0 : w3.cell? ⟨gb129, 0, none⟩ = some (.int .i64 a0_0) := (blk_cell BK129.out 0).trans rfl
     have hcz28_1 : w3.cell? ⟨gb129, 1, none⟩ = some (.int .i64 a0_1) := (blk_cell BK129.out 1).trans rfl
     have hcz28_2 : w3.cell? ⟨gb129, 2, none⟩ = some (.int .i64 a0_2) := (blk_cell BK129.out 2).trans rfl
     have hcz28_3 : w3.cell? ⟨gb129, 3, none⟩ = some (.slice A0_3 l0_3.length c0_3) := (blk_cell BK129.out 3).trans rfl
     have hfz28_0 := blk_frozen BK129.out 0
     have hfz28_1 := blk_frozen BK129.out 1
     have hfz28_2 := blk_frozen BK129.out 2
     have hfz28_3 := blk_frozen BK129.out 3
     have p135 : 0 ≤ (0 : Int) := (by omega)
     have q135 : 0 < (l0_3.length : Int) := of_decide_eq_true zh
     obtain ⟨ad135, A135_3, c135_3, e135, hx135_0, hx135_1, hx135_2, hx135_3, hl135_3, hi135_3⟩ := at_T24 HR0_3.out 0 p135 q135
     cases e135
     have qi135 : (0 < l0_3.length) = True := eq_true (by omega)
     (try rw [show ((0 : Int)).toNat = 0 from rfl] at hx135_0)
     (try rw [show 0 * 4 = 0 from rfl] at hx135_0)
     (try rw [Addr.add_zero'] at hx135_0)
     (try rw [show ((0 : Int)).toNat = 0 from rfl] at hx135_1)
     (try rw [show 0 * 4 = 0 from rfl] at hx135_1)
     (try rw [Addr.add_zero'] at hx135_1)
     (try rw [show ((0 : Int)).toNat = 0 from rfl] at hx135_2)
     (try rw [show 0 * 4 = 0 from rfl] at hx135_2)
     (try rw [Addr.add_zero'] at hx135_2)
     (try rw [show ((0 : Int)).toNat = 0 from rfl] at hx135_3)
     (try rw [show 0 * 4 = 0 from rfl] at hx135_3)
     (try rw [Addr.add_zero'] at hx135_3)
     replace hx135_0 := (HB.out.cell (World.block_lt_of_cell? w _ hx135_0)).trans hx135_0
     replace hx135_1 := (HB.out.cell (World.block_lt_of_cell? w _ hx135_1)).trans hx135_1
     replace hx135_2 := (HB.out.cell (World.block_lt_of_cell? w _ hx135_2)).trans hx135_2
     replace hx135_3 := (HB.out.cell (World.block_lt_of_cell? w _ hx135_3)).trans hx135_3
     have HR135_3 := Aside0.mk hi135_3
     have HC135_3 := Aside0.mk hl135_3
     clear hi135_3 hl135_3
     replace p135 := eq_true p135
     replace q135 := eq_true q135
     go_upto_if 87 with (first | (go_at_call 40; (with_reducible refine (ih k (by omega) ((rd_T24 l0_3 0).f0) ((rd_T24 l0_3 0).f1) ((rd_T24 l0_3 0).f2) _ _ ((rd_T24 l0_3 0).f3) t136 t137 t138 _ ?side1 ?side2 A26.out).mono ?_); (case side1 => repeat (first | exact (Kd.C_below HR135_3.out HB.out) | (with_reducible refine Kd.C_alloc ?_ _) | (with_reducible refine Kd.C_drewN ?_ _) | (with_reducible refine Kd.C_drew ?_))); (case side2 => exact HC135_3.out); rintro e w29 ⟨rfl, hb⟩; have n0_ := Aside0.mk (blk_below (g := gb129) (o := .cells #[.int .i64 a0_0, .int .i64 a0_1, .int .i64 a0_2, .slice (some ad135) l0_3.length c0_3] 24 (0, 0)) (zk BK129) hb); have n1_ := Aside0.mk (below_step zB hb); clear BK129; clear HB; have BK129 := n0_; have HB := n1_; clear n0_ n1_; (try clear hb); (try clear hb2); (try clear hk); (try clear hi)))
     repeat (go_quiet (first | (go_at_call 40; (with_reducible refine (ih k (by omega) ((rd_T24 l0_3 0).f0) ((rd_T24 l0_3 0).f1) ((rd_T24 l0_3 0).f2) _ _ ((rd_T24 l0_3 0).f3) t136 t137 t138 _ ?side1 ?side2 A26.out).mono ?_); (case side1 => repeat (first | exact (Kd.C_below HR135_3.out HB.out) | (with_reducible refine Kd.C_alloc ?_ _) | (with_reducible refine Kd.C_drewN ?_ _) | (with_reducible refine Kd.C_drew ?_))); (case side2 => exact HC135_3.out); rintro e w29 ⟨rfl, hb⟩; have n0_ := Aside0.mk (blk_below (g := gb129) (o := .cells #[.int .i64 a0_0, .int .i64 a0_1, .int .i64 a0_2, .slice (some ad135) l0_3.length c0_3] 24 (0, 0)) (zk BK129) hb); have n1_ := Aside0.mk (below_step zB hb); clear BK129; clear HB; have BK129 := n0_; have HB := n1_; clear n0_ n1_; (try clear hb); (try clear hb2); (try clear hk); (try clear hi))); go_upto_if 87 with (first | (go_at_call 40; (with_reducible refine (ih k (by omega) ((rd_T24 l0_3 0).f0) ((rd_T24 l0_3 0).f1) ((rd_T24 l0_3 0).f2) _ _ ((rd_T24 l0_3 0).f3) t136 t137 t138 _ ?side1 ?side2 A26.out).mono ?_); (case side1 => repeat (first | exact (Kd.C_below HR135_3.out HB.out) | (with_reducible refine Kd.C_alloc ?_ _) | (with_reducible refine Kd.C_drewN ?_ _) | (with_reducible refine Kd.C_drew ?_))); (case side2 => exact HC135_3.out); rintro e w29 ⟨rfl, hb⟩; have n0_ := Aside0.mk (blk_below (g := gb129) (o := .cells #[.int .i64 a0_0, .int .i64 a0_1, .int .i64 a0_2, .slice (some ad135) l0_3.length c0_3] 24 (0, 0)) (zk BK129) hb); have n1_ := Aside0.mk (below_step zB hb); clear BK129; clear HB; have BK129 := n0_; have HB := n1_; clear n0_ n1_; (try clear hb); (try clear hb2); (try clear hk); (try clear hi))))
     (try simp only [Act.put, List.setIfInBounds_toArray, List.set_cons_zero, List.set_cons_succ])
     have H := HC27.out
     clear HC27
     by_cases c30 : t138 = true
     ·subst c30
      have H1 : (if t137 > 0 then (some (0, (-1), true)) else (some (0, t137, true))) = some (r1, r2, r3) := by rw [if_pos rfl] at H; exact H
      clear H
      have H := H1
      clear H1
      by_cases c31 : t137 > 0
      ·rw [if_pos c31] at H
       have c31b0 : decide (0 < t137) = true := decide_eq_true c31
       clear c31
       (first | rw [c31b0] | (simp only [i64_w, i32_w]; rw [c31b0]) | skip)
       simp only [Option.some.injEq, Prod.mk.injEq] at H
       obtain ⟨rfl, rfl, rfl⟩ := H
       have hcz32_0 : w29.cell? ⟨gb129, 0, none⟩ = some (.int .i64 a0_0) := (blk_cell BK129.out 0).trans rfl
       have hcz32_1 : w29.cell? ⟨gb129, 1, none⟩ = some (.int .i64 a0_1) := (blk_cell BK129.out 1).trans rfl
       have hcz32_2 : w29.cell? ⟨gb129, 2, none⟩ = some (.int .i64 a0_2) := (blk_cell BK129.out 2).trans rfl
       have hcz32_3 : w29.cell? ⟨gb129, 3, none⟩ = some (.slice (some ad135) l0_3.length c0_3) := (blk_cell BK129.out 3).trans rfl
       have hfz32_0 := blk_frozen BK129.out 0
       have hfz32_1 := blk_frozen BK129.out 1
       have hfz32_2 := blk_frozen BK129.out 2
       have hfz32_3 := blk_frozen BK129.out 3
       go_wp2
       repeat (go_quiet (fail); try go_wp2)
       go_ret3
       exact ⟨by first | rfl | (simp [errW_none, errW_some] <;> rfl) | (simp [*, errW_none, errW_some] <;> rfl), by repeat (first | (with_reducible first | exact HB.out | apply below_alloc | apply pw_below_drewN | apply below_drew1 | refine below_set ?_ GE129.out) | exact HB.out)⟩
      ·rw [if_neg c31] at H
       have c31b0 : decide (0 < t137) = false := decide_eq_false c31
       clear c31
       (first | rw [c31b0] | (simp only [i64_w, i32_w]; rw [c31b0]) | skip)
       simp only [Option.some.injEq, Prod.mk.injEq] at H
       obtain ⟨rfl, rfl, rfl⟩ := H
       have hcz33_0 : w29.cell? ⟨gb129, 0, none⟩ = some (.int .i64 a0_0) := (blk_cell BK129.out 0).trans rfl
       have hcz33_1 : w29.cell? ⟨gb129, 1, none⟩ = some (.int .i64 a0_1) := (blk_cell BK129.out 1).trans rfl
       have hcz33_2 : w29.cell? ⟨gb129, 2, none⟩ = some (.int .i64 a0_2) := (blk_cell BK129.out 2).trans rfl
       have hcz33_3 : w29.cell? ⟨gb129, 3, none⟩ = some (.slice (some ad135) l0_3.length c0_3) := (blk_cell BK129.out 3).trans rfl
       have hfz33_0 := blk_frozen BK129.out 0
       have hfz33_1 := blk_frozen BK129.out 1
       have hfz33_2 := blk_frozen BK129.out 2
       have hfz33_3 := blk_frozen BK129.out 3
       go_wp2
       repeat (go_quiet (fail); try go_wp2)
       go_ret3
       exact ⟨by first | rfl | (simp [errW_none, errW_some] <;> rfl) | (simp [*, errW_none, errW_some] <;> rfl), by repeat (first | (with_reducible first | exact HB.out | apply below_alloc | apply pw_below_drewN | apply below_drew1 | refine below_set ?_ GE129.out) | exact HB.out)⟩
     ·replace c30 := Bool.eq_false_iff.mpr c30
      subst c30
      have H1 : (some (0, 0, true)) = some (r1, r2, r3) := by rw [if_neg (show ¬ (false = true) by decide)] at H; exact H
      clear H
      have H := H1
      clear H1
      simp only [Option.some.injEq, Prod.mk.injEq] at H
      obtain ⟨rfl, rfl, rfl⟩ := H
      go_wp2
      repeat (go_quiet (fail); try go_wp2)
      go_ret3
      exact ⟨by first | rfl | (simp [errW_none, errW_some] <;> rfl) | (simp [*, errW_none, errW_some] <;> rfl), by repeat (first | (with_reducible first | exact HB.out | apply below_alloc | apply pw_below_drewN | apply below_drew1 | refine below_set ?_ GE129.out) | exact HB.out)⟩
    ·rw [if_neg c25] at H
     exact absurd H (by simp)
   ·rw [if_neg c24] at H
    have c24b0 : (a0_0 == 5) = false := beq_eq_false_iff_ne.mpr c24
    have c24b1 : (a0_0 != 5) = true := bne_iff_ne.mpr c24
    by_cases c34 : a0_0 = 6
    ·rw [if_pos c34] at H
     have c34b0 : (a0_0 == 6) = true := beq_iff_eq.mpr c34
     have c34b1 : (a0_0 != 6) = false := bne_eq_false_iff_eq.mpr c34
     clear c34
     by_cases c35 : 0 < (l0_3.length : Int)
     ·rw [if_pos c35] at H
      have c35b0 : decide (0 < (l0_3.length : Int)) = true := decide_eq_true c35
      have c35b1 : decide (0 < l0_3.length) = true := decide_eq_true (by omega)
      clear c35
      replace H := Option.bind_eq_some_iff.mp H
      obtain ⟨⟨t140, t141, t142⟩, A360, H⟩ := H
      replace H : (if t142 = true then (some (0, t141, true)) else (some (0, 0, true))) = some (r1, r2, r3) := H
      have A36 := Aside0.mk A360
      clear A360
      have HC37 := Aside0.mk H
      clear H
      have hcz38_0 : w3.cell? ⟨gb129, 0, none⟩ = some (.int .i64 a0_0) := (blk_cell BK129.out 0).trans rfl
      have hcz38_1 : w3.cell? ⟨gb129, 1, none⟩ = some (.int .i64 a0_1) := (blk_cell BK129.out 1).trans rfl
      have hcz38_2 : w3.cell? ⟨gb129, 2, none⟩ = some (.int .i64 a0_2) := (blk_cell BK129.out 2).trans rfl
      have hcz38_3 : w3.cell? ⟨gb129, 3, none⟩ = some (.slice A0_3 l0_3.length c0_3) := (blk_cell BK129.out 3).trans rfl
      have hfz38_0 := blk_frozen BK129.out 0
      have hfz38_1 := blk_frozen BK129.out 1
      have hfz38_2 := blk_frozen BK129.out 2
      have hfz38_3 := blk_frozen BK129.out 3
      have p139 : 0 ≤ (0 : Int) := (by omega)
      have q139 : 0 < (l0_3.length : Int) := of_decide_eq_true zh
      obtain ⟨ad139, A139_3, c139_3, e139, hx139_0, hx139_1, hx139_2, hx139_3, hl139_3, hi139_3⟩ := at_T24 HR0_3.out 0 p139 q139
      cases e139
      have qi139 : (0 < l0_3.length) = True := eq_true (by omega)
      (try rw [show ((0 : Int)).toNat = 0 from rfl] at hx139_0)
      (try rw [show 0 * 4 = 0 from rfl] at hx139_0)
      (try rw [Addr.add_zero'] at hx139_0)
      (try rw [show ((0 : Int)).toNat = 0 from rfl] at hx139_1)
      (try rw [show 0 * 4 = 0 from rfl] at hx139_1)
      (try rw [Addr.add_zero'] at hx139_1)
      (try rw [show ((0 : Int)).toNat = 0 from rfl] at hx139_2)
      (try rw [show 0 * 4 = 0 from rfl] at hx139_2)
      (try rw [Addr.add_zero'] at hx139_2)
      (try rw [show ((0 : Int)).toNat = 0 from rfl] at hx139_3)
      (try rw [show 0 * 4 = 0 from rfl] at hx139_3)
      (try rw [Addr.add_zero'] at hx139_3)
      replace hx139_0 := (HB.out.cell (World.block_lt_of_cell? w _ hx139_0)).trans hx139_0
      replace hx139_1 := (HB.out.cell (World.block_lt_of_cell? w _ hx139_1)).trans hx139_1
      replace hx139_2 := (HB.out.cell (World.block_lt_of_cell? w _ hx139_2)).trans hx139_2
      replace hx139_3 := (HB.out.cell (World.block_lt_of_cell? w _ hx139_3)).trans hx139_3
      have HR139_3 := Aside0.mk hi139_3
      have HC139_3 := Aside0.mk hl139_3
      clear hi139_3 hl139_3
      replace p139 := eq_true p139
      replace q139 := eq_true q139
      go_upto_if 87 with (first | (go_at_call 40; (with_reducible refine (ih k (by omega) ((rd_T24 l0_3 0).f0) ((rd_T24 l0_3 0).f1) ((rd_T24 l0_3 0).f2) _ _ ((rd_T24 l0_3 0).f3) t140 t141 t142 _ ?side1 ?side2 A36.out).mono ?_); (case side1 => repeat (first | exact (Kd.C_below HR139_3.out HB.out) | (with_reducible refine Kd.C_alloc ?_ _) | (with_reducible refine Kd.C_drewN ?_ _) | (with_reducible refine Kd.C_drew ?_))); (case side2 => exact HC139_3.out); rintro e w39 ⟨rfl, hb⟩; have n0_ := Aside0.mk (blk_below (g := gb129) (o := .cells #[.int .i64 a0_0, .int .i64 a0_1, .int .i64 a0_2, .slice (some ad139) l0_3.length c0_3] 24 (0, 0)) (zk BK129) hb); have n1_ := Aside0.mk (below_step zB hb); clear BK129; clear HB; have BK129 := n0_; have HB := n1_; clear n0_ n1_; (try clear hb); (try clear hb2); (try clear hk); (try clear hi)))
      repeat (go_quiet (first | (go_at_call 40; (with_reducible refine (ih k (by omega) ((rd_T24 l0_3 0).f0) ((rd_T24 l0_3 0).f1) ((rd_T24 l0_3 0).f2) _ _ ((rd_T24 l0_3 0).f3) t140 t141 t142 _ ?side1 ?side2 A36.out).mono ?_); (case side1 => repeat (first | exact (Kd.C_below HR139_3.out HB.out) | (with_reducible refine Kd.C_alloc ?_ _) | (with_reducible refine Kd.C_drewN ?_ _) | (with_reducible refine Kd.C_drew ?_))); (case side2 => exact HC139_3.out); rintro e w39 ⟨rfl, hb⟩; have n0_ := Aside0.mk (blk_below (g := gb129) (o := .cells #[.int .i64 a0_0, .int .i64 a0_1, .int .i64 a0_2, .slice (some ad139) l0_3.length c0_3] 24 (0, 0)) (zk BK129) hb); have n1_ := Aside0.mk (below_step zB hb); clear BK129; clear HB; have BK129 := n0_; have HB := n1_; clear n0_ n1_; (try clear hb); (try clear hb2); (try clear hk); (try clear hi))); go_upto_if 87 with (first | (go_at_call 40; (with_reducible refine (ih k (by omega) ((rd_T24 l0_3 0).f0) ((rd_T24 l0_3 0).f1) ((rd_T24 l0_3 0).f2) _ _ ((rd_T24 l0_3 0).f3) t140 t141 t142 _ ?side1 ?side2 A36.out).mono ?_); (case side1 => repeat (first | exact (Kd.C_below HR139_3.out HB.out) | (with_reducible refine Kd.C_alloc ?_ _) | (with_reducible refine Kd.C_drewN ?_ _) | (with_reducible refine Kd.C_drew ?_))); (case side2 => exact HC139_3.out); rintro e w39 ⟨rfl, hb⟩; have n0_ := Aside0.mk (blk_below (g := gb129) (o := .cells #[.int .i64 a0_0, .int .i64 a0_1, .int .i64 a0_2, .slice (some ad139) l0_3.length c0_3] 24 (0, 0)) (zk BK129) hb); have n1_ := Aside0.mk (below_step zB hb); clear BK129; clear HB; have BK129 := n0_; have HB := n1_; clear n0_ n1_; (try clear hb); (try clear hb2); (try clear hk); (try clear hi))))
      (try simp only [Act.put, List.setIfInBounds_toArray, List.set_cons_zero, List.set_cons_succ])
      have H := HC37.out
      clear HC37
      by_cases c40 : t142 = true
      ·subst c40
       have H1 : (some (0, t141, true)) = some (r1, r2, r3) := by rw [if_pos rfl] at H; exact H
       clear H
       have H := H1
       clear H1
       simp only [Option.some.injEq, Prod.mk.injEq] at H
       obtain ⟨rfl, rfl, rfl⟩ := H
       have hcz41_0 : w39.cell? ⟨gb129, 0, none⟩ = some (.int .i64 a0_0) := (blk_cell BK129.out 0).trans rfl
       have hcz41_1 : w39.cell? ⟨gb129, 1, none⟩ = some (.int .i64 a0_1) := (blk_cell BK129.out 1).trans rfl
       have hcz41_2 : w39.cell? ⟨gb129, 2, none⟩ = some (.int .i64 a0_2) := (blk_cell BK129.out 2).trans rfl
       have hcz41_3 : w39.cell? ⟨gb129, 3, none⟩ = some (.slice (some ad139) l0_3.length c0_3) := (blk_cell BK129.out 3).trans rfl
       have hfz41_0 := blk_frozen BK129.out 0
       have hfz41_1 := blk_frozen BK129.out 1
       have hfz41_2 := blk_frozen BK129.out 2
       have hfz41_3 := blk_frozen BK129.out 3
       go_wp2
       repeat (go_quiet (fail); try go_wp2)
       go_ret3
       exact ⟨by first | rfl | (simp [errW_none, errW_some] <;> rfl) | (simp [*, errW_none, errW_some] <;> rfl), by repeat (first | (with_reducible first | exact HB.out | apply below_alloc | apply pw_below_drewN | apply below_drew1 | refine below_set ?_ GE129.out) | exact HB.out)⟩
      ·replace c40 := Bool.eq_false_iff.mpr c40
       subst c40
       have H1 : (some (0, 0, true)) = some (r1, r2, r3) := by rw [if_neg (show ¬ (false = true) by decide)] at H; exact H
       clear H
       have H := H1
       clear H1
       simp only [Option.some.injEq, Prod.mk.injEq] at H
       obtain ⟨rfl, rfl, rfl⟩ := H
       go_wp2
       repeat (go_quiet (fail); try go_wp2)
       go_ret3
       exact ⟨by first | rfl | (simp [errW_none, errW_some] <;> rfl) | (simp [*, errW_none, errW_some] <;> rfl), by repeat (first | (with_reducible first | exact HB.out | apply below_alloc | apply pw_below_drewN | apply below_drew1 | refine below_set ?_ GE129.out) | exact HB.out)⟩
     ·rw [if_neg c35] at H
      exact absurd H (by simp)
    ·rw [if_neg c34] at H
     have c34b0 : (a0_0 == 6) = false := beq_eq_false_iff_ne.mpr c34
     have c34b1 : (a0_0 != 6) = true := bne_iff_ne.mpr c34
     by_cases c42 : a0_0 = 4
     ·rw [if_pos c42] at H
      have c42b0 : (a0_0 == 4) = true := beq_iff_eq.mpr c42
      have c42b1 : (a0_0 != 4) = false := bne_eq_false_iff_eq.mpr c42
      clear c42
      by_cases c43 : 0 < (l0_3.length : Int)
      ·rw [if_pos c43] at H
       have c43b0 : decide (0 < (l0_3.length : Int)) = true := decide_eq_true c43
       have c43b1 : decide (0 < l0_3.length) = true := decide_eq_true (by omega)
       clear c43
       replace H := Option.bind_eq_some_iff.mp H
       obtain ⟨⟨t144, t145, t146⟩, A440, H⟩ := H
       replace H : (if a0_2 = 0 then (some (0, 0, true)) else (if t145 > 0 then (some (wrap64 (t144 * a0_2), wrap64 (t145 * a0_2), t146)) else (some (wrap64 (t144 * a0_2), t145, t146)))) = some (r1, r2, r3) := H
       have A44 := Aside0.mk A440
       clear A440
       have HC45 := Aside0.mk H
       clear H
       have hcz46_0 : w3.cell? ⟨gb129, 0, none⟩ = some (.int .i64 a0_0) := (blk_cell BK129.out 0).trans rfl
       have hcz46_1 : w3.cell? ⟨gb129, 1, none⟩ = some (.int .i64 a0_1) := (blk_cell BK129.out 1).trans rfl
       have hcz46_2 : w3.cell? ⟨gb129, 2, none⟩ = some (.int .i64 a0_2) := (blk_cell BK129.out 2).trans rfl
       have hcz46_3 : w3.cell? ⟨gb129, 3, none⟩ = some (.slice A0_3 l0_3.length c0_3) := (blk_cell BK129.out 3).trans rfl
       have hfz46_0 := blk_frozen BK129.out 0
       have hfz46_1 := blk_frozen BK129.out 1
       have hfz46_2 := blk_frozen BK129.out 2
       have hfz46_3 := blk_frozen BK129.out 3
       have p143 : 0 ≤ (0 : Int) := (by omega)
       have q143 : 0 < (l0_3.length : Int) := of_decide_eq_true zh
       obtain ⟨ad143, A143_3, c143_3, e143, hx143_0, hx143_1, hx143_2, hx143_3, hl143_3, hi143_3⟩ := at_T24 HR0_3.out 0 p143 q143
       cases e143
       have qi143 : (0 < l0_3.length) = True := eq_true (by omega)
       (try rw [show ((0 : Int)).toNat = 0 from rfl] at hx143_0)
       (try rw [show 0 * 4 = 0 from rfl] at hx143_0)
       (try rw [Addr.add_zero'] at hx143_0)
       (try rw [show ((0 : Int)).toNat = 0 from rfl] at hx143_1)
       (try rw [show 0 * 4 = 0 from rfl] at hx143_1)
       (try rw [Addr.add_zero'] at hx143_1)
       (try rw [show ((0 : Int)).toNat = 0 from rfl] at hx143_2)
       (try rw [show 0 * 4 = 0 from rfl] at hx143_2)
       (try rw [Addr.add_zero'] at hx143_2)
       (try rw [show ((0 : Int)).toNat = 0 from rfl] at hx143_3)
       (try rw [show 0 * 4 = 0 from rfl] at hx143_3)
       (try rw [Addr.add_zero'] at hx143_3)
       replace hx143_0 := (HB.out.cell (World.block_lt_of_cell? w _ hx143_0)).trans hx143_0
       replace hx143_1 := (HB.out.cell (World.block_lt_of_cell? w _ hx143_1)).trans hx143_1
       replace hx143_2 := (HB.out.cell (World.block_lt_of_cell? w _ hx143_2)).trans hx143_2
       replace hx143_3 := (HB.out.cell (World.block_lt_of_cell? w _ hx143_3)).trans hx143_3
       have HR143_3 := Aside0.mk hi143_3
       have HC143_3 := Aside0.mk hl143_3
       clear hi143_3 hl143_3
       replace p143 := eq_true p143
       replace q143 := eq_true q143
       go_upto_if 109 with (first | (go_at_call 40; (with_reducible refine (ih k (by omega) ((rd_T24 l0_3 0).f0) ((rd_T24 l0_3 0).f1) ((rd_T24 l0_3 0).f2) _ _ ((rd_T24 l0_3 0).f3) t144 t145 t146 _ ?side1 ?side2 A44.out).mono ?_); (case side1 => repeat (first | exact (Kd.C_below HR143_3.out HB.out) | (with_reducible refine Kd.C_alloc ?_ _) | (with_reducible refine Kd.C_drewN ?_ _) | (with_reducible refine Kd.C_drew ?_))); (case side2 => exact HC143_3.out); rintro e w47 ⟨rfl, hb⟩; have n0_ := Aside0.mk (blk_below (g := gb129) (o := .cells #[.int .i64 a0_0, .int .i64 a0_1, .int .i64 a0_2, .slice (some ad143) l0_3.length c0_3] 24 (0, 0)) (zk BK129) hb); have n1_ := Aside0.mk (below_step zB hb); clear BK129; clear HB; have BK129 := n0_; have HB := n1_; clear n0_ n1_; (try clear hb); (try clear hb2); (try clear hk); (try clear hi); have hcz48_0 : w47.cell? ⟨gb129, 0, none⟩ = some (.int .i64 a0_0) := (blk_cell BK129.out 0).trans rfl; have hcz48_1 : w47.cell? ⟨gb129, 1, none⟩ = some (.int .i64 a0_1) := (blk_cell BK129.out 1).trans rfl; have hcz48_2 : w47.cell? ⟨gb129, 2, none⟩ = some (.int .i64 a0_2) := (blk_cell BK129.out 2).trans rfl; have hcz48_3 : w47.cell? ⟨gb129, 3, none⟩ = some (.slice (some ad143) l0_3.length c0_3) := (blk_cell BK129.out 3).trans rfl; have hfz48_0 := blk_frozen BK129.out 0; have hfz48_1 := blk_frozen BK129.out 1; have hfz48_2 := blk_frozen BK129.out 2; have hfz48_3 := blk_frozen BK129.out 3))
       repeat (go_quiet (first | (go_at_call 40; (with_reducible refine (ih k (by omega) ((rd_T24 l0_3 0).f0) ((rd_T24 l0_3 0).f1) ((rd_T24 l0_3 0).f2) _ _ ((rd_T24 l0_3 0).f3) t144 t145 t146 _ ?side1 ?side2 A44.out).mono ?_); (case side1 => repeat (first | exact (Kd.C_below HR143_3.out HB.out) | (with_reducible refine Kd.C_alloc ?_ _) | (with_reducible refine Kd.C_drewN ?_ _) | (with_reducible refine Kd.C_drew ?_))); (case side2 => exact HC143_3.out); rintro e w47 ⟨rfl, hb⟩; have n0_ := Aside0.mk (blk_below (g := gb129) (o := .cells #[.int .i64 a0_0, .int .i64 a0_1, .int .i64 a0_2, .slice (some ad143) l0_3.length c0_3] 24 (0, 0)) (zk BK129) hb); have n1_ := Aside0.mk (below_step zB hb); clear BK129; clear HB; have BK129 := n0_; have HB := n1_; clear n0_ n1_; (try clear hb); (try clear hb2); (try clear hk); (try clear hi); have hcz48_0 : w47.cell? ⟨gb129, 0, none⟩ = some (.int .i64 a0_0) := (blk_cell BK129.out 0).trans rfl; have hcz48_1 : w47.cell? ⟨gb129, 1, none⟩ = some (.int .i64 a0_1) := (blk_cell BK129.out 1).trans rfl; have hcz48_2 : w47.cell? ⟨gb129, 2, none⟩ = some (.int .i64 a0_2) := (blk_cell BK129.out 2).trans rfl; have hcz48_3 : w47.cell? ⟨gb129, 3, none⟩ = some (.slice (some ad143) l0_3.length c0_3) := (blk_cell BK129.out 3).trans rfl; have hfz48_0 := blk_frozen BK129.out 0; have hfz48_1 := blk_frozen BK129.out 1; have hfz48_2 := blk_frozen BK129.out 2; have hfz48_3 := blk_frozen BK129.out 3)); go_upto_if 109 with (first | (go_at_call 40; (with_reducible refine (ih k (by omega) ((rd_T24 l0_3 0).f0) ((rd_T24 l0_3 0).f1) ((rd_T24 l0_3 0).f2) _ _ ((rd_T24 l0_3 0).f3) t144 t145 t146 _ ?side1 ?side2 A44.out).mono ?_); (case side1 => repeat (first | exact (Kd.C_below HR143_3.out HB.out) | (with_reducible refine Kd.C_alloc ?_ _) | (with_reducible refine Kd.C_drewN ?_ _) | (with_reducible refine Kd.C_drew ?_))); (case side2 => exact HC143_3.out); rintro e w47 ⟨rfl, hb⟩; have n0_ := Aside0.mk (blk_below (g := gb129) (o := .cells #[.int .i64 a0_0, .int .i64 a0_1, .int .i64 a0_2, .slice (some ad143) l0_3.length c0_3] 24 (0, 0)) (zk BK129) hb); have n1_ := Aside0.mk (below_step zB hb); clear BK129; clear HB; have BK129 := n0_; have HB := n1_; clear n0_ n1_; (try clear hb); (try clear hb2); (try clear hk); (try clear hi); have hcz48_0 : w47.cell? ⟨gb129, 0, none⟩ = some (.int .i64 a0_0) := (blk_cell BK129.out 0).trans rfl; have hcz48_1 : w47.cell? ⟨gb129, 1, none⟩ = some (.int .i64 a0_1) := (blk_cell BK129.out 1).trans rfl; have hcz48_2 : w47.cell? ⟨gb129, 2, none⟩ = some (.int .i64 a0_2) := (blk_cell BK129.out 2).trans rfl; have hcz48_3 : w47.cell? ⟨gb129, 3, none⟩ = some (.slice (some ad143) l0_3.length c0_3) := (blk_cell BK129.out 3).trans rfl; have hfz48_0 := blk_frozen BK129.out 0; have hfz48_1 := blk_frozen BK129.out 1; have hfz48_2 := blk_frozen BK129.out 2; have hfz48_3 := blk_frozen BK129.out 3)))
       (try simp only [Act.put, List.setIfInBounds_toArray, List.set_cons_zero, List.set_cons_succ])
       have H := HC45.out
       clear HC45
       by_cases c49 : a0_2 = 0
       ·rw [if_pos c49] at H
        have c49b0 : (a0_2 == 0) = true := beq_iff_eq.mpr c49
        have c49b1 : (a0_2 != 0) = false := bne_eq_false_iff_eq.mpr c49
        clear c49
        (first | rw [c49b0] | (simp only [i64_w, i32_w]; rw [c49b0]) | skip)
        (try rw [c49b1])
        simp only [Option.some.injEq, Prod.mk.injEq] at H
        obtain ⟨rfl, rfl, rfl⟩ := H
        go_wp2
        repeat (go_quiet (fail); try go_wp2)
        go_ret3
        exact ⟨by first | rfl | (simp [errW_none, errW_some] <;> rfl) | (simp [*, errW_none, errW_some] <;> rfl), by repeat (first | (with_reducible first | exact HB.out | apply below_alloc | apply pw_below_drewN | apply below_drew1 | refine below_set ?_ GE129.out) | exact HB.out)⟩
       ·rw [if_neg c49] at H
        have c49b0 : (a0_2 == 0) = false := beq_eq_false_iff_ne.mpr c49
        have c49b1 : (a0_2 != 0) = true := bne_iff_ne.mpr c49
        (first | rw [c49b0] | (simp only [i64_w, i32_w]; rw [c49b0]) | skip)
        (try rw [c49b1])
        by_cases c50 : t145 > 0
        ·rw [if_pos c50] at H
         have c50b0 : decide (0 < t145) = true := decide_eq_true c50
         clear c50
         simp only [Option.some.injEq, Prod.mk.injEq] at H
         obtain ⟨rfl, rfl, rfl⟩ := H
         have hcz51_0 : w47.cell? ⟨gb129, 0, none⟩ = some (.int .i64 a0_0) := (blk_cell BK129.out 0).trans rfl
         have hcz51_1 : w47.cell? ⟨gb129, 1, none⟩ = some (.int .i64 a0_1) := (blk_cell BK129.out 1).trans rfl
         have hcz51_2 : w47.cell? ⟨gb129, 2, none⟩ = some (.int .i64 a0_2) := (blk_cell BK129.out 2).trans rfl
         have hcz51_3 : w47.cell? ⟨gb129, 3, none⟩ = some (.slice (some ad143) l0_3.length c0_3) := (blk_cell BK129.out 3).trans rfl
         have hfz51_0 := blk_frozen BK129.out 0
         have hfz51_1 := blk_frozen BK129.out 1
         have hfz51_2 := blk_frozen BK129.out 2
         have hfz51_3 := blk_frozen BK129.out 3
         go_wp2
         repeat (go_quiet (fail); try go_wp2)
         go_ret3
         exact ⟨by first | rfl | (simp [errW_none, errW_some] <;> rfl) | (simp [*, errW_none, errW_some] <;> rfl), by repeat (first | (with_reducible first | exact HB.out | apply below_alloc | apply pw_below_drewN | apply below_drew1 | refine below_set ?_ GE129.out) | exact HB.out)⟩
        ·rw [if_neg c50] at H
         have c50b0 : decide (0 < t145) = false := decide_eq_false c50
         clear c50
         simp only [Option.some.injEq, Prod.mk.injEq] at H
         obtain ⟨rfl, rfl, rfl⟩ := H
         have hcz52_0 : w47.cell? ⟨gb129, 0, none⟩ = some (.int .i64 a0_0) := (blk_cell BK129.out 0).trans rfl
         have hcz52_1 : w47.cell? ⟨gb129, 1, none⟩ = some (.int .i64 a0_1) := (blk_cell BK129.out 1).trans rfl
         have hcz52_2 : w47.cell? ⟨gb129, 2, none⟩ = some (.int .i64 a0_2) := (blk_cell BK129.out 2).trans rfl
         have hcz52_3 : w47.cell? ⟨gb129, 3, none⟩ = some (.slice (some ad143) l0_3.length c0_3) := (blk_cell BK129.out 3).trans rfl
         have hfz52_0 := blk_frozen BK129.out 0
         have hfz52_1 := blk_frozen BK129.out 1
         have hfz52_2 := blk_frozen BK129.out 2
         have hfz52_3 := blk_frozen BK129.out 3
         go_wp2
         repeat (go_quiet (fail); try go_wp2)
         go_ret3
         exact ⟨by first | rfl | (simp [errW_none, errW_some] <;> rfl) | (simp [*, errW_none, errW_some] <;> rfl), by repeat (first | (with_reducible first | exact HB.out | apply below_alloc | apply pw_below_drewN | apply below_drew1 | refine below_set ?_ GE129.out) | exact HB.out)⟩
      ·rw [if_neg c43] at H
       exact absurd H (by simp)
     ·rw [if_neg c42] at H
      have c42b0 : (a0_0 == 4) = false := beq_eq_false_iff_ne.mpr c42
      have c42b1 : (a0_0 != 4) = true := bne_iff_ne.mpr c42
      have H' := Aside0.mk H
      clear H
      have hcz53_0 : w3.cell? ⟨gb129, 0, none⟩ = some (.int .i64 a0_0) := (blk_cell BK129.out 0).trans rfl
      have hcz53_1 : w3.cell? ⟨gb129, 1, none⟩ = some (.int .i64 a0_1) := (blk_cell BK129.out 1).trans rfl
      have hcz53_2 : w3.cell? ⟨gb129, 2, none⟩ = some (.int .i64 a0_2) := (blk_cell BK129.out 2).trans rfl
      have hcz53_3 : w3.cell? ⟨gb129, 3, none⟩ = some (.slice A0_3 l0_3.length c0_3) := (blk_cell BK129.out 3).trans rfl
      have hfz53_0 := blk_frozen BK129.out 0
      have hfz53_1 := blk_frozen BK129.out 1
      have hfz53_2 := blk_frozen BK129.out 2
      have hfz53_3 := blk_frozen BK129.out 3
      go_wp2
      repeat (go_quiet (fail); try go_wp2)
      go_loopg [19, 20, 21, 125] k (fun kq v19 v20 v21 v125 w' => ∃ (x19_1 : Int) (x20_1 : Int) (x21_1 : Bool) (x125_1 : Int), v19 = .int .i64 x19_1 ∧ v20 = .int .i64 x20_1 ∧ v21 = .bool x21_1 ∧ v125 = .int .i64 x125_1 ∧ Aside0 (expr_span.l1 kq x19_1 x20_1 x21_1 l0_3 (l0_3.length : Int) x125_1 = some (r1, r2, r3)) ∧ Aside0 (kq ≤ k) ∧ Aside0 (w'.heap[gb129]? = some (.cells #[.int .i64 a0_0, .int .i64 a0_1, .int .i64 a0_2, (.slice A0_3 l0_3.length c0_3)] 24 (0, 0))) ∧ Aside0 (Below w.heap.size w w'))
      case atStart => exact ⟨(0), (0), (true), (0), zT, zT, zT, zT, H', ⟨Nat.le_refl _⟩, ⟨by (with_reducible repeat (first | refine blk_drewN ?_ _ | refine blk_drew ?_ | refine blk_alloc ?_ _)); exact BK129.out⟩, ⟨by repeat (first | (with_reducible first | exact HB.out | apply below_alloc | apply pw_below_drewN | apply below_drew1 | refine below_set ?_ GE129.out) | exact HB.out)⟩⟩
      case round =>
       clear H'
       try clear c5
       try clear c5b0
       try clear c5b1
       try clear c7
       try clear c7b0
       try clear c7b1
       try clear c24
       try clear c24b0
       try clear c24b1
       try clear c34
       try clear c34b0
       try clear c34b1
       try clear c42
       try clear c42b0
       try clear c42b1
       try clear hcz4_0
       try clear hcz4_1
       try clear hcz4_2
       try clear hcz4_3
       try clear hcz53_0
       try clear hcz53_1
       try clear hcz53_2
       try clear hcz53_3
       try clear hfz4_0
       try clear hfz4_1
       try clear hfz4_2
       try clear hfz4_3
       try clear hfz53_0
       try clear hfz53_1
       try clear hfz53_2
       try clear hfz53_3
       obtain ⟨x19_1, x20_1, x21_1, x125_1, rfl, rfl, rfl, rfl, HA, HK1, BK129, HB⟩ := hrel
       cases gk with
       | zero => exact absurd HA.out (by simp [expr_span.l1])
       | succ k1 =>
        have H := HA.out
        clear HA
        simp only [expr_span.l1] at H
        by_cases c54 : x125_1 < (l0_3.length : Int)
        ·rw [if_pos c54] at H
         have c54b0 : decide (x125_1 < (l0_3.length : Int)) = true := decide_eq_true c54
         clear c54
         by_cases c55 : 0 ≤ x125_1
         ·rw [if_pos c55] at H
          have c55b0 : decide (0 ≤ x125_1) = true := decide_eq_true c55
          clear c55
          by_cases c56 : x125_1 < (l0_3.length : Int)
          ·rw [if_pos c56] at H
           have c56b0 : decide (x125_1 < (l0_3.length : Int)) = true := decide_eq_true c56
           clear c56
           replace H := Option.bind_eq_some_iff.mp H
           obtain ⟨⟨t149, t150, t151⟩, A570, H⟩ := H
           replace H : (if x21_1 = true then (if t150 < 0 then (expr_span.l1 k1 (wrap64 (x19_1 + t149)) (-1) t151 l0_3 (l0_3.length : Int) (wrap64 (x125_1 + 1))) else (if x20_1 < 0 then (expr_span.l1 k1 (wrap64 (x19_1 + t149)) (-1) t151 l0_3 (l0_3.length : Int) (wrap64 (x125_1 + 1))) else (expr_span.l1 k1 (wrap64 (x19_1 + t149)) (wrap64 (x20_1 + t150)) t151 l0_3 (l0_3.length : Int) (wrap64 (x125_1 + 1))))) else (if t150 < 0 then (expr_span.l1 k1 (wrap64 (x19_1 + t149)) (-1) false l0_3 (l0_3.length : Int) (wrap64 (x125_1 + 1))) else (if x20_1 < 0 then (expr_span.l1 k1 (wrap64 (x19_1 + t149)) (-1) false l0_3 (l0_3.length : Int) (wrap64 (x125_1 + 1))) else (expr_span.l1 k1 (wrap64 (x19_1 + t149)) (wrap64 (x20_1 + t150)) false l0_3 (l0_3.length : Int) (wrap64 (x125_1 + 1)))))) = some (r1, r2, r3) := H
           have A57 := Aside0.mk A570
           clear A570
           have HC58 := Aside0.mk H
           clear H
           have p147 : 0 ≤ (x125_1 : Int) := of_decide_eq_true zh
           have q147 : x125_1 < (l0_3.length : Int) := of_decide_eq_true zh
           obtain ⟨ad147, A147_3, c147_3, e147, hx147_0, hx147_1, hx147_2, hx147_3, hl147_3, hi147_3⟩ := at_T24 HR0_3.out x125_1 p147 q147
           cases e147
           replace hx147_0 := (HB.out.cell (World.block_lt_of_cell? w _ hx147_0)).trans hx147_0
           replace hx147_1 := (HB.out.cell (World.block_lt_of_cell? w _ hx147_1)).trans hx147_1
           replace hx147_2 := (HB.out.cell (World.block_lt_of_cell? w _ hx147_2)).trans hx147_2
           replace hx147_3 := (HB.out.cell (World.block_lt_of_cell? w _ hx147_3)).trans hx147_3
           have HR147_3 := Aside0.mk hi147_3
           have HC147_3 := Aside0.mk hl147_3
           clear hi147_3 hl147_3
           replace p147 := eq_true p147
           replace q147 := eq_true q147
           go_upto_region 40 with (first | ((with_reducible refine gate_dst (N := 23) rfl ?_); refine box_event ?hg (N := 23) ?hd (cs := #[.int .i64 0, .int .i64 0, .int .i64 0, .slice none 0 0]) (t := 24) ?hr ?_; (case hd => rfl); (case hg => rfl); (case hr => first | (go_simp; done) | (go_simp; rfl)); intro gb148 hg w59 hbox hb; have n0_ := Aside0.mk (blk_below (g := gb129) (o := .cells #[.int .i64 a0_0, .int .i64 a0_1, .int .i64 a0_2, .slice (some ad147) l0_3.length c0_3] 24 (0, 0)) (zk BK129) hb); have n1_ := Aside0.mk (below_step zB hb); have n2_ := Aside0.mk (hbox); have n3_ := Aside0.mk ((by rw [hg]; exact (below_size zB) : w.heap.size ≤ gb148)); have n4_ := Aside0.mk ((by rw [hg]; exact (below_size zB) : w.heap.size ≤ gb148)); have n5_ := Aside0.mk ((by rw [hg]; exact Nat.ne_of_lt (blk_lt (g := gb129) (o := .cells #[.int .i64 a0_0, .int .i64 a0_1, .int .i64 a0_2, .slice (some ad147) l0_3.length c0_3] 24 (0, 0)) (zk BK129)) : gb129 ≠ gb148)); have n6_ := Aside0.mk ((by rw [hg]; exact Nat.ne_of_gt (blk_lt (g := gb129) (o := .cells #[.int .i64 a0_0, .int .i64 a0_1, .int .i64 a0_2, .slice (some ad147) l0_3.length c0_3] 24 (0, 0)) (zk BK129)) : gb148 ≠ gb129)); clear BK129; clear HB; have BK129 := n0_; have HB := n1_; have BK148 := n2_; have GW148 := n3_; have GE148 := n4_; have NB129_148 := n5_; have NB148_129 := n6_; clear n0_ n1_ n2_ n3_ n4_ n5_ n6_; clear hb hbox hg; have hnb60 := NB148_129.out; have hnc60 := NB129_148.out; have hcz61_0 : w59.cell? ⟨gb148, 0, none⟩ = some (.int .i64 0) := (blk_cell BK148.out 0).trans rfl; have hcz61_1 : w59.cell? ⟨gb148, 1, none⟩ = some (.int .i64 0) := (blk_cell BK148.out 1).trans rfl; have hcz61_2 : w59.cell? ⟨gb148, 2, none⟩ = some (.int .i64 0) := (blk_cell BK148.out 2).trans rfl; have hcz61_3 : w59.cell? ⟨gb148, 3, none⟩ = some (.slice none 0 0) := (blk_cell BK148.out 3).trans rfl; have hfz61_0 := blk_frozen BK148.out 0; have hfz61_1 := blk_frozen BK148.out 1; have hfz61_2 := blk_frozen BK148.out 2; have hfz61_3 := blk_frozen BK148.out 3) | (go_at_call 40; (with_reducible refine (ih k1 (by have := HK1.out; omega) ((rd_T24 l0_3 x125_1).f0) ((rd_T24 l0_3 x125_1).f1) ((rd_T24 l0_3 x125_1).f2) _ _ ((rd_T24 l0_3 x125_1).f3) t149 t150 t151 _ ?side1 ?side2 A57.out).mono ?_); (case side1 => exact Kd.C_below HR147_3.out zB); (case side2 => exact HC147_3.out); rintro e w62 ⟨rfl, hb⟩; have n0_ := Aside0.mk (blk_below (g := gb129) (o := .cells #[.int .i64 a0_0, .int .i64 a0_1, .int .i64 a0_2, .slice (some ad147) l0_3.length c0_3] 24 (0, 0)) (by (with_reducible repeat (first | refine blk_drewN ?_ _ | refine blk_drew ?_ | refine blk_alloc ?_ _)); refine blk_far ?_ NB129_148.out _; (with_reducible repeat (first | refine blk_drewN ?_ _ | refine blk_drew ?_ | refine blk_alloc ?_ _)); refine blk_far ?_ NB129_148.out _; (with_reducible repeat (first | refine blk_drewN ?_ _ | refine blk_drew ?_ | refine blk_alloc ?_ _)); refine blk_far ?_ NB129_148.out _; (with_reducible repeat (first | refine blk_drewN ?_ _ | refine blk_drew ?_ | refine blk_alloc ?_ _)); refine blk_far ?_ NB129_148.out _; (with_reducible repeat (first | refine blk_drewN ?_ _ | refine blk_drew ?_ | refine blk_alloc ?_ _)); exact BK129.out) hb); have n1_ := Aside0.mk (blk_below (g := gb148) (o := .cells #[.int .i64 ((rd_T24 l0_3 x125_1).f0), .int .i64 ((rd_T24 l0_3 x125_1).f1), .int .i64 ((rd_T24 l0_3 x125_1).f2), .slice A147_3 ((rd_T24 l0_3 x125_1).f3).length c147_3] 24 (0, 0)) (by (with_reducible repeat (first | refine blk_drewN ?_ _ | refine blk_drew ?_ | refine blk_alloc ?_ _)); refine blk_put (cs := #[.int .i64 ((rd_T24 l0_3 x125_1).f0), .int .i64 ((rd_T24 l0_3 x125_1).f1), .int .i64 ((rd_T24 l0_3 x125_1).f2), .slice none 0 0]) ?_ 3 _ rfl; (with_reducible repeat (first | refine blk_drewN ?_ _ | refine blk_drew ?_ | refine blk_alloc ?_ _)); refine blk_put (cs := #[.int .i64 ((rd_T24 l0_3 x125_1).f0), .int .i64 ((rd_T24 l0_3 x125_1).f1), .int .i64 0, .slice none 0 0]) ?_ 2 _ rfl; (with_reducible repeat (first | refine blk_drewN ?_ _ | refine blk_drew ?_ | refine blk_alloc ?_ _)); refine blk_put (cs := #[.int .i64 ((rd_T24 l0_3 x125_1).f0), .int .i64 0, .int .i64 0, .slice none 0 0]) ?_ 1 _ rfl; (with_reducible repeat (first | refine blk_drewN ?_ _ | refine blk_drew ?_ | refine blk_alloc ?_ _)); refine blk_put (cs := #[.int .i64 0, .int .i64 0, .int .i64 0, .slice none 0 0]) ?_ 0 _ rfl; (with_reducible repeat (first | refine blk_drewN ?_ _ | refine blk_drew ?_ | refine blk_alloc ?_ _)); exact BK148.out) hb); have n2_ := Aside0.mk (below_step zB hb); clear BK129; clear BK148; clear HB; have BK129 := n0_; have BK148 := n1_; have HB := n2_; clear n0_ n1_ n2_; (try clear hb); (try clear hb2); (try clear hk); (try clear hi)))
           repeat (go_quiet (first | ((with_reducible refine gate_dst (N := 23) rfl ?_); refine box_event ?hg (N := 23) ?hd (cs := #[.int .i64 0, .int .i64 0, .int .i64 0, .slice none 0 0]) (t := 24) ?hr ?_; (case hd => rfl); (case hg => rfl); (case hr => first | (go_simp; done) | (go_simp; rfl)); intro gb148 hg w59 hbox hb; have n0_ := Aside0.mk (blk_below (g := gb129) (o := .cells #[.int .i64 a0_0, .int .i64 a0_1, .int .i64 a0_2, .slice (some ad147) l0_3.length c0_3] 24 (0, 0)) (zk BK129) hb); have n1_ := Aside0.mk (below_step zB hb); have n2_ := Aside0.mk (hbox); have n3_ := Aside0.mk ((by rw [hg]; exact (below_size zB) : w.heap.size ≤ gb148)); have n4_ := Aside0.mk ((by rw [hg]; exact (below_size zB) : w.heap.size ≤ gb148)); have n5_ := Aside0.mk ((by rw [hg]; exact Nat.ne_of_lt (blk_lt (g := gb129) (o := .cells #[.int .i64 a0_0, .int .i64 a0_1, .int .i64 a0_2, .slice (some ad147) l0_3.length c0_3] 24 (0, 0)) (zk BK129)) : gb129 ≠ gb148)); have n6_ := Aside0.mk ((by rw [hg]; exact Nat.ne_of_gt (blk_lt (g := gb129) (o := .cells #[.int .i64 a0_0, .int .i64 a0_1, .int .i64 a0_2, .slice (some ad147) l0_3.length c0_3] 24 (0, 0)) (zk BK129)) : gb148 ≠ gb129)); clear BK129; clear HB; have BK129 := n0_; have HB := n1_; have BK148 := n2_; have GW148 := n3_; have GE148 := n4_; have NB129_148 := n5_; have NB148_129 := n6_; clear n0_ n1_ n2_ n3_ n4_ n5_ n6_; clear hb hbox hg; have hnb60 := NB148_129.out; have hnc60 := NB129_148.out; have hcz61_0 : w59.cell? ⟨gb148, 0, none⟩ = some (.int .i64 0) := (blk_cell BK148.out 0).trans rfl; have hcz61_1 : w59.cell? ⟨gb148, 1, none⟩ = some (.int .i64 0) := (blk_cell BK148.out 1).trans rfl; have hcz61_2 : w59.cell? ⟨gb148, 2, none⟩ = some (.int .i64 0) := (blk_cell BK148.out 2).trans rfl; have hcz61_3 : w59.cell? ⟨gb148, 3, none⟩ = some (.slice none 0 0) := (blk_cell BK148.out 3).trans rfl; have hfz61_0 := blk_frozen BK148.out 0; have hfz61_1 := blk_frozen BK148.out 1; have hfz61_2 := blk_frozen BK148.out 2; have hfz61_3 := blk_frozen BK148.out 3) | (go_at_call 40; (with_reducible refine (ih k1 (by have := HK1.out; omega) ((rd_T24 l0_3 x125_1).f0) ((rd_T24 l0_3 x125_1).f1) ((rd_T24 l0_3 x125_1).f2) _ _ ((rd_T24 l0_3 x125_1).f3) t149 t150 t151 _ ?side1 ?side2 A57.out).mono ?_); (case side1 => exact Kd.C_below HR147_3.out zB); (case side2 => exact HC147_3.out); rintro e w62 ⟨rfl, hb⟩; have n0_ := Aside0.mk (blk_below (g := gb129) (o := .cells #[.int .i64 a0_0, .int .i64 a0_1, .int .i64 a0_2, .slice (some ad147) l0_3.length c0_3] 24 (0, 0)) (by (with_reducible repeat (first | refine blk_drewN ?_ _ | refine blk_drew ?_ | refine blk_alloc ?_ _)); refine blk_far ?_ NB129_148.out _; (with_reducible repeat (first | refine blk_drewN ?_ _ | refine blk_drew ?_ | refine blk_alloc ?_ _)); refine blk_far ?_ NB129_148.out _; (with_reducible repeat (first | refine blk_drewN ?_ _ | refine blk_drew ?_ | refine blk_alloc ?_ _)); refine blk_far ?_ NB129_148.out _; (with_reducible repeat (first | refine blk_drewN ?_ _ | refine blk_drew ?_ | refine blk_alloc ?_ _)); refine blk_far ?_ NB129_148.out _; (with_reducible repeat (first | refine blk_drewN ?_ _ | refine blk_drew ?_ | refine blk_alloc ?_ _)); exact BK129.out) hb); have n1_ := Aside0.mk (blk_below (g := gb148) (o := .cells #[.int .i64 ((rd_T24 l0_3 x125_1).f0), .int .i64 ((rd_T24 l0_3 x125_1).f1), .int .i64 ((rd_T24 l0_3 x125_1).f2), .slice A147_3 ((rd_T24 l0_3 x125_1).f3).length c147_3] 24 (0, 0)) (by (with_reducible repeat (first | refine blk_drewN ?_ _ | refine blk_drew ?_ | refine blk_alloc ?_ _)); refine blk_put (cs := #[.int .i64 ((rd_T24 l0_3 x125_1).f0), .int .i64 ((rd_T24 l0_3 x125_1).f1), .int .i64 ((rd_T24 l0_3 x125_1).f2), .slice none 0 0]) ?_ 3 _ rfl; (with_reducible repeat (first | refine blk_drewN ?_ _ | refine blk_drew ?_ | refine blk_alloc ?_ _)); refine blk_put (cs := #[.int .i64 ((rd_T24 l0_3 x125_1).f0), .int .i64 ((rd_T24 l0_3 x125_1).f1), .int .i64 0, .slice none 0 0]) ?_ 2 _ rfl; (with_reducible repeat (first | refine blk_drewN ?_ _ | refine blk_drew ?_ | refine blk_alloc ?_ _)); refine blk_put (cs := #[.int .i64 ((rd_T24 l0_3 x125_1).f0), .int .i64 0, .int .i64 0, .slice none 0 0]) ?_ 1 _ rfl; (with_reducible repeat (first | refine blk_drewN ?_ _ | refine blk_drew ?_ | refine blk_alloc ?_ _)); refine blk_put (cs := #[.int .i64 0, .int .i64 0, .int .i64 0, .slice none 0 0]) ?_ 0 _ rfl; (with_reducible repeat (first | refine blk_drewN ?_ _ | refine blk_drew ?_ | refine blk_alloc ?_ _)); exact BK148.out) hb); have n2_ := Aside0.mk (below_step zB hb); clear BK129; clear BK148; clear HB; have BK129 := n0_; have BK148 := n1_; have HB := n2_; clear n0_ n1_ n2_; (try clear hb); (try clear hb2); (try clear hk); (try clear hi))); go_upto_region 40 with (first | ((with_reducible refine gate_dst (N := 23) rfl ?_); refine box_event ?hg (N := 23) ?hd (cs := #[.int .i64 0, .int .i64 0, .int .i64 0, .slice none 0 0]) (t := 24) ?hr ?_; (case hd => rfl); (case hg => rfl); (case hr => first | (go_simp; done) | (go_simp; rfl)); intro gb148 hg w59 hbox hb; have n0_ := Aside0.mk (blk_below (g := gb129) (o := .cells #[.int .i64 a0_0, .int .i64 a0_1, .int .i64 a0_2, .slice (some ad147) l0_3.length c0_3] 24 (0, 0)) (zk BK129) hb); have n1_ := Aside0.mk (below_step zB hb); have n2_ := Aside0.mk (hbox); have n3_ := Aside0.mk ((by rw [hg]; exact (below_size zB) : w.heap.size ≤ gb148)); have n4_ := Aside0.mk ((by rw [hg]; exact (below_size zB) : w.heap.size ≤ gb148)); have n5_ := Aside0.mk ((by rw [hg]; exact Nat.ne_of_lt (blk_lt (g := gb129) (o := .cells #[.int .i64 a0_0, .int .i64 a0_1, .int .i64 a0_2, .slice (some ad147) l0_3.length c0_3] 24 (0, 0)) (zk BK129)) : gb129 ≠ gb148)); have n6_ := Aside0.mk ((by rw [hg]; exact Nat.ne_of_gt (blk_lt (g := gb129) (o := .cells #[.int .i64 a0_0, .int .i64 a0_1, .int .i64 a0_2, .slice (some ad147) l0_3.length c0_3] 24 (0, 0)) (zk BK129)) : gb148 ≠ gb129)); clear BK129; clear HB; have BK129 := n0_; have HB := n1_; have BK148 := n2_; have GW148 := n3_; have GE148 := n4_; have NB129_148 := n5_; have NB148_129 := n6_; clear n0_ n1_ n2_ n3_ n4_ n5_ n6_; clear hb hbox hg; have hnb60 := NB148_129.out; have hnc60 := NB129_148.out; have hcz61_0 : w59.cell? ⟨gb148, 0, none⟩ = some (.int .i64 0) := (blk_cell BK148.out 0).trans rfl; have hcz61_1 : w59.cell? ⟨gb148, 1, none⟩ = some (.int .i64 0) := (blk_cell BK148.out 1).trans rfl; have hcz61_2 : w59.cell? ⟨gb148, 2, none⟩ = some (.int .i64 0) := (blk_cell BK148.out 2).trans rfl; have hcz61_3 : w59.cell? ⟨gb148, 3, none⟩ = some (.slice none 0 0) := (blk_cell BK148.out 3).trans rfl; have hfz61_0 := blk_frozen BK148.out 0; have hfz61_1 := blk_frozen BK148.out 1; have hfz61_2 := blk_frozen BK148.out 2; have hfz61_3 := blk_frozen BK148.out 3) | (go_at_call 40; (with_reducible refine (ih k1 (by have := HK1.out; omega) ((rd_T24 l0_3 x125_1).f0) ((rd_T24 l0_3 x125_1).f1) ((rd_T24 l0_3 x125_1).f2) _ _ ((rd_T24 l0_3 x125_1).f3) t149 t150 t151 _ ?side1 ?side2 A57.out).mono ?_); (case side1 => exact Kd.C_below HR147_3.out zB); (case side2 => exact HC147_3.out); rintro e w62 ⟨rfl, hb⟩; have n0_ := Aside0.mk (blk_below (g := gb129) (o := .cells #[.int .i64 a0_0, .int .i64 a0_1, .int .i64 a0_2, .slice (some ad147) l0_3.length c0_3] 24 (0, 0)) (by (with_reducible repeat (first | refine blk_drewN ?_ _ | refine blk_drew ?_ | refine blk_alloc ?_ _)); refine blk_far ?_ NB129_148.out _; (with_reducible repeat (first | refine blk_drewN ?_ _ | refine blk_drew ?_ | refine blk_alloc ?_ _)); refine blk_far ?_ NB129_148.out _; (with_reducible repeat (first | refine blk_drewN ?_ _ | refine blk_drew ?_ | refine blk_alloc ?_ _)); refine blk_far ?_ NB129_148.out _; (with_reducible repeat (first | refine blk_drewN ?_ _ | refine blk_drew ?_ | refine blk_alloc ?_ _)); refine blk_far ?_ NB129_148.out _; (with_reducible repeat (first | refine blk_drewN ?_ _ | refine blk_drew ?_ | refine blk_alloc ?_ _)); exact BK129.out) hb); have n1_ := Aside0.mk (blk_below (g := gb148) (o := .cells #[.int .i64 ((rd_T24 l0_3 x125_1).f0), .int .i64 ((rd_T24 l0_3 x125_1).f1), .int .i64 ((rd_T24 l0_3 x125_1).f2), .slice A147_3 ((rd_T24 l0_3 x125_1).f3).length c147_3] 24 (0, 0)) (by (with_reducible repeat (first | refine blk_drewN ?_ _ | refine blk_drew ?_ | refine blk_alloc ?_ _)); refine blk_put (cs := #[.int .i64 ((rd_T24 l0_3 x125_1).f0), .int .i64 ((rd_T24 l0_3 x125_1).f1), .int .i64 ((rd_T24 l0_3 x125_1).f2), .slice none 0 0]) ?_ 3 _ rfl; (with_reducible repeat (first | refine blk_drewN ?_ _ | refine blk_drew ?_ | refine blk_alloc ?_ _)); refine blk_put (cs := #[.int .i64 ((rd_T24 l0_3 x125_1).f0), .int .i64 ((rd_T24 l0_3 x125_1).f1), .int .i64 0, .slice none 0 0]) ?_ 2 _ rfl; (with_reducible repeat (first | refine blk_drewN ?_ _ | refine blk_drew ?_ | refine blk_alloc ?_ _)); refine blk_put (cs := #[.int .i64 ((rd_T24 l0_3 x125_1).f0), .int .i64 0, .int .i64 0, .slice none 0 0]) ?_ 1 _ rfl; (with_reducible repeat (first | refine blk_drewN ?_ _ | refine blk_drew ?_ | refine blk_alloc ?_ _)); refine blk_put (cs := #[.int .i64 0, .int .i64 0, .int .i64 0, .slice none 0 0]) ?_ 0 _ rfl; (with_reducible repeat (first | refine blk_drewN ?_ _ | refine blk_drew ?_ | refine blk_alloc ?_ _)); exact BK148.out) hb); have n2_ := Aside0.mk (below_step zB hb); clear BK129; clear BK148; clear HB; have BK129 := n0_; have BK148 := n1_; have HB := n2_; clear n0_ n1_ n2_; (try clear hb); (try clear hb2); (try clear hk); (try clear hi))))
           (try simp only [Act.put, List.setIfInBounds_toArray, List.set_cons_zero, List.set_cons_succ])
           have H := HC58.out
           clear HC58
           by_cases c63 : x21_1 = true
           ·subst c63
            have H1 : (if t150 < 0 then (expr_span.l1 k1 (wrap64 (x19_1 + t149)) (-1) t151 l0_3 (l0_3.length : Int) (wrap64 (x125_1 + 1))) else (if x20_1 < 0 then (expr_span.l1 k1 (wrap64 (x19_1 + t149)) (-1) t151 l0_3 (l0_3.length : Int) (wrap64 (x125_1 + 1))) else (expr_span.l1 k1 (wrap64 (x19_1 + t149)) (wrap64 (x20_1 + t150)) t151 l0_3 (l0_3.length : Int) (wrap64 (x125_1 + 1))))) = some (r1, r2, r3) := by rw [if_pos rfl] at H; exact H
            clear H
            have H := H1
            clear H1
            by_cases c64 : t150 < 0
            ·rw [if_pos c64] at H
             have c64b0 : decide (t150 < 0) = true := decide_eq_true c64
             clear c64
             (first | rw [c64b0] | (simp only [i64_w, i32_w]; rw [c64b0]) | skip)
             have H' := Aside0.mk H
             clear H
             go_wp2
             repeat (go_quiet (fail); try go_wp2)
             go_roundg k1
             case measure => have := HK1.out; omega
             case rel => exact ⟨(wrap64 (x19_1 + t149)), ((-1)), (t151), (wrap64 (x125_1 + 1)), zT, zT, zT, zT, H', ⟨by have := HK1.out; omega⟩, ⟨by (with_reducible repeat (first | refine blk_drewN ?_ _ | refine blk_drew ?_ | refine blk_alloc ?_ _)); exact BK129.out⟩, ⟨by repeat (first | (with_reducible first | exact HB.out | apply below_alloc | apply pw_below_drewN | apply below_drew1 | refine below_set ?_ GE129.out | refine below_set ?_ GE148.out) | exact HB.out)⟩⟩
            ·rw [if_neg c64] at H
             have c64b0 : decide (t150 < 0) = false := decide_eq_false c64
             clear c64
             (first | rw [c64b0] | (simp only [i64_w, i32_w]; rw [c64b0]) | skip)
             by_cases c65 : x20_1 < 0
             ·rw [if_pos c65] at H
              have c65b0 : decide (x20_1 < 0) = true := decide_eq_true c65
              clear c65
              have H' := Aside0.mk H
              clear H
              go_wp2
              repeat (go_quiet (fail); try go_wp2)
              go_roundg k1
              case measure => have := HK1.out; omega
              case rel => exact ⟨(wrap64 (x19_1 + t149)), ((-1)), (t151), (wrap64 (x125_1 + 1)), zT, zT, zT, zT, H', ⟨by have := HK1.out; omega⟩, ⟨by (with_reducible repeat (first | refine blk_drewN ?_ _ | refine blk_drew ?_ | refine blk_alloc ?_ _)); exact BK129.out⟩, ⟨by repeat (first | (with_reducible first | exact HB.out | apply below_alloc | apply pw_below_drewN | apply below_drew1 | refine below_set ?_ GE129.out | refine below_set ?_ GE148.out) | exact HB.out)⟩⟩
             ·rw [if_neg c65] at H
              have c65b0 : decide (x20_1 < 0) = false := decide_eq_false c65
              clear c65
              have H' := Aside0.mk H
              clear H
              go_wp2
              repeat (go_quiet (fail); try go_wp2)
              go_roundg k1
              case measure => have := HK1.out; omega
              case rel => exact ⟨(wrap64 (x19_1 + t149)), (wrap64 (x20_1 + t150)), (t151), (wrap64 (x125_1 + 1)), zT, zT, zT, zT, H', ⟨by have := HK1.out; omega⟩, ⟨by (with_reducible repeat (first | refine blk_drewN ?_ _ | refine blk_drew ?_ | refine blk_alloc ?_ _)); exact BK129.out⟩, ⟨by repeat (first | (with_reducible first | exact HB.out | apply below_alloc | apply pw_below_drewN | apply below_drew1 | refine below_set ?_ GE129.out | refine below_set ?_ GE148.out) | exact HB.out)⟩⟩
           ·replace c63 := Bool.eq_false_iff.mpr c63
            subst c63
            have H1 : (if t150 < 0 then (expr_span.l1 k1 (wrap64 (x19_1 + t149)) (-1) false l0_3 (l0_3.length : Int) (wrap64 (x125_1 + 1))) else (if x20_1 < 0 then (expr_span.l1 k1 (wrap64 (x19_1 + t149)) (-1) false l0_3 (l0_3.length : Int) (wrap64 (x125_1 + 1))) else (expr_span.l1 k1 (wrap64 (x19_1 + t149)) (wrap64 (x20_1 + t150)) false l0_3 (l0_3.length : Int) (wrap64 (x125_1 + 1))))) = some (r1, r2, r3) := by rw [if_neg (show ¬ (false = true) by decide)] at H; exact H
            clear H
            have H := H1
            clear H1
            by_cases c66 : t150 < 0
            ·rw [if_pos c66] at H
             have c66b0 : decide (t150 < 0) = true := decide_eq_true c66
             clear c66
             have H' := Aside0.mk H
             clear H
             go_wp2
             repeat (go_quiet (fail); try go_wp2)
             go_roundg k1
             case measure => have := HK1.out; omega
             case rel => exact ⟨(wrap64 (x19_1 + t149)), ((-1)), (false), (wrap64 (x125_1 + 1)), zT, zT, zT, zT, H', ⟨by have := HK1.out; omega⟩, ⟨by (with_reducible repeat (first | refine blk_drewN ?_ _ | refine blk_drew ?_ | refine blk_alloc ?_ _)); exact BK129.out⟩, ⟨by repeat (first | (with_reducible first | exact HB.out | apply below_alloc | apply pw_below_drewN | apply below_drew1 | refine below_set ?_ GE129.out | refine below_set ?_ GE148.out) | exact HB.out)⟩⟩
            ·rw [if_neg c66] at H
             have c66b0 : decide (t150 < 0) = false := decide_eq_false c66
             clear c66
             by_cases c67 : x20_1 < 0
             ·rw [if_pos c67] at H
              have c67b0 : decide (x20_1 < 0) = true := decide_eq_true c67
              clear c67
              have H' := Aside0.mk H
              clear H
              go_wp2
              repeat (go_quiet (fail); try go_wp2)
              go_roundg k1
              case measure => have := HK1.out; omega
              case rel => exact ⟨(wrap64 (x19_1 + t149)), ((-1)), (false), (wrap64 (x125_1 + 1)), zT, zT, zT, zT, H', ⟨by have := HK1.out; omega⟩, ⟨by (with_reducible repeat (first | refine blk_drewN ?_ _ | refine blk_drew ?_ | refine blk_alloc ?_ _)); exact BK129.out⟩, ⟨by repeat (first | (with_reducible first | exact HB.out | apply below_alloc | apply pw_below_drewN | apply below_drew1 | refine below_set ?_ GE129.out | refine below_set ?_ GE148.out) | exact HB.out)⟩⟩
             ·rw [if_neg c67] at H
              have c67b0 : decide (x20_1 < 0) = false := decide_eq_false c67
              clear c67
              have H' := Aside0.mk H
              clear H
              go_wp2
              repeat (go_quiet (fail); try go_wp2)
              go_roundg k1
              case measure => have := HK1.out; omega
              case rel => exact ⟨(wrap64 (x19_1 + t149)), (wrap64 (x20_1 + t150)), (false), (wrap64 (x125_1 + 1)), zT, zT, zT, zT, H', ⟨by have := HK1.out; omega⟩, ⟨by (with_reducible repeat (first | refine blk_drewN ?_ _ | refine blk_drew ?_ | refine blk_alloc ?_ _)); exact BK129.out⟩, ⟨by repeat (first | (with_reducible first | exact HB.out | apply below_alloc | apply pw_below_drewN | apply below_drew1 | refine below_set ?_ GE129.out | refine below_set ?_ GE148.out) | exact HB.out)⟩⟩
          ·rw [if_neg c56] at H
           exact absurd H (by simp)
         ·rw [if_neg c55] at H
          exact absurd H (by simp)
        ·rw [if_neg c54] at H
         have c54b0 : decide (x125_1 < (l0_3.length : Int)) = false := decide_eq_false c54
         clear c54
         simp only [Option.some.injEq, Prod.mk.injEq] at H
         obtain ⟨rfl, rfl, rfl⟩ := H
         go_wp2
         repeat (go_quiet (fail); try go_wp2)
         go_ret3
         exact ⟨by first | rfl | (simp [errW_none, errW_some] <;> rfl) | (simp [*, errW_none, errW_some] <;> rfl), by repeat (first | (with_reducible first | exact HB.out | apply below_alloc | apply pw_below_drewN | apply below_drew1 | refine below_set ?_ GE129.out) | exact HB.out)⟩
/-! ### expr_Lengths: function 16 -/
def expr_Lengths.f (k : Nat) (a0_0 : Int) (a0_1 : Int) (a0_2 : Int) (l0_3 : List (S24)) : Option (Int × Int × Int) := (expr_Valid.f k a0_0 a0_1 a0_2 l0_3).bind fun t153 => (if t153 = 0 then ((expr_span.f k a0_0 a0_1 a0_2 l0_3).bind fun bt154 => (if bt154.2.2 = true then (some (bt154.1, bt154.2.1, 0)) else (some (0, 0, 10)))) else (some (0, 0, t153)))
theorem expr_Lengths.mono : ∀ a0 a1 a2 a3 k, LeO (expr_Lengths.f k a0 a1 a2 a3) (expr_Lengths.f (k + 1) a0 a1 a2 a3) := by
 intro a0 a1 a2 a3 k
 unfold expr_Lengths.f
 repeat' first
   | (with_reducible exact expr_Valid.mono _ _ _ _ _)
   | (with_reducible exact expr_span.mono _ _ _ _ _)
   | (with_reducible exact LeO.refl _)
   | (with_reducible exact LeO.none _)
   | (with_reducible refine LeO.ite ?_ ?_)
   | (with_reducible refine LeO.bind ?_ (fun _ => ?_))
   | exact expr_Valid.mono _ _ _ _ _
   | exact expr_span.mono _ _ _ _ _
   | exact LeO.none _
   | refine LeO.ite ?_ ?_
   | refine LeO.bind ?_ (fun _ => ?_)
set_option maxHeartbeats 8000000 in
set_option maxRecDepth 100000 in
theorem expr_Lengths.calls (k : Nat) (a0_0 : Int) (a0_1 : Int) (a0_2 : Int) (A0_3 : Option Addr) (c0_3 : Nat) (l0_3 : List (S24)) (r1 : Int) (r2 : Int) (r3 : Int) (w : World) (hr0_3 : Kd.C k24 w A0_3 l0_3.length l0_3) (hc0_3 : l0_3.length ≤ c0_3) (h : expr_Lengths.f k a0_0 a0_1 a0_2 l0_3 = some (r1, r2, r3)) :
  Calls Try.prog 16 #[.agg #[.int .i64 a0_0, .int .i64 a0_1, .int .i64 a0_2, .slice A0_3 l0_3.length c0_3]] w fun e w' => e = .returned (.tuple #[.int .i64 r1, .int .i64 r2, .int .i64 r3]) ∧ Below w.heap.size w w' := by
 have hu24 := Try.underlying24
 have HR0_3 := Aside0.mk hr0_3
 have HC0_3 := Aside0.mk hc0_3
 clear hr0_3 hc0_3
 have HB := Aside0.mk (Below.refl w.heap.size w)
 have H : ((expr_Valid.f k a0_0 a0_1 a0_2 l0_3).bind fun t153 => (if t153 = 0 then ((expr_span.f k a0_0 a0_1 a0_2 l0_3).bind fun bt154 => (if bt154.2.2 = true then (some (bt154.1, bt154.2.1, 0)) else (some (0, 0, 10)))) else (some (0, 0, t153)))) = some (r1, r2, r3) := h
 clear h
 replace H := Option.bind_eq_some_iff.mp H
 obtain ⟨t153, A20, H⟩ := H
 replace H : (if t153 = 0 then ((expr_span.f k a0_0 a0_1 a0_2 l0_3).bind fun bt154 => (if bt154.2.2 = true then (some (bt154.1, bt154.2.1, 0)) else (some (0, 0, 10)))) else (some (0, 0, t153))) = some (r1, r2, r3) := H
 have A2 := Aside0.mk A20
 clear A20
 have HC3 := Aside0.mk H
 clear H
 go_enter Try.func16, Try.ntmps16
 go_upto_if 12 with (first | ((with_reducible refine gate_dst (N := 1) rfl ?_); refine box_event ?hg (N := 1) ?hd (cs := #[.int .i64 a0_0, .int .i64 a0_1, .int .i64 a0_2, .slice A0_3 l0_3.length c0_3]) (t := 24) ?hr ?_; (case hd => rfl); (case hg => rfl); (case hr => first | (go_simp; done) | (go_simp; rfl)); intro gb152 hg w4 hbox hb; have n0_ := Aside0.mk (below_step zB hb); have n1_ := Aside0.mk (hbox); have n2_ := Aside0.mk ((by rw [hg]; exact (below_size zB) : w.heap.size ≤ gb152)); have n3_ := Aside0.mk ((by rw [hg]; exact (below_size zB) : w.heap.size ≤ gb152)); clear HB; have HB := n0_; have BK152 := n1_; have GW152 := n2_; have GE152 := n3_; clear n0_ n1_ n2_ n3_; clear hb hbox hg; have hcz5_0 : w4.cell? ⟨gb152, 0, none⟩ = some (.int .i64 a0_0) := (blk_cell BK152.out 0).trans rfl; have hcz5_1 : w4.cell? ⟨gb152, 1, none⟩ = some (.int .i64 a0_1) := (blk_cell BK152.out 1).trans rfl; have hcz5_2 : w4.cell? ⟨gb152, 2, none⟩ = some (.int .i64 a0_2) := (blk_cell BK152.out 2).trans rfl; have hcz5_3 : w4.cell? ⟨gb152, 3, none⟩ = some (.slice A0_3 l0_3.length c0_3) := (blk_cell BK152.out 3).trans rfl; have hfz5_0 := blk_frozen BK152.out 0; have hfz5_1 := blk_frozen BK152.out 1; have hfz5_2 := blk_frozen BK152.out 2; have hfz5_3 := blk_frozen BK152.out 3) | ((with_reducible refine gate_callee (f := 11) rfl ?_); refine goesL_ (some 10) rfl rfl Try.func11 zK rfl #[.agg #[.int .i64 a0_0, .int .i64 a0_1, .int .i64 a0_2, .slice A0_3 l0_3.length c0_3]] rfl zM ?_; (with_reducible refine (expr_Valid.calls k a0_0 a0_1 a0_2 _ _ l0_3 t153 _ ?side1 ?side2 A2.out).mono ?_); (case side1 => repeat (first | exact (Kd.C_below HR0_3.out HB.out) | (with_reducible refine Kd.C_alloc ?_ _) | (with_reducible refine Kd.C_drewN ?_ _) | (with_reducible refine Kd.C_drew ?_))); (case side2 => exact HC0_3.out); rintro e w6 ⟨rfl, hb⟩; refine ⟨_, rfl, ?_⟩; have n0_ := Aside0.mk (blk_below (g := gb152) (o := .cells #[.int .i64 a0_0, .int .i64 a0_1, .int .i64 a0_2, .slice A0_3 l0_3.length c0_3] 24 (0, 0)) (zk BK152) hb); have n1_ := Aside0.mk (below_step zB hb); clear BK152; clear HB; have BK152 := n0_; have HB := n1_; clear n0_ n1_; (try clear hb); (try clear hb2); (try clear hk); (try clear hi)))
 (try simp only [Act.put, List.setIfInBounds_toArray, List.set_cons_zero, List.set_cons_succ])
 have H := HC3.out
 clear HC3
 by_cases c7 : t153 = 0
 ·rw [if_pos c7] at H
  have c7b0 : (t153 == 0) = true := beq_iff_eq.mpr c7
  have c7b1 : (t153 != 0) = false := bne_eq_false_iff_eq.mpr c7
  clear c7
  (first | rw [c7b0] | (simp only [i64_w, i32_w]; rw [c7b0]) | skip)
  (try rw [c7b1])
  replace H := Option.bind_eq_some_iff.mp H
  obtain ⟨⟨t154, t155, t156⟩, A80, H⟩ := H
  replace H : (if t156 = true then (some (t154, t155, 0)) else (some (0, 0, 10))) = some (r1, r2, r3) := H
  have A8 := Aside0.mk A80
  clear A80
  have HC9 := Aside0.mk H
  clear H
  have hcz10_0 : w6.cell? ⟨gb152, 0, none⟩ = some (.int .i64 a0_0) := (blk_cell BK152.out 0).trans rfl
  have hcz10_1 : w6.cell? ⟨gb152, 1, none⟩ = some (.int .i64 a0_1) := (blk_cell BK152.out 1).trans rfl
  have hcz10_2 : w6.cell? ⟨gb152, 2, none⟩ = some (.int .i64 a0_2) := (blk_cell BK152.out 2).trans rfl
  have hcz10_3 : w6.cell? ⟨gb152, 3, none⟩ = some (.slice A0_3 l0_3.length c0_3) := (blk_cell BK152.out 3).trans rfl
  have hfz10_0 := blk_frozen BK152.out 0
  have hfz10_1 := blk_frozen BK152.out 1
  have hfz10_2 := blk_frozen BK152.out 2
  have hfz10_3 := blk_frozen BK152.out 3
  go_upto_if 21 with (first | ((with_reducible refine gate_callee (f := 40) rfl ?_); refine goesL_ (some 16) rfl rfl Try.func40 zK rfl #[.agg #[.int .i64 a0_0, .int .i64 a0_1, .int .i64 a0_2, .slice A0_3 l0_3.length c0_3]] rfl zM ?_; (with_reducible refine (expr_span.calls k a0_0 a0_1 a0_2 _ _ l0_3 t154 t155 t156 _ ?side1 ?side2 A8.out).mono ?_); (case side1 => repeat (first | exact (Kd.C_below HR0_3.out HB.out) | (with_reducible refine Kd.C_alloc ?_ _) | (with_reducible refine Kd.C_drewN ?_ _) | (with_reducible refine Kd.C_drew ?_))); (case side2 => exact HC0_3.out); rintro e w11 ⟨rfl, hb⟩; refine ⟨_, rfl, ?_⟩; have n0_ := Aside0.mk (blk_below (g := gb152) (o := .cells #[.int .i64 a0_0, .int .i64 a0_1, .int .i64 a0_2, .slice A0_3 l0_3.length c0_3] 24 (0, 0)) (zk BK152) hb); have n1_ := Aside0.mk (below_step zB hb); clear BK152; clear HB; have BK152 := n0_; have HB := n1_; clear n0_ n1_; (try clear hb); (try clear hb2); (try clear hk); (try clear hi)))
  (try simp only [Act.put, List.setIfInBounds_toArray, List.set_cons_zero, List.set_cons_succ])
  have H := HC9.out
  clear HC9
  by_cases c12 : t156 = true
  ·subst c12
   have H1 : (some (t154, t155, 0)) = some (r1, r2, r3) := by rw [if_pos rfl] at H; exact H
   clear H
   have H := H1
   clear H1
   simp only [Option.some.injEq, Prod.mk.injEq] at H
   obtain ⟨rfl, rfl, rfl⟩ := H
   go_wp2
   go_ret3
   exact ⟨by first | rfl | (simp [errW_none, errW_some] <;> rfl) | (simp [*, errW_none, errW_some] <;> rfl), by repeat (first | (with_reducible first | exact HB.out | apply below_alloc | apply pw_below_drewN | apply below_drew1 | refine below_set ?_ GE152.out) | exact HB.out)⟩
  ·replace c12 := Bool.eq_false_iff.mpr c12
   subst c12
   have H1 : (some (0, 0, 10)) = some (r1, r2, r3) := by rw [if_neg (show ¬ (false = true) by decide)] at H; exact H
   clear H
   have H := H1
   clear H1
   simp only [Option.some.injEq, Prod.mk.injEq] at H
   obtain ⟨rfl, rfl, rfl⟩ := H
   go_wp2
   go_ret3
   exact ⟨by first | rfl | (simp [errW_none, errW_some] <;> rfl) | (simp [*, errW_none, errW_some] <;> rfl), by repeat (first | (with_reducible first | exact HB.out | apply below_alloc | apply pw_below_drewN | apply below_drew1 | refine below_set ?_ GE152.out) | exact HB.out)⟩
 ·rw [if_neg c7] at H
  have c7b0 : (t153 == 0) = false := beq_eq_false_iff_ne.mpr c7
  have c7b1 : (t153 != 0) = true := bne_iff_ne.mpr c7
  (first | rw [c7b0] | (simp only [i64_w, i32_w]; rw [c7b0]) | skip)
  (try rw [c7b1])
  simp only [Option.some.injEq, Prod.mk.injEq] at H
  obtain ⟨rfl, rfl, rfl⟩ := H
  go_wp2
  go_ret3
  exact ⟨by first | rfl | (simp [errW_none, errW_some] <;> rfl) | (simp [*, errW_none, errW_some] <;> rfl), by repeat (first | (with_reducible first | exact HB.out | apply below_alloc | apply pw_below_drewN | apply below_drew1 | refine below_set ?_ GE152.out) | exact HB.out)⟩
/-! ### ancepsref08_levels: function 35 -/
mutual
def ancepsref08_levels.l0 : Nat → Int → Int → Int → Int → Int → List (S24) → Option (Int)
 | 0, _, _, _, _, _, _ => none
 | k + 1, x3, x4, x158000, x158001, x158002, x158003 => if x4 < (x158003.length : Int) then (if 0 ≤ x4 then ((ancepsref08_levels.f k ((rd_T24 x158003 x4).f0) ((rd_T24 x158003 x4).f1) ((rd_T24 x158003 x4).f2) ((rd_T24 x158003 x4).f3)).bind fun t159 => (if t159 > x3 then (ancepsref08_levels.l0 k t159 (wrap64 (x4 + 1)) x158000 x158001 x158002 x158003) else (ancepsref08_levels.l0 k x3 (wrap64 (x4 + 1)) x158000 x158001 x158002 x158003))) else (none)) else (some (wrap64 (x3 + 1)))
def ancepsref08_levels.f : Nat → Int → Int → Int → List (S24) → Option (Int)
 | 0, _, _, _, _ => none
 | k + 1, a0_0, a0_1, a0_2, l0_3 => ancepsref08_levels.l0 k 0 0 a0_0 a0_1 a0_2 l0_3
end
theorem ancepsref08_levels.mono_l : ∀ k, (∀ y0 y1 y2 y3, LeO (ancepsref08_levels.f k y0 y1 y2 y3) (ancepsref08_levels.f (k + 1) y0 y1 y2 y3)) ∧ (∀ y0 y1 y2 y3 y4 y5, LeO (ancepsref08_levels.l0 k y0 y1 y2 y3 y4 y5) (ancepsref08_levels.l0 (k + 1) y0 y1 y2 y3 y4 y5))
 | 0 => ⟨fun _ _ _ _ r h => by simp [ancepsref08_levels.f] at h, fun _ _ _ _ _ _ r h => by simp [ancepsref08_levels.l0] at h⟩
 | k + 1 => by
  obtain ⟨ih0, ih1⟩ := ancepsref08_levels.mono_l k
  refine ⟨?_, ?_⟩
  ·intro y0 y1 y2 y3
   unfold ancepsref08_levels.f
   repeat' first
   | (with_reducible exact ih0 _ _ _ _)
   | (with_reducible exact ih1 _ _ _ _ _ _)
   | (with_reducible exact LeO.refl _)
   | (with_reducible exact LeO.none _)
   | (with_reducible refine LeO.ite ?_ ?_)
   | (with_reducible refine LeO.bind ?_ (fun _ => ?_))
   | exact ih0 _ _ _ _
   | exact ih1 _ _ _ _ _ _
   | exact LeO.none _
   | refine LeO.ite ?_ ?_
   | refine LeO.bind ?_ (fun _ => ?_)
  ·intro y0 y1 y2 y3 y4 y5
   unfold ancepsref08_levels.l0
   repeat' first
   | (with_reducible exact ih0 _ _ _ _)
   | (with_reducible exact ih1 _ _ _ _ _ _)
   | (with_reducible exact LeO.refl _)
   | (with_reducible exact LeO.none _)
   | (with_reducible refine LeO.ite ?_ ?_)
   | (with_reducible refine LeO.bind ?_ (fun _ => ?_))
   | exact ih0 _ _ _ _
   | exact ih1 _ _ _ _ _ _
   | exact LeO.none _
   | refine LeO.ite ?_ ?_
   | refine LeO.bind ?_ (fun _ => ?_)
theorem ancepsref08_levels.mono : ∀ a0 a1 a2 a3 k, LeO (ancepsref08_levels.f k a0 a1 a2 a3) (ancepsref08_levels.f (k + 1) a0 a1 a2 a3) := by
 intro a0 a1 a2 a3 k
 obtain ⟨ih0, ih1⟩ := ancepsref08_levels.mono_l k
 exact ih0 a0 a1 a2 a3
set_option maxHeartbeats 8000000 in
set_option maxRecDepth 100000 in
theorem ancepsref08_levels.calls (k : Nat) : ∀ (a0_0 : Int) (a0_1 : Int) (a0_2 : Int) (A0_3 : Option Addr) (c0_3 : Nat) (l0_3 : List (S24)) (r : Int) (w : World) (hr0_3 : Kd.C k24 w A0_3 l0_3.length l0_3) (hc0_3 : l0_3.length ≤ c0_3) (h : ancepsref08_levels.f k a0_0 a0_1 a0_2 l0_3 = some r),
  Calls Try.prog 35 #[.agg #[.int .i64 a0_0, .int .i64 a0_1, .int .i64 a0_2, .slice A0_3 l0_3.length c0_3]] w fun e w' => e = .returned (.int .i64 r) ∧ Below w.heap.size w w' := by
 induction k using Nat.strongRecOn with
 | _ k ih =>
 intro a0_0 a0_1 a0_2 A0_3 c0_3 l0_3 r w hr0_3 hc0_3 h
 cases k with
 | zero => exact absurd h (by simp [ancepsref08_levels.f])
 | succ k =>
 simp only [ancepsref08_levels.f] at h
 have hu24 := Try.underlying24
 have hu22 := Try.underlying22
 have HR0_3 := Aside0.mk hr0_3
 have HC0_3 := Aside0.mk hc0_3
 clear hr0_3 hc0_3
 have HB := Aside0.mk (Below.refl w.heap.size w)
 have H : (ancepsref08_levels.l0 k 0 0 a0_0 a0_1 a0_2 l0_3) = some r := h
 clear h
 have H' := Aside0.mk H
 clear H
 go_enter Try.func35, Try.ntmps35
 go_wp2_with (first | ((with_reducible refine gate_dst (N := 1) rfl ?_); refine box_event ?hg (N := 1) ?hd (cs := #[.int .i64 a0_0, .int .i64 a0_1, .int .i64 a0_2, .slice A0_3 l0_3.length c0_3]) (t := 24) ?hr ?_; (case hd => rfl); (case hg => rfl); (case hr => first | (go_simp; done) | (go_simp; rfl)); intro gb157 hg w2 hbox hb; have n0_ := Aside0.mk (below_step zB hb); have n1_ := Aside0.mk (hbox); have n2_ := Aside0.mk ((by rw [hg]; exact (below_size zB) : w.heap.size ≤ gb157)); have n3_ := Aside0.mk ((by rw [hg]; exact (below_size zB) : w.heap.size ≤ gb157)); clear HB; have HB := n0_; have BK157 := n1_; have GW157 := n2_; have GE157 := n3_; clear n0_ n1_ n2_ n3_; clear hb hbox hg))
 go_loopg [3, 4] k (fun kq v3 v4 w' => ∃ (x3_1 : Int) (x4_1 : Int), v3 = .int .i64 x3_1 ∧ v4 = .int .i64 x4_1 ∧ Aside0 (ancepsref08_levels.l0 kq x3_1 x4_1 a0_0 a0_1 a0_2 l0_3 = some r) ∧ Aside0 (kq ≤ k) ∧ Aside0 (w'.heap[gb157]? = some (.cells #[.int .i64 a0_0, .int .i64 a0_1, .int .i64 a0_2, (.slice A0_3 l0_3.length c0_3)] 24 (0, 0))) ∧ Aside0 (Below w.heap.size w w'))
 case atStart => exact ⟨(0), (0), zT, zT, H', ⟨Nat.le_refl _⟩, ⟨by (with_reducible repeat (first | refine blk_drewN ?_ _ | refine blk_drew ?_ | refine blk_alloc ?_ _)); exact BK157.out⟩, ⟨by repeat (first | (with_reducible first | exact HB.out | apply below_alloc | apply pw_below_drewN | apply below_drew1 | refine below_set ?_ GE157.out) | exact HB.out)⟩⟩
 case round =>
  clear H'
  obtain ⟨x3_1, x4_1, rfl, rfl, HA, HK1, BK157, HB⟩ := hrel
  cases gk with
  | zero => exact absurd HA.out (by simp [ancepsref08_levels.l0])
  | succ k1 =>
   have H := HA.out
   clear HA
   simp only [ancepsref08_levels.l0] at H
   by_cases c3 : x4_1 < (l0_3.length : Int)
   ·rw [if_pos c3] at H
    have c3b0 : decide (x4_1 < (l0_3.length : Int)) = true := decide_eq_true c3
    clear c3
    by_cases c4 : 0 ≤ x4_1
    ·rw [if_pos c4] at H
     have c4b0 : decide (0 ≤ x4_1) = true := decide_eq_true c4
     clear c4
     replace H := Option.bind_eq_some_iff.mp H
     obtain ⟨t159, A50, H⟩ := H
     replace H : (if t159 > x3_1 then (ancepsref08_levels.l0 k1 t159 (wrap64 (x4_1 + 1)) a0_0 a0_1 a0_2 l0_3) else (ancepsref08_levels.l0 k1 x3_1 (wrap64 (x4_1 + 1)) a0_0 a0_1 a0_2 l0_3)) = some r := H
     have A5 := Aside0.mk A50
     clear A50
     have HC6 := Aside0.mk H
     clear H
     have hcz7_0 : wr.cell? ⟨gb157, 0, none⟩ = some (.int .i64 a0_0) := (blk_cell BK157.out 0).trans rfl
     have hcz7_1 : wr.cell? ⟨gb157, 1, none⟩ = some (.int .i64 a0_1) := (blk_cell BK157.out 1).trans rfl
     have hcz7_2 : wr.cell? ⟨gb157, 2, none⟩ = some (.int .i64 a0_2) := (blk_cell BK157.out 2).trans rfl
     have hcz7_3 : wr.cell? ⟨gb157, 3, none⟩ = some (.slice A0_3 l0_3.length c0_3) := (blk_cell BK157.out 3).trans rfl
     have hfz7_0 := blk_frozen BK157.out 0
     have hfz7_1 := blk_frozen BK157.out 1
     have hfz7_2 := blk_frozen BK157.out 2
     have hfz7_3 := blk_frozen BK157.out 3
     have p158 : 0 ≤ (x4_1 : Int) := of_decide_eq_true zh
     have q158 : x4_1 < (l0_3.length : Int) := of_decide_eq_true zh
     obtain ⟨ad158, A158_3, c158_3, e158, hx158_0, hx158_1, hx158_2, hx158_3, hl158_3, hi158_3⟩ := at_T24 HR0_3.out x4_1 p158 q158
     cases e158
     replace hx158_0 := (HB.out.cell (World.block_lt_of_cell? w _ hx158_0)).trans hx158_0
     replace hx158_1 := (HB.out.cell (World.block_lt_of_cell? w _ hx158_1)).trans hx158_1
     replace hx158_2 := (HB.out.cell (World.block_lt_of_cell? w _ hx158_2)).trans hx158_2
     replace hx158_3 := (HB.out.cell (World.block_lt_of_cell? w _ hx158_3)).trans hx158_3
     have HR158_3 := Aside0.mk hi158_3
     have HC158_3 := Aside0.mk hl158_3
     clear hi158_3 hl158_3
     replace p158 := eq_true p158
     replace q158 := eq_true q158
     go_upto_if 21 with (first | ((with_reducible refine gate_callee (f := 35) rfl ?_); refine goesL_ (some 18) rfl rfl Try.func35 zK rfl #[.agg #[.int .i64 ((rd_T24 l0_3 x4_1).f0), .int .i64 ((rd_T24 l0_3 x4_1).f1), .int .i64 ((rd_T24 l0_3 x4_1).f2), .slice A158_3 ((rd_T24 l0_3 x4_1).f3).length c158_3]] rfl zM ?_; (with_reducible refine (ih k1 (by have := HK1.out; omega) ((rd_T24 l0_3 x4_1).f0) ((rd_T24 l0_3 x4_1).f1) ((rd_T24 l0_3 x4_1).f2) _ _ ((rd_T24 l0_3 x4_1).f3) t159 _ ?side1 ?side2 A5.out).mono ?_); (case side1 => repeat (first | exact (Kd.C_below HR158_3.out HB.out) | (with_reducible refine Kd.C_alloc ?_ _) | (with_reducible refine Kd.C_drewN ?_ _) | (with_reducible refine Kd.C_drew ?_))); (case side2 => exact HC158_3.out); rintro e w8 ⟨rfl, hb⟩; refine ⟨_, rfl, ?_⟩; have n0_ := Aside0.mk (blk_below (g := gb157) (o := .cells #[.int .i64 a0_0, .int .i64 a0_1, .int .i64 a0_2, .slice (some ad158) l0_3.length c0_3] 24 (0, 0)) (zk BK157) hb); have n1_ := Aside0.mk (below_step zB hb); clear BK157; clear HB; have BK157 := n0_; have HB := n1_; clear n0_ n1_; (try clear hb); (try clear hb2); (try clear hk); (try clear hi)))
     (try simp only [Act.put, List.setIfInBounds_toArray, List.set_cons_zero, List.set_cons_succ])
     have H := HC6.out
     clear HC6
     by_cases c9 : t159 > x3_1
     ·rw [if_pos c9] at H
      have c9b0 : decide (x3_1 < t159) = true := decide_eq_true c9
      clear c9
      (first | rw [c9b0] | (simp only [i64_w, i32_w]; rw [c9b0]) | skip)
      have H' := Aside0.mk H
      clear H
      go_wp2
      go_roundg k1
      case measure => have := HK1.out; omega
      case rel => exact ⟨(t159), (wrap64 (x4_1 + 1)), zT, zT, H', ⟨by have := HK1.out; omega⟩, ⟨by (with_reducible repeat (first | refine blk_drewN ?_ _ | refine blk_drew ?_ | refine blk_alloc ?_ _)); exact BK157.out⟩, ⟨by repeat (first | (with_reducible first | exact HB.out | apply below_alloc | apply pw_below_drewN | apply below_drew1 | refine below_set ?_ GE157.out) | exact HB.out)⟩⟩
     ·rw [if_neg c9] at H
      have c9b0 : decide (x3_1 < t159) = false := decide_eq_false c9
      clear c9
      (first | rw [c9b0] | (simp only [i64_w, i32_w]; rw [c9b0]) | skip)
      have H' := Aside0.mk H
      clear H
      go_wp2
      go_roundg k1
      case measure => have := HK1.out; omega
      case rel => exact ⟨(x3_1), (wrap64 (x4_1 + 1)), zT, zT, H', ⟨by have := HK1.out; omega⟩, ⟨by (with_reducible repeat (first | refine blk_drewN ?_ _ | refine blk_drew ?_ | refine blk_alloc ?_ _)); exact BK157.out⟩, ⟨by repeat (first | (with_reducible first | exact HB.out | apply below_alloc | apply pw_below_drewN | apply below_drew1 | refine below_set ?_ GE157.out) | exact HB.out)⟩⟩
    ·rw [if_neg c4] at H
     exact absurd H (by simp)
   ·rw [if_neg c3] at H
    have c3b0 : decide (x4_1 < (l0_3.length : Int)) = false := decide_eq_false c3
    clear c3
    obtain rfl := Option.some.inj H
    have hcz10_0 : wr.cell? ⟨gb157, 0, none⟩ = some (.int .i64 a0_0) := (blk_cell BK157.out 0).trans rfl
    have hcz10_1 : wr.cell? ⟨gb157, 1, none⟩ = some (.int .i64 a0_1) := (blk_cell BK157.out 1).trans rfl
    have hcz10_2 : wr.cell? ⟨gb157, 2, none⟩ = some (.int .i64 a0_2) := (blk_cell BK157.out 2).trans rfl
    have hcz10_3 : wr.cell? ⟨gb157, 3, none⟩ = some (.slice A0_3 l0_3.length c0_3) := (blk_cell BK157.out 3).trans rfl
    have hfz10_0 := blk_frozen BK157.out 0
    have hfz10_1 := blk_frozen BK157.out 1
    have hfz10_2 := blk_frozen BK157.out 2
    have hfz10_3 := blk_frozen BK157.out 3
    go_wp2
    go_ret
    exact ⟨by first | rfl | (simp [errW_none, errW_some] <;> rfl) | (simp [*, errW_none, errW_some] <;> rfl), by repeat (first | (with_reducible first | exact HB.out | apply below_alloc | apply pw_below_drewN | apply below_drew1 | refine below_set ?_ GE157.out) | exact HB.out)⟩
end Go.Proofs.Ytpojokndmkhpkaa.M
