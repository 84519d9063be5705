-- Written by wip/tools/myprint.py, a program of this session's.
import Derived.Test.YtbagnalcabdlhaaS0
import Derived.Test.YtbagnalcabdlhaaS2
import Derived.Test.YtbagnalcabdlhaaS4
import Derived.Test.YtbagnalcabdlhaaS6
namespace Go.Proofs.Ytbagnalcabdlhaa.S
open Go.RowKit Go.Proofs.YtbagnalcabdlhaaW.PrintWords Go.Proofs.YtbagnalcabdlhaaW.PrintLast Go.Proofs.YtbagnalcabdlhaaW.PrintMore
attribute [local go_sem] max2_int min2_int max_two min_two max_three min_three max_four min_four   -- for this text's walks alone
set_option linter.unusedVariables false
set_option linter.unusedSimpArgs false
/-! ### solve_All: function 25 -/
/-- What All says of all solutions. -/
def solve_All.of (s : List Int) : List Int × Int := if s.length ≤ 1000 then (s, 0) else ([], 3)
def solve_All.f (k : Nat) (l0 : List (S61)) : Option (List Int × Int) := (solve_valid.f k l0).bind fun t274 => (if t274 = 0 then ((solve_occurring.f k l0).bind fun t276 => ((solve_search.f k l0 t276 0 0).bind fun s => some (solve_All.of s))) else (some (([] : List Int), t274)))
theorem solve_All.mono : ∀ a0 k, LeO (solve_All.f k a0) (solve_All.f (k + 1) a0) := by
 intro a0 k
 unfold solve_All.f
 repeat' first
   | (with_reducible exact solve_occurring.mono _ _)
   | (with_reducible exact solve_valid.mono _ _)
   | (with_reducible exact LeO.refl _)
   | (with_reducible exact LeO.none _)
   | (with_reducible refine LeO.ite ?_ ?_)
   | (with_reducible refine LeO.bind ?_ (fun _ => ?_))
   | exact solve_occurring.mono _ _
   | exact solve_valid.mono _ _
   | exact solve_search.mono _ _ _ _ _
   | exact LeO.none _
   | refine LeO.ite ?_ ?_
   | refine LeO.bind ?_ (fun _ => ?_)
section
attribute [local go_sem] Oper.semAt_some
set_option maxHeartbeats 8000000 in
set_option maxRecDepth 100000 in
theorem solve_All.calls (k : Nat) (A0 : Option Addr) (c0 : Nat) (l0 : List (S61)) (r1 : List Int) (r2 : Int) (w : World) (hr0 : Kd.C k61 w A0 l0.length l0) (hc0 : l0.length ≤ c0) (h : solve_All.f k l0 = some (r1, r2)) :
  Calls Try.prog 25 #[.slice A0 l0.length c0] w fun e w' => ∃ v0_ : Value, e = .returned (.tuple #[v0_, .int .i64 r2]) ∧ Kd.R (Kd.int .i64) 3 w' w.heap.size (fun _ => True) v0_ r1 ∧ Below w.heap.size w w' := by
 have hu42 := Try.underlying42
 have hu28 := Try.underlying28
 have hu68 := Try.underlying68
 have HR0 := Aside0.mk hr0
 have HC0 := Aside0.mk hc0
 clear hr0 hc0
 have HB := Aside0.mk (Below.refl w.heap.size w)
 have H : ((solve_valid.f k l0).bind fun t274 => (if t274 = 0 then ((solve_occurring.f k l0).bind fun t276 => ((solve_search.f k l0 t276 0 0).bind fun s => some (solve_All.of s))) else (some (([] : List Int), t274)))) = some (r1, r2) := h
 clear h
 replace H := Option.bind_eq_some_iff.mp H
 obtain ⟨t274, A20, H⟩ := H
 replace H : (if t274 = 0 then ((solve_occurring.f k l0).bind fun t276 => ((solve_search.f k l0 t276 0 0).bind fun s => some (solve_All.of s))) else (some (([] : List Int), t274))) = some (r1, r2) := H
 have A2 := Aside0.mk A20
 clear A20
 have HC3 := Aside0.mk H
 clear H
 refine (callsIn_wide (n := 5)).1 ?_
 refine callsIn_of_wp_marks Try.func25 rfl trivial ?_ rfl
 simp only [Try.ntmps25, List.size_toArray, List.length_cons, List.length_nil, Nat.reduceAdd, Nat.reduceSub, Array.replicate_succ, Array.replicate_zero, List.push_toArray, List.append_toArray, List.nil_append, List.cons_append]
 refine wpIn_wide.2 ?_
 go_upto_if 10 with (first | ((with_reducible refine gate_dst (N := 2) rfl ?_); refine box_event ?hg (N := 2) ?hd (cs := #[.slice none 0 0]) (t := 42) ?hr ?_; (case hd => rfl); (case hg => rfl); (case hr => first | (go_simp; done) | (go_simp; rfl)); intro gb272 hg w4 hbox hb; have n0_ := Aside0.mk (below_step zB hb); have n1_ := Aside0.mk (hbox); have n2_ := Aside0.mk ((by rw [hg]; exact (below_size zB) : w.heap.size ≤ gb272)); have n3_ := Aside0.mk ((by rw [hg]; exact (below_size zB) : w.heap.size ≤ gb272)); clear HB; have HB := n0_; have BK272 := n1_; have GW272 := n2_; have GE272 := n3_; clear n0_ n1_ n2_ n3_; clear hb hbox hg) | ((with_reducible refine gate_dst (N := 3) rfl ?_); refine box_event ?hg (N := 3) ?hd (cs := #[.int .i64 0]) (t := 28) ?hr ?_; (case hd => rfl); (case hg => rfl); (case hr => first | (go_simp; done) | (go_simp; rfl)); intro gb273 hg w5 hbox hb; have n0_ := Aside0.mk (blk_below (g := gb272) (o := .cells #[.slice none 0 0] 42 (0, 0)) (zk BK272) hb); have n1_ := Aside0.mk (below_step zB hb); have n2_ := Aside0.mk (hbox); have n3_ := Aside0.mk ((by rw [hg]; exact (below_size zB) : w.heap.size ≤ gb273)); have n4_ := Aside0.mk ((by rw [hg]; exact (below_size zB) : w.heap.size ≤ gb273)); have n5_ := Aside0.mk ((by rw [hg]; exact Nat.ne_of_lt (blk_lt (g := gb272) (o := .cells #[.slice none 0 0] 42 (0, 0)) (zk BK272)) : gb272 ≠ gb273)); have n6_ := Aside0.mk ((by rw [hg]; exact Nat.ne_of_gt (blk_lt (g := gb272) (o := .cells #[.slice none 0 0] 42 (0, 0)) (zk BK272)) : gb273 ≠ gb272)); clear BK272; clear HB; have BK272 := n0_; have HB := n1_; have BK273 := n2_; have GW273 := n3_; have GE273 := n4_; have NB272_273 := n5_; have NB273_272 := n6_; clear n0_ n1_ n2_ n3_ n4_ n5_ n6_; clear hb hbox hg) | ((with_reducible refine gate_callee (f := 46) rfl ?_); refine goesL_ (some 8) rfl rfl Try.func46 zK rfl #[.slice A0 l0.length c0] rfl zM ?_; (with_reducible refine (solve_valid.calls k _ _ l0 t274 _ ?side1 ?side2 A2.out).mono ?_); (case side1 => repeat (first | exact (Kd.C_below HR0.out HB.out) | (with_reducible refine Kd.C_alloc ?_ _) | (with_reducible refine Kd.C_drewN ?_ _) | (with_reducible refine Kd.C_drew ?_))); (case side2 => exact HC0.out); rintro e w6 ⟨rfl, hb⟩; refine ⟨_, rfl, ?_⟩; have n0_ := Aside0.mk (blk_below (g := gb272) (o := .cells #[.slice none 0 0] 42 (0, 0)) (zk BK272) hb); have n1_ := Aside0.mk (blk_below (g := gb273) (o := .cells #[.int .i64 0] 28 (0, 0)) (zk BK273) hb); have n2_ := Aside0.mk (below_step zB hb); clear BK272; clear BK273; clear HB; have BK272 := n0_; have BK273 := n1_; have HB := n2_; clear n0_ n1_ n2_; (try clear hb); (try clear hb2); (try clear hk); (try clear hi)))
 (try simp only [Act.put, List.setIfInBounds_toArray, List.set_cons_zero, List.set_cons_succ])
 have H := HC3.out
 clear HC3
 by_cases c7 : t274 = 0
 ·rw [if_pos c7] at H
  have c7b0 : (t274 == 0) = true := beq_iff_eq.mpr c7
  have c7b1 : (t274 != 0) = false := bne_eq_false_iff_eq.mpr c7
  clear c7
  (first | rw [c7b0] | (simp only [i64_w, i32_w]; rw [c7b0]) | skip)
  (try rw [c7b1])
  replace H := Option.bind_eq_some_iff.mp H
  obtain ⟨t276, A80, H⟩ := H
  replace H : ((solve_search.f k l0 t276 0 0).bind fun s => some (solve_All.of s)) = some (r1, r2) := H
  have A8 := Aside0.mk A80
  clear A80
  replace H := Option.bind_eq_some_iff.mp H
  obtain ⟨s_, AS0, H⟩ := H
  have AS := Aside0.mk AS0
  clear AS0
  have HFS := Aside0.mk (Option.some.inj H)
  clear H
  go_wp2_with (first | ((with_reducible refine gate_dst (N := 5) rfl ?_); refine box_event ?hg (N := 5) ?hd (cs := #[.slice none 0 0]) (t := 42) ?hr ?_; (case hd => rfl); (case hg => rfl); (case hr => first | (go_simp; done) | (go_simp; rfl)); intro gb275 hg w10 hbox hb; have n0_ := Aside0.mk (blk_below (g := gb272) (o := .cells #[.slice none 0 0] 42 (0, 0)) (zk BK272) hb); have n1_ := Aside0.mk (blk_below (g := gb273) (o := .cells #[.int .i64 0] 28 (0, 0)) (zk BK273) hb); have n2_ := Aside0.mk (below_step zB hb); have n3_ := Aside0.mk (hbox); have n4_ := Aside0.mk ((by rw [hg]; exact (below_size zB) : w.heap.size ≤ gb275)); have n5_ := Aside0.mk ((by rw [hg]; exact (below_size zB) : w.heap.size ≤ gb275)); have n6_ := Aside0.mk ((by rw [hg]; exact Nat.ne_of_lt (blk_lt (g := gb272) (o := .cells #[.slice none 0 0] 42 (0, 0)) (zk BK272)) : gb272 ≠ gb275)); have n7_ := Aside0.mk ((by rw [hg]; exact Nat.ne_of_gt (blk_lt (g := gb272) (o := .cells #[.slice none 0 0] 42 (0, 0)) (zk BK272)) : gb275 ≠ gb272)); have n8_ := Aside0.mk ((by rw [hg]; exact Nat.ne_of_lt (blk_lt (g := gb273) (o := .cells #[.int .i64 0] 28 (0, 0)) (zk BK273)) : gb273 ≠ gb275)); have n9_ := Aside0.mk ((by rw [hg]; exact Nat.ne_of_gt (blk_lt (g := gb273) (o := .cells #[.int .i64 0] 28 (0, 0)) (zk BK273)) : gb275 ≠ gb273)); clear BK272; clear BK273; clear HB; have BK272 := n0_; have BK273 := n1_; have HB := n2_; have LT275 := Aside0.mk (blk_lt n3_.out); have BK275 := n3_; have GW275 := n4_; have GE275 := n5_; have NB272_275 := n6_; have NB275_272 := n7_; have NB273_275 := n8_; have NB275_273 := n9_; clear n0_ n1_ n2_ n3_ n4_ n5_ n6_ n7_ n8_ n9_; clear hb hbox hg) | ((with_reducible refine gate_callee (f := 47) rfl ?_); refine goesL_ (some 14) rfl rfl Try.func47 zK rfl #[.slice A0 l0.length c0] rfl zM ?_; (with_reducible refine (solve_occurring.calls k _ _ l0 t276 _ ?side1 ?side2 A8.out).mono ?_); (case side1 => repeat (first | exact (Kd.C_below HR0.out HB.out) | (with_reducible refine Kd.C_alloc ?_ _) | (with_reducible refine Kd.C_drewN ?_ _) | (with_reducible refine Kd.C_drew ?_))); (case side2 => exact HC0.out); rintro e w11 ⟨v277, rfl, ho0, hb⟩; refine ⟨_, rfl, ?_⟩; have hn10 := Aside0.mk hb.size; have hS10 := Aside0.mk (below_size HB.out); have n0_ := Aside0.mk ho0; have n1_ := Aside0.mk (blk_below (g := gb272) (o := .cells #[.slice none 0 0] 42 (0, 0)) (zk BK272) hb); have n2_ := Aside0.mk (blk_below (g := gb273) (o := .cells #[.int .i64 0] 28 (0, 0)) (zk BK273) hb); have n3_ := Aside0.mk (blk_below (g := gb275) (o := .cells #[.slice none 0 0] 42 (0, 0)) (zk BK275) hb); have n4_ := Aside0.mk (below_step zB hb); clear BK272; clear BK273; clear BK275; clear HB; have HO278 := n0_; have BK272 := n1_; have BK273 := n2_; have BK275 := n3_; have HB := n4_; clear n0_ n1_ n2_ n3_ n4_; (try clear hb); (try clear hb2); (try clear hk); (try clear hi); (try clear ho0); obtain ⟨A277, c277, e277⟩ := Kd.R_slice HO278.out; subst e277))
  refine (solve_solutions.in_ A0 l0.length c0 A277 t276.length c277 0 0 _).mono ?_
  rintro e w12 ⟨g0, g1, g2, rfl, hg0, hg1, hs0, hs1, hs2, hb⟩
  have n0_ := Aside0.mk (Kd.R_below HO278.out hb)
  have n1_ := Aside0.mk (blk_below (g := gb272) (o := .cells #[.slice none 0 0] 42 (0, 0)) (zk BK272) hb)
  have n2_ := Aside0.mk (blk_below (g := gb273) (o := .cells #[.int .i64 0] 28 (0, 0)) (zk BK273) hb)
  have n4_ := Aside0.mk (blk_below (g := gb275) (o := .cells #[.slice none 0 0] 42 (0, 0)) (zk BK275) hb)
  have n3_ := Aside0.mk (below_step zB hb)
  have hn11 := Aside0.mk hb.size
  have hc277 := Aside0.mk (Kd.R_reads' HO278.out).2.1
  clear BK272 BK273 BK275 HB HO278 hb hg0 hg1
  have HO278 := n0_
  have BK272 := n1_
  have BK273 := n2_
  have BK275 := n4_
  have HB := n3_
  clear n0_ n1_ n2_ n3_ n4_
  go_wp2
  have hlt275 : gb275 < w10.heap.size := LT275.out
  have h1011 : w10.heap.size ≤ w12.heap.size := Nat.le_trans hn10.out hn11.out
  have HN12 := Aside0.mk h1011
  have hL : ∀ W', KpS w.heap.size w10.heap.size w12.heap.size w12 W' → Kd.C k61 W' A0 l0.length l0 := fun W' hk => Kd.C_kept_came k61_heap HR0.out HB.out (fun k hk => hk.1) W' hk.kept
  have hV : ∀ W', KpS w.heap.size w10.heap.size w12.heap.size w12 W' → Kd.C (Kd.int .i64) W' A277 t276.length t276 := fun W' hk => Kd.C_kept_own (Kd.R_bound HO278.out) (fun k hk hs => by have h_ := hS10.out; obtain ⟨_, h1, h2, _⟩ := hk; omega) W' hk.kept
  have hS12 := Aside0.mk (Nat.le_trans hS10.out h1011)
  refine (wpIn_wide (n := 5)).1 ?_
  refine wpIn_rangeFunc_ownF (n := 5) rfl (by omega) (gf := 85) (lb := #[.pointer (some ⟨g0, 0, none⟩), .pointer (some ⟨g1, 0, none⟩), .pointer (some ⟨g2, 0, none⟩)]) rfl trivial (enters_of Try.func85 zK rfl)
   (solve_solutions_stops w.heap.size w10.heap.size w12.heap.size A0 c0 l0 HC0.out A277 c277 t276 hc277.out 0 0 g0 g1 g2 k s_ w12 (Nat.le_refl _) hL hV AS.out hs0 hs1 hs2)
   KpS.trans (fun W l o o' hl h ho _ => KpS.put hS12.out W l o o' hl h ho) (Below.refl _ _) (fun _ => rfl)
   (fun (pre : List Int) (W : World) => (∃ (A : Option Addr) (c : Nat), W.heap[gb275]? = some (.cells #[.slice A pre.length c] 42 (0, 0)) ∧ Kd.R (Kd.int .i64) 3 W w12.heap.size (fun _ => True) (.slice A pre.length c) pre) ∧ pre.length ≤ 1000 ∧ w12.heap.size ≤ W.heap.size ∧ W.heap[gb272]? = some (.cells #[.slice none 0 0] 42 (0, 0)) ∧ W.heap[gb273]? = some (.cells #[.int .i64 0] 28 (0, 0)) ∧ Below w.heap.size w W)
   (fun c pre W => c = Code.ret ∧ 1000 < pre.length ∧ W.heap[gb272]? = some (.cells #[.slice none 0 0] 42 (0, 0)) ∧ W.heap[gb273]? = some (.cells #[.int .i64 3] 28 (0, 0)) ∧ Below w.heap.size w W)
   (fun s A B row hs hg hr => by
    obtain ⟨⟨Aa, ca, h1, h2⟩, h3, h4, h5, h6, h7⟩ := hs
    refine ⟨⟨Aa, ca, blk_grown h1 hg (ne_row_ hr h1), ?_⟩, h3, Nat.le_trans h4 hg.size, blk_grown h5 hg (ne_row_ hr h5), blk_grown h6 hg (ne_row_ hr h6), h7.grown hg h7.size (fun k e => Nat.le_trans HB.out.size (hr k e).1)⟩
    exact Kd.R_mono (Kd.R_grown (Kd.R_bound h2) hg (fun k hk => by obtain ⟨_, _, _, q, _, cs, hb⟩ := hk; exact ne_row_ hr hb)) (fun _ _ => trivial))
   (fun c s A B row hs hg hr => by
    obtain ⟨e1, e2, h1, h2, h3⟩ := hs
    exact ⟨e1, e2, blk_grown h1 hg (ne_row_ hr h1), blk_grown h2 hg (ne_row_ hr h2), h3.grown hg h3.size (fun k e => Nat.le_trans HB.out.size (hr k e).1)⟩)
   ⟨⟨none, 0, BK275.out, Kd.R_nil _ _ _ _ _⟩, by simp, Nat.le_refl _, BK272.out, BK273.out, HB.out⟩
   (fun x => { tmps := #[.slice A0 l0.length c0, undef, .pointer (some ⟨gb272, 0, none⟩), .pointer (some ⟨gb273, 0, none⟩), .int .i64 t274, .pointer (some ⟨gb275, 0, none⟩), .int .i64 x, .slice A0 l0.length c0, .int .i64 t274, .int .i64 t274, .bool false, undef, .slice A0 l0.length c0, .slice A0 l0.length c0, .slice A277 t276.length c277, .agg #[.int .i64 0, .int .i64 0], .func (.func 85) #[] #[.pointer (some ⟨g0, 0, none⟩), .pointer (some ⟨g1, 0, none⟩), .pointer (some ⟨g2, 0, none⟩)], .int .i64 x, undef, undef, undef, undef, undef, undef, undef, undef], defers := [] }) ?assign ?body ?done ?stop
  case assign =>
   intro l x W K hK
   gi_wp2
   exact hK
  case body =>
   rintro l pre x W ⟨⟨Aa, ca, hb3, hR⟩, hp, hsz, hb1, hb2, hbl⟩ _
   have hcz3 : W.cell? ⟨gb275, 0, none⟩ = some (.slice Aa pre.length ca) := (blk_cell hb3 0).trans rfl
   have hfz3 := blk_frozen hb3 0
   by_cases cl : (pre.length : Int) = 1000
   ·have cl0 : ((pre.length : Int) == 1000) = true := beq_iff_eq.mpr cl
    have hcz0 : W.cell? ⟨gb272, 0, none⟩ = some (.slice none 0 0) := (blk_cell hb1 0).trans rfl
    have hfz0 := blk_frozen hb1 0
    have hcz1 : W.cell? ⟨gb273, 0, none⟩ = some (.int .i64 0) := (blk_cell hb2 0).trans rfl
    have hfz1 := blk_frozen hb2 0
    have hnb := NB272_273.out
    have hnc := NB273_272.out
    gi_wp2
    have h2_ := two_set hb1 hb2 NB272_273.out (.slice none 0 0) (.int .i64 3)
    exact ⟨two_keep _ _ _ _ _, rfl, by simp; omega, h2_.1, h2_.2, below_set (below_set hbl GE272.out) GE273.out⟩
   ·have cl0 : ((pre.length : Int) == 1000) = false := beq_eq_false_iff_ne.mpr cl
    obtain ⟨i0, hi, hz0, hz1, hz2⟩ := info_parts info3
    have hu42 := Try.underlying42
    have hB275 := Aside0.mk hb3
    have hRR := Aside0.mk hR
    have hne : ∀ k, (Value.slice Aa pre.length ca).ownBlock = some k → k ≠ gb275 := fun k hk e => by have h_ := Kd.R_base hR k hk; omega
    have hrow := Kd.own_of_R (Kd.R_alloc hR (.cells #[.int .i64 x] 3 (0, 0)))
    have t1 : pre.length + 1 ≤ maxLen := by unfold maxLen; omega
    have t2 : (pre.length + 1) * 8 ≤ 140737488355328 := by omega
    have t3 : w12.heap.size ≤ (W.alloc (Obj.cells #[.int .i64 x] 3 (0, 0))).heap.size := by rw [World.size_alloc]; omega
    have t4 := cell_one_new W (.int .i64 x) 3
    gi_wp2_with (gi_at_builtin; refine wpListIn_append_own _ rfl _ _ 42 rfl w12.heap.size 3 i0 (.int .i64 0) 1 8 Try.underlying42 hi hz0 hz1 hz2 rfl (by decide) _ _ _ rfl hrow ⟨W.heap.size, 0, none⟩ 1 1 [.int .i64 x] rfl rfl t4 (by simp [Value.oneCell']) t1 t2 t3 ?_; intro v' w1 hown' hgrow _; obtain ⟨g', cap', rfl⟩ := ownsRow_succ hown'; have hb3' := blk_grown (blk_alloc hB275.out (.cells #[.int .i64 x] 3 (0, 0))) hgrow (fun e => hne _ e.symm rfl); have hc3' : w1.cell? ⟨gb275, 0, none⟩ = some (.slice Aa pre.length ca) := (blk_cell hb3' 0).trans rfl; have hf3' := blk_frozen hb3' 0)
    have hbase : ∀ k, (Value.slice Aa pre.length ca).ownBlock = some k → w12.heap.size ≤ k := fun k hk => Kd.R_base hRR.out k hk
    have l272 := blk_lt BK272.out
    have l273 := blk_lt BK273.out
    have l275 := blk_lt BK275.out
    have hRW : Kd.R (Kd.int .i64) 3 w1 w12.heap.size (fun _ => True) (.slice (some ⟨g', 0, none⟩) (pre.length + 1) cap') (pre ++ [x]) := by
     have h_ := Kd.R_of_own (enc := Value.int .i64) (h1 := fun _ => rfl) (xs := pre ++ [x]) (ok := fun _ => True) (by rw [List.length_append]; simpa [encs] using hown') (fun _ _ => trivial)
     exact h_
    have hRW2 : Kd.R (Kd.int .i64) 3 (w1.setCell ⟨gb275, 0, none⟩ (.slice (some ⟨g', 0, none⟩) (pre.length + 1) cap')) w12.heap.size (fun _ => True) (.slice (some ⟨g', 0, none⟩) (pre.length + 1) cap') (pre ++ [x]) :=
     Kd.R_mono (Kd.R_far (p := ⟨gb275, 0, none⟩) (Kd.R_bound hRW) (fun k hk => by obtain ⟨_, hge, _⟩ := hk; show k ≠ gb275; omega) _) (fun _ _ => trivial)
    have hlen : (pre ++ [x]).length = pre.length + 1 := by simp
    refine ⟨((KeepsOthers.alloc _ _).trans (KeepsOthers.of_grownBy hgrow (fun j o e hj => by obtain ⟨cs, hc⟩ := own_typed hrow j e; rw [hj] at hc; cases hc; rfl))).trans (KeepsOthers.setCell _ _ _),
     ((KpS.below (below_alloc (Below.refl _ _) _)).trans (KpS.grown hgrow hS12.out (fun k e => ⟨hbase k e, by obtain ⟨cs, hc⟩ := own_typed hrow k e; exact ⟨cs, 3, hc, by decide⟩⟩))).trans (KpS.set hb3' (by decide) GE275.out LT275.out HN12.out 0 _),
     ⟨some ⟨g', 0, none⟩, cap', by rw [hlen]; exact blk_put (cs := #[.slice Aa pre.length ca]) hb3' 0 _ rfl, by rw [hlen]; exact hRW2⟩, by rw [hlen]; omega,
     Nat.le_trans t3 (Nat.le_trans hgrow.size (by simp [World.setCell])), blk_far (blk_grown (blk_alloc hb1 _) hgrow (fun e => by have h_ := hbase _ e.symm; omega)) NB272_275.out _, blk_far (blk_grown (blk_alloc hb2 _) hgrow (fun e => by have h_ := hbase _ e.symm; omega)) NB273_275.out _,
     below_set ((below_alloc hbl _).grown hgrow (by rw [World.size_alloc]; have h_ := hbl.size; omega) (fun k e => Nat.le_trans HB.out.size (hbase k e))) GE275.out⟩
  case done =>
   rintro D ys W hD hys ⟨⟨Aa, ca, hb3, hR⟩, hp, hsz, hb1, hb2, hbl⟩ hK
   subst hys
   have hcz0 : W.cell? ⟨gb272, 0, none⟩ = some (.slice none 0 0) := (blk_cell hb1 0).trans rfl
   have hfz0 := blk_frozen hb1 0
   have hcz1 : W.cell? ⟨gb273, 0, none⟩ = some (.int .i64 0) := (blk_cell hb2 0).trans rfl
   have hfz1 := blk_frozen hb2 0
   have hcz3 : W.cell? ⟨gb275, 0, none⟩ = some (.slice Aa ys.length ca) := (blk_cell hb3 0).trans rfl
   have hfz3 := blk_frozen hb3 0
   have hnb := NB272_273.out
   have hnc := NB273_272.out
   have hnb2 := NB275_272.out
   have hnb3 := NB275_273.out
   have HKD := Aside0.mk hK
   have HRR := Aside0.mk hR
   clear hK hR
   go_wp2
   have h2_ := two_set hb1 hb2 NB272_273.out (.slice Aa ys.length ca) (.int .i64 0)
   have hKD := (two_keep W gb272 gb273 (.slice Aa ys.length ca) (.int .i64 0)).same D _ HKD.out rfl
   have hbl2 : Below w.heap.size w ((W.setCell ⟨gb272, 0, none⟩ (.slice Aa ys.length ca)).setCell ⟨gb273, 0, none⟩ (.int .i64 0)) := below_set (below_set hbl GE272.out) GE273.out
   have l272 := blk_lt BK272.out
   have l273 := blk_lt BK273.out
   have hR2 : Kd.R (Kd.int .i64) 3 ((W.setCell ⟨gb272, 0, none⟩ (.slice Aa ys.length ca)).setCell ⟨gb273, 0, none⟩ (.int .i64 0)) w12.heap.size (fun _ => True) (.slice Aa ys.length ca) ys :=
    Kd.R_mono (Kd.R_far (p := ⟨gb273, 0, none⟩) (Kd.R_far (p := ⟨gb272, 0, none⟩) (Kd.R_bound HRR.out) (fun k hk => by obtain ⟨_, hge, _⟩ := hk; show k ≠ gb272; omega) _) (fun k hk => by obtain ⟨_, hge, _⟩ := hk; show k ≠ gb273; omega) _) (fun _ _ => trivial)
   have e_ := HFS.out
   simp only [solve_All.of, if_pos hp, Prod.mk.injEq] at e_
   obtain ⟨rfl, rfl⟩ := e_
   refine ⟨by simp, .inl ⟨_, _, rfl, run_takeDeferred hKD, ?_⟩⟩
   refine ⟨_, results_two rfl _ _ gb272 gb273 _ _ rfl rfl (run_loadVar_one _ _ 42 42 _ (0, 0) _ (blk_deferred h2_.1 hKD _) Try.underlying42 rfl) (run_loadVar_one _ _ 28 28 _ (0, 0) _ (blk_deferred h2_.2 hKD _) Try.underlying28 rfl), _, rfl, ?_, hbl2.grown (grownBy_putObj' _ D _) hbl2.size (fun k e => by cases e; exact Nat.le_trans HB.out.size hD)⟩
   exact Kd.R_lower (Kd.R_mono (Kd.R_grown (Kd.R_bound hR2) (grownBy_putObj' _ D (.deferred none)) (fun k hk e => by obtain ⟨_, _, _, q, _, cs, hb⟩ := hk; cases e; rw [hKD] at hb; cases hb)) (fun _ _ => trivial)) HB.out.size
  case stop =>
   rintro D c pre W hD hSp ⟨rfl, hp, hb1, hb2, hbl⟩ hK
   refine wpIn_wide.2 ?_
   go_wp2
   have hle := hSp.length_le
   have e_ := HFS.out
   simp only [solve_All.of, if_neg (show ¬ s_.length ≤ 1000 by omega), Prod.mk.injEq] at e_
   obtain ⟨rfl, rfl⟩ := e_
   refine ⟨by simp, .inl ⟨_, _, rfl, run_takeDeferred hK, ?_⟩⟩
   exact ⟨_, results_two rfl _ _ gb272 gb273 _ _ rfl rfl (run_loadVar_one _ _ 42 42 _ (0, 0) _ (blk_deferred hb1 hK _) Try.underlying42 rfl) (run_loadVar_one _ _ 28 28 _ (0, 0) _ (blk_deferred hb2 hK _) Try.underlying28 rfl), _, rfl, Kd.R_nil _ _ _ _ _, hbl.grown (grownBy_putObj' _ D _) hbl.size (fun k e => by cases e; exact Nat.le_trans HB.out.size hD)⟩
 ·rw [if_neg c7] at H
  have c7b0 : (t274 == 0) = false := beq_eq_false_iff_ne.mpr c7
  have c7b1 : (t274 != 0) = true := bne_iff_ne.mpr c7
  (first | rw [c7b0] | (simp only [i64_w, i32_w]; rw [c7b0]) | skip)
  (try rw [c7b1])
  simp only [Option.some.injEq, Prod.mk.injEq] at H
  obtain ⟨rfl, rfl⟩ := H
  have hnb31 := NB272_273.out
  have hnc31 := NB273_272.out
  have hcz32_0 : w6.cell? ⟨gb272, 0, none⟩ = some (.slice none 0 0) := (blk_cell BK272.out 0).trans rfl
  have hfz32_0 := blk_frozen BK272.out 0
  have hcz33_0 : w6.cell? ⟨gb273, 0, none⟩ = some (.int .i64 0) := (blk_cell BK273.out 0).trans rfl
  have hfz33_0 := blk_frozen BK273.out 0
  go_wp2
  have h2_ := two_set BK272.out BK273.out NB272_273.out (.slice none 0 0) (.int .i64 t274)
  exact ⟨_, results_two rfl _ _ gb272 gb273 _ _ rfl rfl (run_loadVar_one _ _ 42 42 _ (0, 0) _ h2_.1 Try.underlying42 rfl) (run_loadVar_one _ _ 28 28 _ (0, 0) _ h2_.2 Try.underlying28 rfl), _, rfl, Kd.R_nil _ _ _ _ _, below_set (below_set HB.out GE272.out) GE273.out⟩
end
/-! ### slices_Equal_int_int: function 29 -/
def slices_Equal_int_int.l0 : Nat → List Int → List Int → Int → Int → Option (Bool)
 | 0, _, _, _, _ => none
 | k + 1, x0, x1, x12, x13 => if x13 < x12 then (if 0 ≤ x13 then (if x13 < (x0.length : Int) then (if x13 < (x1.length : Int) then (if (rd x0 x13) = (rd x1 x13) then (slices_Equal_int_int.l0 k x0 x1 x12 (wrap64 (x13 + 1))) else (some false)) else (none)) else (none)) else (none)) else (some true)
def slices_Equal_int_int.f (k : Nat) (l0 : List Int) (l1 : List Int) : Option (Bool) := if (l0.length : Int) = (l1.length : Int) then (slices_Equal_int_int.l0 k l0 l1 (l0.length : Int) 0) else (some false)
theorem slices_Equal_int_int.mono_l : ∀ k, (∀ y0 y1 y2 y3, LeO (slices_Equal_int_int.l0 k y0 y1 y2 y3) (slices_Equal_int_int.l0 (k + 1) y0 y1 y2 y3))
 | 0 => fun _ _ _ _ r h => by simp [slices_Equal_int_int.l0] at h
 | k + 1 => by
  have ih0 := slices_Equal_int_int.mono_l k
  ·intro y0 y1 y2 y3
   unfold slices_Equal_int_int.l0
   repeat' first
   | (with_reducible exact ih0 _ _ _ _)
   | (with_reducible exact LeO.refl _)
   | (with_reducible exact LeO.none _)
   | (with_reducible refine LeO.ite ?_ ?_)
   | (with_reducible refine LeO.bind ?_ (fun _ => ?_))
   | exact ih0 _ _ _ _
   | exact LeO.none _
   | refine LeO.ite ?_ ?_
   | refine LeO.bind ?_ (fun _ => ?_)
theorem slices_Equal_int_int.mono : ∀ a0 a1 k, LeO (slices_Equal_int_int.f k a0 a1) (slices_Equal_int_int.f (k + 1) a0 a1) := by
 intro a0 a1 k
 have ih0 := slices_Equal_int_int.mono_l k
 unfold slices_Equal_int_int.f
 repeat' first
   | (with_reducible exact ih0 _ _ _ _)
   | (with_reducible exact LeO.refl _)
   | (with_reducible exact LeO.none _)
   | (with_reducible refine LeO.ite ?_ ?_)
   | (with_reducible refine LeO.bind ?_ (fun _ => ?_))
   | exact ih0 _ _ _ _
   | exact LeO.none _
   | refine LeO.ite ?_ ?_
   | refine LeO.bind ?_ (fun _ => ?_)
set_option maxHeartbeats 8000000 in
set_option maxRecDepth 100000 in
theorem slices_Equal_int_int.calls (k : Nat) (A0 : Option Addr) (c0 : Nat) (l0 : List Int) (A1 : Option Addr) (c1 : Nat) (l1 : List Int) (r : Bool) (w : World) (hr0 : Kd.C (Kd.int .i64) w A0 l0.length l0) (hc0 : l0.length ≤ c0) (hr1 : Kd.C (Kd.int .i64) w A1 l1.length l1) (hc1 : l1.length ≤ c1) (h : slices_Equal_int_int.f k l0 l1 = some r) :
  Calls Try.prog 29 #[.slice A0 l0.length c0, .slice A1 l1.length c1] w fun e w' => e = .returned (.bool r) ∧ Drawn0 w w' := by
 have hu3 := Try.underlying3
 have HR0 := Aside0.mk hr0
 have HC0 := Aside0.mk hc0
 clear hr0 hc0
 have HR1 := Aside0.mk hr1
 have HC1 := Aside0.mk hc1
 clear hr1 hc1
 have H : (if (l0.length : Int) = (l1.length : Int) then (slices_Equal_int_int.l0 k l0 l1 (l0.length : Int) 0) else (some false)) = some r := h
 clear h
 by_cases c3 : (l0.length : Int) = (l1.length : Int)
 ·rw [if_pos c3] at H
  have c3b0 : ((l0.length : Int) == (l1.length : Int)) = true := beq_iff_eq.mpr c3
  have c3b1 : ((l0.length : Int) != (l1.length : Int)) = false := bne_eq_false_iff_eq.mpr c3
  have c3b2 : (l0.length == l1.length) = true := by first | simpa using c3 | (simp at c3 ⊢; omega)
  clear c3
  have H' := Aside0.mk H
  clear H
  go_enter Try.func29, Try.ntmps29
  go_wp2
  repeat (go_quiet (fail); try go_wp2)
  go_loopg [13] k (fun kq v13 w' => ∃ (x13_1 : Int), v13 = .int .i64 x13_1 ∧ Aside0 (slices_Equal_int_int.l0 kq l0 l1 (l0.length : Int) x13_1 = some r) ∧ Aside0 (kq ≤ k) ∧ Drawn0 w w')
  case atStart => exact ⟨(0), zT, H', ⟨Nat.le_refl _⟩, by repeat (first | exact Drawn0.refl _ | apply Drawn0.step)⟩
  case round =>
   clear H'
   try clear c3
   try clear c3b0
   try clear c3b1
   try clear c3b2
   obtain ⟨x13_1, rfl, HA, HK1, ⟨m1, rfl⟩⟩ := hrel
   cases gk with
   | zero => exact absurd HA.out (by simp [slices_Equal_int_int.l0])
   | succ k1 =>
    have H := HA.out
    clear HA
    simp only [slices_Equal_int_int.l0] at H
    by_cases c4 : x13_1 < (l0.length : Int)
    ·rw [if_pos c4] at H
     have c4b0 : decide (x13_1 < (l0.length : Int)) = true := decide_eq_true c4
     clear c4
     by_cases c5 : 0 ≤ x13_1
     ·rw [if_pos c5] at H
      have c5b0 : decide (0 ≤ x13_1) = true := decide_eq_true c5
      clear c5
      by_cases c6 : x13_1 < (l0.length : Int)
      ·rw [if_pos c6] at H
       have c6b0 : decide (x13_1 < (l0.length : Int)) = true := decide_eq_true c6
       clear c6
       by_cases c7 : x13_1 < (l1.length : Int)
       ·rw [if_pos c7] at H
        have c7b0 : decide (x13_1 < (l1.length : Int)) = true := decide_eq_true c7
        clear c7
        by_cases c8 : (rd l0 x13_1) = (rd l1 x13_1)
        ·rw [if_pos c8] at H
         have c8b0 : ((rd l0 x13_1) == (rd l1 x13_1)) = true := beq_iff_eq.mpr c8
         have c8b1 : ((rd l0 x13_1) != (rd l1 x13_1)) = false := bne_eq_false_iff_eq.mpr c8
         clear c8
         have H' := Aside0.mk H
         clear H
         have p301 : 0 ≤ (x13_1 : Int) := of_decide_eq_true zh
         have q301 : x13_1 < (l0.length : Int) := of_decide_eq_true zh
         obtain ⟨ad301, e301, hx301_0⟩ := Kd.at_int HR0.out x13_1 p301 q301
         cases e301
         replace p301 := eq_true p301
         replace q301 := eq_true q301
         have p302 : 0 ≤ (x13_1 : Int) := of_decide_eq_true zh
         have q302 : x13_1 < (l1.length : Int) := of_decide_eq_true zh
         obtain ⟨ad302, e302, hx302_0⟩ := Kd.at_int HR1.out x13_1 p302 q302
         cases e302
         replace p302 := eq_true p302
         replace q302 := eq_true q302
         go_wp2
         repeat (go_quiet (fail); try go_wp2)
         go_roundg k1
         case measure => have := HK1.out; omega
         case rel => exact ⟨(wrap64 (x13_1 + 1)), zT, H', ⟨by have := HK1.out; omega⟩, by repeat (first | exact Drawn0.refl _ | apply Drawn0.step)⟩
        ·rw [if_neg c8] at H
         have c8b0 : ((rd l0 x13_1) == (rd l1 x13_1)) = false := beq_eq_false_iff_ne.mpr c8
         have c8b1 : ((rd l0 x13_1) != (rd l1 x13_1)) = true := bne_iff_ne.mpr c8
         obtain rfl := Option.some.inj H
         have p301 : 0 ≤ (x13_1 : Int) := of_decide_eq_true zh
         have q301 : x13_1 < (l0.length : Int) := of_decide_eq_true zh
         obtain ⟨ad301, e301, hx301_0⟩ := Kd.at_int HR0.out x13_1 p301 q301
         cases e301
         replace p301 := eq_true p301
         replace q301 := eq_true q301
         have p302 : 0 ≤ (x13_1 : Int) := of_decide_eq_true zh
         have q302 : x13_1 < (l1.length : Int) := of_decide_eq_true zh
         obtain ⟨ad302, e302, hx302_0⟩ := Kd.at_int HR1.out x13_1 p302 q302
         cases e302
         replace p302 := eq_true p302
         replace q302 := eq_true q302
         go_wp2
         repeat (go_quiet (fail); try go_wp2)
         go_ret
         exact ⟨by first | rfl | (simp; done) | (simp [*]; done), by repeat (first | exact Drawn0.refl _ | apply Drawn0.step)⟩
       ·rw [if_neg c7] at H
        exact absurd H (by simp)
      ·rw [if_neg c6] at H
       exact absurd H (by simp)
     ·rw [if_neg c5] at H
      exact absurd H (by simp)
    ·rw [if_neg c4] at H
     have c4b0 : decide (x13_1 < (l0.length : Int)) = false := decide_eq_false c4
     clear c4
     obtain rfl := Option.some.inj H
     go_wp2
     repeat (go_quiet (fail); try go_wp2)
     go_ret
     exact ⟨by first | rfl | (simp; done) | (simp [*]; done), by repeat (first | exact Drawn0.refl _ | apply Drawn0.step)⟩
 ·rw [if_neg c3] at H
  have c3b0 : ((l0.length : Int) == (l1.length : Int)) = false := beq_eq_false_iff_ne.mpr c3
  have c3b1 : ((l0.length : Int) != (l1.length : Int)) = true := bne_iff_ne.mpr c3
  have c3b2 : (l0.length == l1.length) = false := by first | simpa using c3 | (simp at c3 ⊢; omega)
  obtain rfl := Option.some.inj H
  go_enter Try.func29, Try.ntmps29
  go_wp2
  repeat (go_quiet (fail); try go_wp2)
  go_ret
  exact ⟨by first | rfl | (simp; done) | (simp [*]; done), by repeat (first | exact Drawn0.refl _ | apply Drawn0.step)⟩
/-! ### ancepslaw40_awake: function 12 -/
def ancepslaw40_awake.f (k : Nat)  : Option (Bool) := (some (([(⟨(([0, 1] : List Int)), (([1, 2] : List Int))⟩ : S61), (⟨(([1, 2] : List Int)), (([0, 3] : List Int))⟩ : S61), (⟨(([0, 2] : List Int)), (([0, 3] : List Int))⟩ : S61)] : List (S61)) : List (S61))).bind fun y321 => ((solve_Refute.f k y321).bind fun bt324 => ((solve_First.f k y321).bind fun bt329 => (if 2 ≤ (y321.length : Int) then ((solve_All.f k (y321.take 2)).bind fun bt336 => (if bt324.2 = 0 then (if (bt324.1.length : Int) = 11 then ((solve_Check.f k y321 bt324.1).bind fun t340 => (if t340 = true then (if bt329.2 = 10 then (if bt336.2 = 0 then ((slices_Equal_int_int.f k bt336.1 (([1, 6] : List Int))).bind fun t344 => (some t344)) else (some false)) else (some false)) else (some false))) else (some false)) else (some false))) else (none))))
theorem ancepslaw40_awake.mono : ∀ k, LeO (ancepslaw40_awake.f k ) (ancepslaw40_awake.f (k + 1) ) := by
 intro  k
 unfold ancepslaw40_awake.f
 repeat' first
   | (with_reducible exact slices_Equal_int_int.mono _ _ _)
   | (with_reducible exact solve_All.mono _ _)
   | (with_reducible exact solve_Check.mono _ _ _)
   | (with_reducible exact solve_First.mono _ _)
   | (with_reducible exact solve_Refute.mono _ _)
   | (with_reducible exact LeO.refl _)
   | (with_reducible exact LeO.none _)
   | (with_reducible refine LeO.ite ?_ ?_)
   | (with_reducible refine LeO.bind ?_ (fun _ => ?_))
   | exact slices_Equal_int_int.mono _ _ _
   | exact solve_All.mono _ _
   | exact solve_Check.mono _ _ _
   | exact solve_First.mono _ _
   | exact solve_Refute.mono _ _
   | exact LeO.none _
   | refine LeO.ite ?_ ?_
   | refine LeO.bind ?_ (fun _ => ?_)
set_option maxHeartbeats 8000000 in
set_option maxRecDepth 100000 in
theorem ancepslaw40_awake.calls (k : Nat)  (r : Bool) (w : World) (h : ancepslaw40_awake.f k  = some r) :
  Calls Try.prog 12 #[] w fun e w' => e = .returned (.bool r) ∧ Below w.heap.size w w' := by
 have hu61 := Try.underlying61
 have hu27 := Try.underlying27
 have hu25 := Try.underlying25
 have HB := Aside0.mk (Below.refl w.heap.size w)
 have H : ((some (([(⟨(([0, 1] : List Int)), (([1, 2] : List Int))⟩ : S61), (⟨(([1, 2] : List Int)), (([0, 3] : List Int))⟩ : S61), (⟨(([0, 2] : List Int)), (([0, 3] : List Int))⟩ : S61)] : List (S61)) : List (S61))).bind fun y321 => ((solve_Refute.f k y321).bind fun bt324 => ((solve_First.f k y321).bind fun bt329 => (if 2 ≤ (y321.length : Int) then ((solve_All.f k (y321.take 2)).bind fun bt336 => (if bt324.2 = 0 then (if (bt324.1.length : Int) = 11 then ((solve_Check.f k y321 bt324.1).bind fun t340 => (if t340 = true then (if bt329.2 = 10 then (if bt336.2 = 0 then ((slices_Equal_int_int.f k bt336.1 (([1, 6] : List Int))).bind fun t344 => (some t344)) else (some false)) else (some false)) else (some false))) else (some false)) else (some false))) else (none))))) = some r := h
 clear h
 obtain ⟨y303, hy303⟩ : ∃ y_ : List Int, y_ = (([0, 1] : List Int)) := ⟨_, rfl⟩
 replace H : ((some (([(⟨y303, (([1, 2] : List Int))⟩ : S61), (⟨(([1, 2] : List Int)), (([0, 3] : List Int))⟩ : S61), (⟨(([0, 2] : List Int)), (([0, 3] : List Int))⟩ : S61)] : List (S61)) : List (S61))).bind fun y321 => ((solve_Refute.f k y321).bind fun bt324 => ((solve_First.f k y321).bind fun bt329 => (if 2 ≤ (y321.length : Int) then ((solve_All.f k (y321.take 2)).bind fun bt336 => (if bt324.2 = 0 then (if (bt324.1.length : Int) = 11 then ((solve_Check.f k y321 bt324.1).bind fun t340 => (if t340 = true then (if bt329.2 = 10 then (if bt336.2 = 0 then ((slices_Equal_int_int.f k bt336.1 (([1, 6] : List Int))).bind fun t344 => (some t344)) else (some false)) else (some false)) else (some false))) else (some false)) else (some false))) else (none))))) = some r := by first | (rw [hy303]; with_reducible exact H) | (have H2_ := (Option.bind_some _ _).symm.trans H; rw [hy303]; with_reducible exact H2_) | (have H2_ := (Option.bind_some _ _).symm.trans H; with_reducible exact H2_) | with_reducible exact H | (rw [hy303]; exact H) | exact H
 have Ny303 := Aside0.mk hy303
 clear hy303
 obtain ⟨y306, hy306⟩ : ∃ y_ : List Int, y_ = (([1, 2] : List Int)) := ⟨_, rfl⟩
 replace H : ((some (([(⟨y303, y306⟩ : S61), (⟨(([1, 2] : List Int)), (([0, 3] : List Int))⟩ : S61), (⟨(([0, 2] : List Int)), (([0, 3] : List Int))⟩ : S61)] : List (S61)) : List (S61))).bind fun y321 => ((solve_Refute.f k y321).bind fun bt324 => ((solve_First.f k y321).bind fun bt329 => (if 2 ≤ (y321.length : Int) then ((solve_All.f k (y321.take 2)).bind fun bt336 => (if bt324.2 = 0 then (if (bt324.1.length : Int) = 11 then ((solve_Check.f k y321 bt324.1).bind fun t340 => (if t340 = true then (if bt329.2 = 10 then (if bt336.2 = 0 then ((slices_Equal_int_int.f k bt336.1 (([1, 6] : List Int))).bind fun t344 => (some t344)) else (some false)) else (some false)) else (some false))) else (some false)) else (some false))) else (none))))) = some r := by first | (rw [hy306]; with_reducible exact H) | (have H2_ := (Option.bind_some _ _).symm.trans H; rw [hy306]; with_reducible exact H2_) | (have H2_ := (Option.bind_some _ _).symm.trans H; with_reducible exact H2_) | with_reducible exact H | (rw [hy306]; exact H) | exact H
 have Ny306 := Aside0.mk hy306
 clear hy306
 obtain ⟨y309, hy309⟩ : ∃ y_ : List Int, y_ = (([1, 2] : List Int)) := ⟨_, rfl⟩
 replace H : ((some (([(⟨y303, y306⟩ : S61), (⟨y309, (([0, 3] : List Int))⟩ : S61), (⟨(([0, 2] : List Int)), (([0, 3] : List Int))⟩ : S61)] : List (S61)) : List (S61))).bind fun y321 => ((solve_Refute.f k y321).bind fun bt324 => ((solve_First.f k y321).bind fun bt329 => (if 2 ≤ (y321.length : Int) then ((solve_All.f k (y321.take 2)).bind fun bt336 => (if bt324.2 = 0 then (if (bt324.1.length : Int) = 11 then ((solve_Check.f k y321 bt324.1).bind fun t340 => (if t340 = true then (if bt329.2 = 10 then (if bt336.2 = 0 then ((slices_Equal_int_int.f k bt336.1 (([1, 6] : List Int))).bind fun t344 => (some t344)) else (some false)) else (some false)) else (some false))) else (some false)) else (some false))) else (none))))) = some r := by first | (rw [hy309]; with_reducible exact H) | (have H2_ := (Option.bind_some _ _).symm.trans H; rw [hy309]; with_reducible exact H2_) | (have H2_ := (Option.bind_some _ _).symm.trans H; with_reducible exact H2_) | with_reducible exact H | (rw [hy309]; exact H) | exact H
 have Ny309 := Aside0.mk hy309
 clear hy309
 obtain ⟨y312, hy312⟩ : ∃ y_ : List Int, y_ = (([0, 3] : List Int)) := ⟨_, rfl⟩
 replace H : ((some (([(⟨y303, y306⟩ : S61), (⟨y309, y312⟩ : S61), (⟨(([0, 2] : List Int)), (([0, 3] : List Int))⟩ : S61)] : List (S61)) : List (S61))).bind fun y321 => ((solve_Refute.f k y321).bind fun bt324 => ((solve_First.f k y321).bind fun bt329 => (if 2 ≤ (y321.length : Int) then ((solve_All.f k (y321.take 2)).bind fun bt336 => (if bt324.2 = 0 then (if (bt324.1.length : Int) = 11 then ((solve_Check.f k y321 bt324.1).bind fun t340 => (if t340 = true then (if bt329.2 = 10 then (if bt336.2 = 0 then ((slices_Equal_int_int.f k bt336.1 (([1, 6] : List Int))).bind fun t344 => (some t344)) else (some false)) else (some false)) else (some false))) else (some false)) else (some false))) else (none))))) = some r := by first | (rw [hy312]; with_reducible exact H) | (have H2_ := (Option.bind_some _ _).symm.trans H; rw [hy312]; with_reducible exact H2_) | (have H2_ := (Option.bind_some _ _).symm.trans H; with_reducible exact H2_) | with_reducible exact H | (rw [hy312]; exact H) | exact H
 have Ny312 := Aside0.mk hy312
 clear hy312
 obtain ⟨y315, hy315⟩ : ∃ y_ : List Int, y_ = (([0, 2] : List Int)) := ⟨_, rfl⟩
 replace H : ((some (([(⟨y303, y306⟩ : S61), (⟨y309, y312⟩ : S61), (⟨y315, (([0, 3] : List Int))⟩ : S61)] : List (S61)) : List (S61))).bind fun y321 => ((solve_Refute.f k y321).bind fun bt324 => ((solve_First.f k y321).bind fun bt329 => (if 2 ≤ (y321.length : Int) then ((solve_All.f k (y321.take 2)).bind fun bt336 => (if bt324.2 = 0 then (if (bt324.1.length : Int) = 11 then ((solve_Check.f k y321 bt324.1).bind fun t340 => (if t340 = true then (if bt329.2 = 10 then (if bt336.2 = 0 then ((slices_Equal_int_int.f k bt336.1 (([1, 6] : List Int))).bind fun t344 => (some t344)) else (some false)) else (some false)) else (some false))) else (some false)) else (some false))) else (none))))) = some r := by first | (rw [hy315]; with_reducible exact H) | (have H2_ := (Option.bind_some _ _).symm.trans H; rw [hy315]; with_reducible exact H2_) | (have H2_ := (Option.bind_some _ _).symm.trans H; with_reducible exact H2_) | with_reducible exact H | (rw [hy315]; exact H) | exact H
 have Ny315 := Aside0.mk hy315
 clear hy315
 obtain ⟨y318, hy318⟩ : ∃ y_ : List Int, y_ = (([0, 3] : List Int)) := ⟨_, rfl⟩
 replace H : ((some (([(⟨y303, y306⟩ : S61), (⟨y309, y312⟩ : S61), (⟨y315, y318⟩ : S61)] : List (S61)) : List (S61))).bind fun y321 => ((solve_Refute.f k y321).bind fun bt324 => ((solve_First.f k y321).bind fun bt329 => (if 2 ≤ (y321.length : Int) then ((solve_All.f k (y321.take 2)).bind fun bt336 => (if bt324.2 = 0 then (if (bt324.1.length : Int) = 11 then ((solve_Check.f k y321 bt324.1).bind fun t340 => (if t340 = true then (if bt329.2 = 10 then (if bt336.2 = 0 then ((slices_Equal_int_int.f k bt336.1 (([1, 6] : List Int))).bind fun t344 => (some t344)) else (some false)) else (some false)) else (some false))) else (some false)) else (some false))) else (none))))) = some r := by first | (rw [hy318]; with_reducible exact H) | (have H2_ := (Option.bind_some _ _).symm.trans H; rw [hy318]; with_reducible exact H2_) | (have H2_ := (Option.bind_some _ _).symm.trans H; with_reducible exact H2_) | with_reducible exact H | (rw [hy318]; exact H) | exact H
 have Ny318 := Aside0.mk hy318
 clear hy318
 obtain ⟨y321, hy321⟩ : ∃ y_ : List (S61), y_ = (([(⟨y303, y306⟩ : S61), (⟨y309, y312⟩ : S61), (⟨y315, y318⟩ : S61)] : List (S61))) := ⟨_, rfl⟩
 replace H : ((solve_Refute.f k y321).bind fun bt324 => ((solve_First.f k y321).bind fun bt329 => (if 2 ≤ (y321.length : Int) then ((solve_All.f k (y321.take 2)).bind fun bt336 => (if bt324.2 = 0 then (if (bt324.1.length : Int) = 11 then ((solve_Check.f k y321 bt324.1).bind fun t340 => (if t340 = true then (if bt329.2 = 10 then (if bt336.2 = 0 then ((slices_Equal_int_int.f k bt336.1 (([1, 6] : List Int))).bind fun t344 => (some t344)) else (some false)) else (some false)) else (some false))) else (some false)) else (some false))) else (none)))) = some r := by first | (rw [hy321]; with_reducible exact H) | (have H2_ := (Option.bind_some _ _).symm.trans H; rw [hy321]; with_reducible exact H2_) | (have H2_ := (Option.bind_some _ _).symm.trans H; with_reducible exact H2_) | with_reducible exact H | (rw [hy321]; exact H) | exact H
 have Ny321 := Aside0.mk hy321
 clear hy321
 replace H := Option.bind_eq_some_iff.mp H
 obtain ⟨⟨t324, t327⟩, A10, H⟩ := H
 replace H : ((solve_First.f k y321).bind fun bt329 => (if 2 ≤ (y321.length : Int) then ((solve_All.f k (y321.take 2)).bind fun bt336 => (if t327 = 0 then (if (t324.length : Int) = 11 then ((solve_Check.f k y321 t324).bind fun t340 => (if t340 = true then (if bt329.2 = 10 then (if bt336.2 = 0 then ((slices_Equal_int_int.f k bt336.1 (([1, 6] : List Int))).bind fun t344 => (some t344)) else (some false)) else (some false)) else (some false))) else (some false)) else (some false))) else (none))) = some r := H
 have A1 := Aside0.mk A10
 clear A10
 replace H := Option.bind_eq_some_iff.mp H
 obtain ⟨⟨t329, t330⟩, A20, H⟩ := H
 replace H : (if 2 ≤ (y321.length : Int) then ((solve_All.f k (y321.take 2)).bind fun bt336 => (if t327 = 0 then (if (t324.length : Int) = 11 then ((solve_Check.f k y321 t324).bind fun t340 => (if t340 = true then (if t330 = 10 then (if bt336.2 = 0 then ((slices_Equal_int_int.f k bt336.1 (([1, 6] : List Int))).bind fun t344 => (some t344)) else (some false)) else (some false)) else (some false))) else (some false)) else (some false))) else (none)) = some r := H
 have A2 := Aside0.mk A20
 clear A20
 by_cases c3 : 2 ≤ (y321.length : Int)
 ·rw [if_pos c3] at H
  have c3b0 := eq_true c3
  have c3b1 : decide (2 ≤ (y321.length : Int)) = true := decide_eq_true c3
  clear c3
  obtain ⟨y331, hy331⟩ : ∃ y_ : List (S61), y_ = (y321.take 2) := ⟨_, rfl⟩
  replace H : ((solve_All.f k y331).bind fun bt336 => (if t327 = 0 then (if (t324.length : Int) = 11 then ((solve_Check.f k y321 t324).bind fun t340 => (if t340 = true then (if t330 = 10 then (if bt336.2 = 0 then ((slices_Equal_int_int.f k bt336.1 (([1, 6] : List Int))).bind fun t344 => (some t344)) else (some false)) else (some false)) else (some false))) else (some false)) else (some false))) = some r := by first | (rw [hy331]; with_reducible exact H) | (have H2_ := (Option.bind_some _ _).symm.trans H; rw [hy331]; with_reducible exact H2_) | (have H2_ := (Option.bind_some _ _).symm.trans H; with_reducible exact H2_) | with_reducible exact H | (rw [hy331]; exact H) | exact H
  have Ny331 := Aside0.mk hy331
  clear hy331
  replace H := Option.bind_eq_some_iff.mp H
  obtain ⟨⟨t336, t337⟩, A40, H⟩ := H
  replace H : (if t327 = 0 then (if (t324.length : Int) = 11 then ((solve_Check.f k y321 t324).bind fun t340 => (if t340 = true then (if t330 = 10 then (if t337 = 0 then ((slices_Equal_int_int.f k t336 (([1, 6] : List Int))).bind fun t344 => (some t344)) else (some false)) else (some false)) else (some false))) else (some false)) else (some false)) = some r := H
  have A4 := Aside0.mk A40
  clear A40
  have HC5 := Aside0.mk H
  clear H
  go_enter Try.func12, Try.ntmps12
  go_upto_region 5 with (first | ((with_reducible refine gate_dst (N := 8) rfl ?_); (try (refine gate_guard (by rfl) ?_; dsimp only)); refine Kd.R_lit (Kd.int .i64) _ 3 ?hg (N := 8) ?hd (xs := ([0, 1] : List Int)) (inner := [.int .i64 0, .int .i64 1]) (ok := fun _ => True) (okp := fun _ => True) ?hr ?hp (fun _ hk => hk) trivial (Below.refl _ _) (Nat.le_refl _) (by simp) ?_; (case hd => rfl); (case hg => rfl); (case hr => first | (go_simp; done) | (go_simp; rfl)); (case hp => exact (Reps.one (show Kd.M (Kd.int .i64) _ _ _ 0 [.int .i64 0] from rfl) (Reps.one (show Kd.M (Kd.int .i64) _ _ _ 1 [.int .i64 1] from rfl) (Reps.none _ _)))); intro v304 w6 ho7 hb hg_ hnew_; clear hg_ hnew_; (first | rw [← Ny303.out] at ho7 | (simp only [Int.reduceToNat] at ho7; rw [← Ny303.out] at ho7)); have n0_ := Aside0.mk (Kd.R_lower ho7 (below_size zB)); have n1_ := Aside0.mk (below_step zB hb); clear HB; have HO305 := n0_; have HB := n1_; clear n0_ n1_; clear hb ho7) | ((with_reducible refine gate_dst (N := 9) rfl ?_); (try (refine gate_guard (by rfl) ?_; dsimp only)); refine Kd.R_lit (Kd.int .i64) _ 3 ?hg (N := 9) ?hd (xs := ([1, 2] : List Int)) (inner := [.int .i64 1, .int .i64 2]) (ok := fun _ => True) (okp := fun _ => True) ?hr ?hp (fun _ hk => hk) trivial (Below.refl _ _) (Nat.le_refl _) (by simp) ?_; (case hd => rfl); (case hg => rfl); (case hr => first | (go_simp; done) | (go_simp; rfl)); (case hp => exact (Reps.one (show Kd.M (Kd.int .i64) _ _ _ 1 [.int .i64 1] from rfl) (Reps.one (show Kd.M (Kd.int .i64) _ _ _ 2 [.int .i64 2] from rfl) (Reps.none _ _)))); intro v307 w8 ho9 hb hg_ hnew_; clear hg_ hnew_; (first | rw [← Ny306.out] at ho9 | (simp only [Int.reduceToNat] at ho9; rw [← Ny306.out] at ho9)); have n0_ := Aside0.mk (Kd.R_elder' (zR HO305) (Kd.R_base ho9) hb); have n1_ := Aside0.mk (Kd.R_lower (Kd.R_new' ho9 (Kd.R_lt (zR HO305))) (below_size zB)); have n2_ := Aside0.mk (below_step zB hb); clear HO305; clear HB; have HO305 := n0_; have HO308 := n1_; have HB := n2_; clear n0_ n1_ n2_; clear hb ho9; obtain ⟨Ao10, co10, eo10⟩ := Kd.R_slice HO308.out; subst eo10; obtain ⟨Ao11, co11, eo11⟩ := Kd.R_slice HO305.out; subst eo11) | ((with_reducible refine gate_dst (N := 11) rfl ?_); (try (refine gate_guard (by rfl) ?_; dsimp only)); refine Kd.R_lit (Kd.int .i64) _ 3 ?hg (N := 11) ?hd (xs := ([1, 2] : List Int)) (inner := [.int .i64 1, .int .i64 2]) (ok := fun _ => True) (okp := fun _ => True) ?hr ?hp (fun _ hk => hk) trivial (Below.refl _ _) (Nat.le_refl _) (by simp) ?_; (case hd => rfl); (case hg => rfl); (case hr => first | (go_simp; done) | (go_simp; rfl)); (case hp => exact (Reps.one (show Kd.M (Kd.int .i64) _ _ _ 1 [.int .i64 1] from rfl) (Reps.one (show Kd.M (Kd.int .i64) _ _ _ 2 [.int .i64 2] from rfl) (Reps.none _ _)))); intro v310 w12 ho13 hb hg_ hnew_; clear hg_ hnew_; (first | rw [← Ny309.out] at ho13 | (simp only [Int.reduceToNat] at ho13; rw [← Ny309.out] at ho13)); have n0_ := Aside0.mk (Kd.R_elder' (zR HO305) (Kd.R_base ho13) hb); have n1_ := Aside0.mk (Kd.R_elder' (zR HO308) (Kd.R_base ho13) hb); have n2_ := Aside0.mk (Kd.R_lower (Kd.R_new' (Kd.R_new' ho13 (Kd.R_lt (zR HO305))) (Kd.R_lt (zR HO308))) (below_size zB)); have n3_ := Aside0.mk (below_step zB hb); clear HO305; clear HO308; clear HB; have HO305 := n0_; have HO308 := n1_; have HO311 := n2_; have HB := n3_; clear n0_ n1_ n2_ n3_; clear hb ho13) | ((with_reducible refine gate_dst (N := 12) rfl ?_); (try (refine gate_guard (by rfl) ?_; dsimp only)); refine Kd.R_lit (Kd.int .i64) _ 3 ?hg (N := 12) ?hd (xs := ([0, 3] : List Int)) (inner := [.int .i64 0, .int .i64 3]) (ok := fun _ => True) (okp := fun _ => True) ?hr ?hp (fun _ hk => hk) trivial (Below.refl _ _) (Nat.le_refl _) (by simp) ?_; (case hd => rfl); (case hg => rfl); (case hr => first | (go_simp; done) | (go_simp; rfl)); (case hp => exact (Reps.one (show Kd.M (Kd.int .i64) _ _ _ 0 [.int .i64 0] from rfl) (Reps.one (show Kd.M (Kd.int .i64) _ _ _ 3 [.int .i64 3] from rfl) (Reps.none _ _)))); intro v313 w14 ho15 hb hg_ hnew_; clear hg_ hnew_; (first | rw [← Ny312.out] at ho15 | (simp only [Int.reduceToNat] at ho15; rw [← Ny312.out] at ho15)); have n0_ := Aside0.mk (Kd.R_elder' (zR HO305) (Kd.R_base ho15) hb); have n1_ := Aside0.mk (Kd.R_elder' (zR HO308) (Kd.R_base ho15) hb); have n2_ := Aside0.mk (Kd.R_elder' (zR HO311) (Kd.R_base ho15) hb); have n3_ := Aside0.mk (Kd.R_lower (Kd.R_new' (Kd.R_new' (Kd.R_new' ho15 (Kd.R_lt (zR HO305))) (Kd.R_lt (zR HO308))) (Kd.R_lt (zR HO311))) (below_size zB)); have n4_ := Aside0.mk (below_step zB hb); clear HO305; clear HO308; clear HO311; clear HB; have HO305 := n0_; have HO308 := n1_; have HO311 := n2_; have HO314 := n3_; have HB := n4_; clear n0_ n1_ n2_ n3_ n4_; clear hb ho15; obtain ⟨Ao16, co16, eo16⟩ := Kd.R_slice HO314.out; subst eo16; obtain ⟨Ao17, co17, eo17⟩ := Kd.R_slice HO311.out; subst eo17) | ((with_reducible refine gate_dst (N := 14) rfl ?_); (try (refine gate_guard (by rfl) ?_; dsimp only)); refine Kd.R_lit (Kd.int .i64) _ 3 ?hg (N := 14) ?hd (xs := ([0, 2] : List Int)) (inner := [.int .i64 0, .int .i64 2]) (ok := fun _ => True) (okp := fun _ => True) ?hr ?hp (fun _ hk => hk) trivial (Below.refl _ _) (Nat.le_refl _) (by simp) ?_; (case hd => rfl); (case hg => rfl); (case hr => first | (go_simp; done) | (go_simp; rfl)); (case hp => exact (Reps.one (show Kd.M (Kd.int .i64) _ _ _ 0 [.int .i64 0] from rfl) (Reps.one (show Kd.M (Kd.int .i64) _ _ _ 2 [.int .i64 2] from rfl) (Reps.none _ _)))); intro v316 w18 ho19 hb hg_ hnew_; clear hg_ hnew_; (first | rw [← Ny315.out] at ho19 | (simp only [Int.reduceToNat] at ho19; rw [← Ny315.out] at ho19)); have n0_ := Aside0.mk (Kd.R_elder' (zR HO305) (Kd.R_base ho19) hb); have n1_ := Aside0.mk (Kd.R_elder' (zR HO308) (Kd.R_base ho19) hb); have n2_ := Aside0.mk (Kd.R_elder' (zR HO311) (Kd.R_base ho19) hb); have n3_ := Aside0.mk (Kd.R_elder' (zR HO314) (Kd.R_base ho19) hb); have n4_ := Aside0.mk (Kd.R_lower (Kd.R_new' (Kd.R_new' (Kd.R_new' (Kd.R_new' ho19 (Kd.R_lt (zR HO305))) (Kd.R_lt (zR HO308))) (Kd.R_lt (zR HO311))) (Kd.R_lt (zR HO314))) (below_size zB)); have n5_ := Aside0.mk (below_step zB hb); clear HO305; clear HO308; clear HO311; clear HO314; clear HB; have HO305 := n0_; have HO308 := n1_; have HO311 := n2_; have HO314 := n3_; have HO317 := n4_; have HB := n5_; clear n0_ n1_ n2_ n3_ n4_ n5_; clear hb ho19) | ((with_reducible refine gate_dst (N := 15) rfl ?_); (try (refine gate_guard (by rfl) ?_; dsimp only)); refine Kd.R_lit (Kd.int .i64) _ 3 ?hg (N := 15) ?hd (xs := ([0, 3] : List Int)) (inner := [.int .i64 0, .int .i64 3]) (ok := fun _ => True) (okp := fun _ => True) ?hr ?hp (fun _ hk => hk) trivial (Below.refl _ _) (Nat.le_refl _) (by simp) ?_; (case hd => rfl); (case hg => rfl); (case hr => first | (go_simp; done) | (go_simp; rfl)); (case hp => exact (Reps.one (show Kd.M (Kd.int .i64) _ _ _ 0 [.int .i64 0] from rfl) (Reps.one (show Kd.M (Kd.int .i64) _ _ _ 3 [.int .i64 3] from rfl) (Reps.none _ _)))); intro v319 w20 ho21 hb hg_ hnew_; clear hg_ hnew_; (first | rw [← Ny318.out] at ho21 | (simp only [Int.reduceToNat] at ho21; rw [← Ny318.out] at ho21)); have n0_ := Aside0.mk (Kd.R_elder' (zR HO305) (Kd.R_base ho21) hb); have n1_ := Aside0.mk (Kd.R_elder' (zR HO308) (Kd.R_base ho21) hb); have n2_ := Aside0.mk (Kd.R_elder' (zR HO311) (Kd.R_base ho21) hb); have n3_ := Aside0.mk (Kd.R_elder' (zR HO314) (Kd.R_base ho21) hb); have n4_ := Aside0.mk (Kd.R_elder' (zR HO317) (Kd.R_base ho21) hb); have n5_ := Aside0.mk (Kd.R_lower (Kd.R_new' (Kd.R_new' (Kd.R_new' (Kd.R_new' (Kd.R_new' ho21 (Kd.R_lt (zR HO305))) (Kd.R_lt (zR HO308))) (Kd.R_lt (zR HO311))) (Kd.R_lt (zR HO314))) (Kd.R_lt (zR HO317))) (below_size zB)); have n6_ := Aside0.mk (below_step zB hb); clear HO305; clear HO308; clear HO311; clear HO314; clear HO317; clear HB; have HO305 := n0_; have HO308 := n1_; have HO311 := n2_; have HO314 := n3_; have HO317 := n4_; have HO320 := n5_; have HB := n6_; clear n0_ n1_ n2_ n3_ n4_ n5_ n6_; clear hb ho21; obtain ⟨Ao22, co22, eo22⟩ := Kd.R_slice HO320.out; subst eo22; obtain ⟨Ao23, co23, eo23⟩ := Kd.R_slice HO317.out; subst eo23) | ((with_reducible refine gate_dst (N := 17) rfl ?_); (try (refine gate_guard (by rfl) ?_; dsimp only)); refine Kd.N_lit k61 _ 61 ?hg (N' := 17) ?hd (xs := ([(⟨y303, y306⟩ : S61), (⟨y309, y312⟩ : S61), (⟨y315, y318⟩ : S61)] : List (S61))) (inner := [.slice Ao11 y303.length co11, .slice Ao10 y306.length co10, .slice Ao17 y309.length co17, .slice Ao16 y312.length co16, .slice Ao23 y315.length co23, .slice Ao22 y318.length co22]) (ok := (fun _ => True)) (okp := (fun _ => True)) ?hr ?hp (fun _ hk => hk) ((show ∀ k_, w20.heap.size ≤ k_ → (fun _ => True) k_ from fun k_ hk => trivial) _ (Nat.le_refl _)) (Below.refl _ _) (Nat.le_refl _) (by simp) ?_; (case hd => rfl); (case hg => rfl); (case hr => first | (go_simp; done) | (go_simp; rfl)); (case hp => exact (Reps.c2 (show Kd.FK k61 _ _ (⟨y303, y306⟩ : S61) [.slice Ao11 y303.length co11, .slice Ao10 y306.length co10] from (k61_mkF _ _ (⟨y303, y306⟩ : S61) (Kd.R_reads' (Kd.R_mono (ok' := (fun _ => True)) (HO305.out) (fun k_ hk => trivial))).2.1 (Kd.R_F (Kd.R_mono (ok' := (fun _ => True)) (HO305.out) (fun k_ hk => trivial))) (Kd.R_reads' (Kd.R_mono (ok' := (fun _ => True)) (HO308.out) (fun k_ hk => trivial))).2.1 (Kd.R_F (Kd.R_mono (ok' := (fun _ => True)) (HO308.out) (fun k_ hk => trivial))))) (Reps.c2 (show Kd.FK k61 _ _ (⟨y309, y312⟩ : S61) [.slice Ao17 y309.length co17, .slice Ao16 y312.length co16] from (k61_mkF _ _ (⟨y309, y312⟩ : S61) (Kd.R_reads' (Kd.R_mono (ok' := (fun _ => True)) (HO311.out) (fun k_ hk => trivial))).2.1 (Kd.R_F (Kd.R_mono (ok' := (fun _ => True)) (HO311.out) (fun k_ hk => trivial))) (Kd.R_reads' (Kd.R_mono (ok' := (fun _ => True)) (HO314.out) (fun k_ hk => trivial))).2.1 (Kd.R_F (Kd.R_mono (ok' := (fun _ => True)) (HO314.out) (fun k_ hk => trivial))))) (Reps.c2 (show Kd.FK k61 _ _ (⟨y315, y318⟩ : S61) [.slice Ao23 y315.length co23, .slice Ao22 y318.length co22] from (k61_mkF _ _ (⟨y315, y318⟩ : S61) (Kd.R_reads' (Kd.R_mono (ok' := (fun _ => True)) (HO317.out) (fun k_ hk => trivial))).2.1 (Kd.R_F (Kd.R_mono (ok' := (fun _ => True)) (HO317.out) (fun k_ hk => trivial))) (Kd.R_reads' (Kd.R_mono (ok' := (fun _ => True)) (HO320.out) (fun k_ hk => trivial))).2.1 (Kd.R_F (Kd.R_mono (ok' := (fun _ => True)) (HO320.out) (fun k_ hk => trivial))))) (Reps.none _ _))))); intro v322 w24 ho25 hb hg_ hnew_; clear hg_ hnew_; (first | rw [← Ny321.out] at ho25 | (simp only [Int.reduceToNat] at ho25; rw [← Ny321.out] at ho25)); have n0_ := Aside0.mk (Kd.N_lower ho25 (below_size zB)); have n1_ := Aside0.mk (below_step zB hb); clear HB; clear HO305; clear HO308; clear HO311; clear HO314; clear HO317; clear HO320; have HO323 := n0_; have HB := n1_; clear n0_ n1_; clear hb ho25; obtain ⟨Ao26, co26, eo26⟩ := Kd.N_slice HO323.out; subst eo26) | ((with_reducible refine gate_callee (f := 14) rfl ?_); refine goesL_ (some 20) rfl rfl Try.func14 zK rfl #[.slice Ao26 y321.length co26] rfl zM ?_; (with_reducible refine (solve_Refute.calls k _ _ y321 t324 t327 _ ?side1 ?side2 A1.out).mono ?_); (case side1 => repeat (first | exact (Kd.N_reads' HO323.out).2.2 | (with_reducible refine Kd.C_alloc ?_ _) | (with_reducible refine Kd.C_drewN ?_ _) | (with_reducible refine Kd.C_drew ?_))); (case side2 => exact (Kd.N_reads' HO323.out).2.1); rintro e w27 ⟨v325, rfl, ho0, hb⟩; refine ⟨_, rfl, ?_⟩; have n0_ := Aside0.mk (Kd.N_elder' (zN HO323) (Kd.R_base ho0) hb); have n1_ := Aside0.mk (Kd.R_lower ho0 (below_size zB)); have n2_ := Aside0.mk (below_step zB hb); clear HO323; clear HB; have HO323 := n0_; have HO326 := n1_; have HB := n2_; clear n0_ n1_ n2_; (try clear hb); (try clear hb2); (try clear hk); (try clear hi); (try clear ho0)) | ((with_reducible refine gate_dst (N := 2) rfl ?_); (try (refine gate_guard (by rfl) ?_; dsimp only)); refine box_event ?hg (N := 2) ?hd (cs := #[.slice none 0 0]) (t := 27) ?hr ?_; (case hd => rfl); (case hg => rfl); (case hr => first | (go_simp; done) | (go_simp; rfl)); intro gb328 hg w28 hbox hb; have n0_ := Aside0.mk (Kd.N_below (Kd.N_elderB (zN HO323) gb328 (Nat.le_of_eq hg.symm)) hb); have n1_ := Aside0.mk (Kd.R_below (zR HO326) hb); have n2_ := Aside0.mk (below_step zB hb); have n3_ := Aside0.mk (hbox); have n4_ := Aside0.mk ((by rw [hg]; exact (below_size zB) : w.heap.size ≤ gb328)); have n5_ := Aside0.mk ((by rw [hg]; exact (below_size zB) : w.heap.size ≤ gb328)); clear HO323; clear HO326; clear HB; have HO323 := n0_; have HO326 := n1_; have HB := n2_; have BK328 := n3_; have GW328 := n4_; have GE328 := n5_; clear n0_ n1_ n2_ n3_ n4_ n5_; clear hb hbox hg; obtain ⟨Ao29, co29, eo29⟩ := Kd.R_slice HO326.out; subst eo29; have hcz30_0 : w28.cell? ⟨gb328, 0, none⟩ = some (.slice none 0 0) := (blk_cell BK328.out 0).trans rfl; have hfz30_0 := blk_frozen BK328.out 0) | ((with_reducible refine gate_callee (f := 19) rfl ?_); refine goesL_ (some 25) rfl rfl Try.func19 zK rfl #[.slice Ao26 y321.length co26] rfl zM ?_; (with_reducible refine (solve_First.calls k _ _ y321 t329 t330 _ ?side1 ?side2 A2.out).mono ?_); (case side1 => refine (Kd.N_reads' (e := 61) (base := w.heap.size) (ok := fun k_ => ((True ∧ some k_ ≠ (.slice Ao29 t324.length co29 : Value).ownBlock) ∧ k_ ≠ gb328)) (n := y321.length) (c := co26) ?_).2.2; exact (by (with_reducible repeat (first | apply Kd.N_alloc | apply Kd.N_drewN | apply Kd.N_drew)); exact (Kd.N_mono (Kd.N_far (p := ⟨gb328, 0, none⟩) (Kd.N_mono HO323.out (fun k_ hk => (⟨hk, hk.2⟩ : _ ∧ k_ ≠ gb328))) (fun _ hk => hk.2) (.slice Ao29 t324.length co29)) (fun _ h_ => h_.1)))); (case side2 => exact (Kd.N_reads' HO323.out).2.1); rintro e w31 ⟨rfl, hb⟩; refine ⟨_, rfl, ?_⟩; have n0_ := Aside0.mk (Kd.N_below (by (with_reducible repeat (first | apply Kd.N_alloc | apply Kd.N_drewN | apply Kd.N_drew)); exact (Kd.N_mono (Kd.N_far (p := ⟨gb328, 0, none⟩) (Kd.N_mono HO323.out (fun k_ hk => (⟨hk, hk.2⟩ : _ ∧ k_ ≠ gb328))) (fun _ hk => hk.2) (.slice Ao29 t324.length co29)) (fun _ h_ => h_.1))) hb); have n1_ := Aside0.mk (Kd.R_below (by (with_reducible repeat (first | apply Kd.R_alloc | apply Kd.R_drewN | apply Kd.R_drew)); exact (Kd.R_mono (Kd.R_far (p := ⟨gb328, 0, none⟩) (Kd.R_types HO326.out BK328.out (by decide)) (fun _ hk => hk.2) (.slice Ao29 t324.length co29)) (fun _ h_ => h_.1))) hb); have n2_ := Aside0.mk (blk_below (g := gb328) (o := .cells #[.slice Ao29 t324.length co29] 27 (0, 0)) (by (with_reducible repeat (first | refine blk_drewN ?_ _ | refine blk_drew ?_ | refine blk_alloc ?_ _)); refine blk_put (cs := #[.slice none 0 0]) ?_ 0 _ rfl; (with_reducible repeat (first | refine blk_drewN ?_ _ | refine blk_drew ?_ | refine blk_alloc ?_ _)); exact BK328.out) hb); have n3_ := Aside0.mk (below_step zB hb); clear HO323; clear HO326; clear BK328; clear HB; have HO323 := n0_; have HO326 := n1_; have BK328 := n2_; have HB := n3_; clear n0_ n1_ n2_ n3_; (try clear hb); (try clear hb2); (try clear hk); (try clear hi); have q32 : (2 : Int) ≤ ((y321.length : Int) : Int) := of_decide_eq_true zh; obtain ⟨i032, hi032, _, hsz32, _⟩ := info_parts info61; have hroom32 : y321.length ≤ co26 := (Kd.N_reads' HO323.out).2.1; have hC32 : Kd.F k61 _ _ Ao26 y321.length y321 := (Kd.V_at (base := w.heap.size) (Kd.N_V HO323.out)).2.2; have hcut32 := cut_to (P := Try.prog) 22 61 .i64 Try.underlying22 hi032 Ao26 y321.length co26 2 (by omega) q32 hroom32; have hr32 := Kd.F_take (m := 2) hC32 (by omega); have hy32 : y331.length = (2 : Int).toNat := (by rw [Ny331.out, List.length_take]; omega); rw [← Ny331.out] at hr32; rw [← hy32] at hcut32; have HO335 := Aside0.mk (show Kd.V k61 61 _ w.heap.size _ (.slice Ao26 y331.length co26) y331 from Kd.V_mk (by omega) hr32); have HC335 := Aside0.mk (show y331.length ≤ co26 from by omega); clear hr32 hC32 hroom32 hi032 hsz32; have KY32 := Aside0.mk hy32; clear hy32; replace q32 := eq_true q32) | ((with_reducible refine gate_callee (f := 25) rfl ?_); refine goesL_ (some 31) rfl rfl Try.func25 zK rfl #[.slice Ao26 y331.length co26] rfl zM ?_; (with_reducible refine (solve_All.calls k _ _ y331 t336 t337 _ ?side1 ?side2 A4.out).mono ?_); (case side1 => repeat (first | exact (Kd.V_reads' HO335.out).2.2 | (with_reducible refine Kd.C_alloc ?_ _) | (with_reducible refine Kd.C_drewN ?_ _) | (with_reducible refine Kd.C_drew ?_))); (case side2 => exact (Kd.V_reads' HO335.out).2.1); rintro e w33 ⟨v338, rfl, ho0, hb⟩; refine ⟨_, rfl, ?_⟩; have n0_ := Aside0.mk (Kd.N_elder' (zN HO323) (Kd.R_base ho0) hb); have n1_ := Aside0.mk (Kd.R_below (zR HO326) hb); have n2_ := Aside0.mk (Kd.V_elder' (zV HO335) (Kd.R_base ho0) hb); have n3_ := Aside0.mk (Kd.R_lower ho0 (below_size zB)); have n4_ := Aside0.mk (blk_below (g := gb328) (o := .cells #[.slice Ao29 t324.length co29] 27 (0, 0)) (zk BK328) hb); have n5_ := Aside0.mk (below_step zB hb); clear HO323; clear HO326; clear HO335; clear BK328; clear HB; have HO323 := n0_; have HO326 := n1_; have HO335 := n2_; have HO339 := n3_; have BK328 := n4_; have HB := n5_; clear n0_ n1_ n2_ n3_ n4_ n5_; (try clear hb); (try clear hb2); (try clear hk); (try clear hi); (try clear ho0)))
  (try simp only [Act.put, List.setIfInBounds_toArray, List.set_cons_zero, List.set_cons_succ])
  have H := HC5.out
  clear HC5
  by_cases c34 : t327 = 0
  ·rw [if_pos c34] at H
   have c34b0 : (t327 == 0) = true := beq_iff_eq.mpr c34
   have c34b1 : (t327 != 0) = false := bne_eq_false_iff_eq.mpr c34
   clear c34
   (first | rw [c34b0] | (simp only [i64_w, i32_w]; rw [c34b0]) | skip)
   (try rw [c34b1])
   by_cases c35 : (t324.length : Int) = 11
   ·rw [if_pos c35] at H
    have c35b0 : ((t324.length : Int) == 11) = true := beq_iff_eq.mpr c35
    have c35b1 : ((t324.length : Int) != 11) = false := bne_eq_false_iff_eq.mpr c35
    clear c35
    replace H := Option.bind_eq_some_iff.mp H
    obtain ⟨t340, A360, H⟩ := H
    replace H : (if t340 = true then (if t330 = 10 then (if t337 = 0 then ((slices_Equal_int_int.f k t336 (([1, 6] : List Int))).bind fun t344 => (some t344)) else (some false)) else (some false)) else (some false)) = some r := H
    have A36 := Aside0.mk A360
    clear A360
    by_cases c37 : t340 = true
    ·subst c37
     have H1 : (if t330 = 10 then (if t337 = 0 then ((slices_Equal_int_int.f k t336 (([1, 6] : List Int))).bind fun t344 => (some t344)) else (some false)) else (some false)) = some r := by rw [if_pos rfl] at H; exact H
     clear H
     have H := H1
     clear H1
     by_cases c38 : t330 = 10
     ·rw [if_pos c38] at H
      have c38b0 : (t330 == 10) = true := beq_iff_eq.mpr c38
      have c38b1 : (t330 != 10) = false := bne_eq_false_iff_eq.mpr c38
      clear c38
      by_cases c39 : t337 = 0
      ·rw [if_pos c39] at H
       have c39b0 : (t337 == 0) = true := beq_iff_eq.mpr c39
       have c39b1 : (t337 != 0) = false := bne_eq_false_iff_eq.mpr c39
       clear c39
       obtain ⟨y341, hy341⟩ : ∃ y_ : List Int, y_ = (([1, 6] : List Int)) := ⟨_, rfl⟩
       replace H : ((slices_Equal_int_int.f k t336 y341).bind fun t344 => (some t344)) = some r := by first | (rw [hy341]; with_reducible exact H) | (have H2_ := (Option.bind_some _ _).symm.trans H; rw [hy341]; with_reducible exact H2_) | (have H2_ := (Option.bind_some _ _).symm.trans H; with_reducible exact H2_) | with_reducible exact H | (rw [hy341]; exact H) | exact H
       have Ny341 := Aside0.mk hy341
       clear hy341
       replace H := Option.bind_eq_some_iff.mp H
       obtain ⟨t344, A400, H⟩ := H
       replace H : (some t344) = some r := H
       have A40 := Aside0.mk A400
       clear A400
       obtain rfl := Option.some.inj H
       have hcz41_0 : w33.cell? ⟨gb328, 0, none⟩ = some (.slice Ao29 t324.length co29) := (blk_cell BK328.out 0).trans rfl
       have hfz41_0 := blk_frozen BK328.out 0
       go_wp2_with (first | (go_at_call 17; (with_reducible refine (solve_Check.calls k _ _ y321 _ _ t324 true _ ?side1 ?side2 ?side3 ?side4 A36.out).mono ?_); (case side1 => repeat (first | exact (Kd.N_reads' HO323.out).2.2 | (with_reducible refine Kd.C_alloc ?_ _) | (with_reducible refine Kd.C_drewN ?_ _) | (with_reducible refine Kd.C_drew ?_))); (case side2 => exact (Kd.N_reads' HO323.out).2.1); (case side3 => repeat (first | exact (Kd.R_reads' HO326.out).2.2 | (with_reducible refine Kd.C_alloc ?_ _) | (with_reducible refine Kd.C_drewN ?_ _) | (with_reducible refine Kd.C_drew ?_))); (case side4 => exact (Kd.R_reads' HO326.out).2.1); rintro e w42 ⟨rfl, hb⟩; have n0_ := Aside0.mk (Kd.N_below (zN HO323) hb); have n1_ := Aside0.mk (Kd.R_below (zR HO326) hb); have n2_ := Aside0.mk (Kd.V_below (zV HO335) hb); have n3_ := Aside0.mk (Kd.R_below (zR HO339) hb); have n4_ := Aside0.mk (blk_below (g := gb328) (o := .cells #[.slice Ao29 t324.length co29] 27 (0, 0)) (zk BK328) hb); have n5_ := Aside0.mk (below_step zB hb); clear HO323; clear HO326; clear HO335; clear HO339; clear BK328; clear HB; have HO323 := n0_; have HO326 := n1_; have HO335 := n2_; have HO339 := n3_; have BK328 := n4_; have HB := n5_; clear n0_ n1_ n2_ n3_ n4_ n5_; (try clear hb); (try clear hb2); (try clear hk); (try clear hi)) | ((with_reducible refine gate_dst (N := 57) rfl ?_); (try (refine gate_guard (by rfl) ?_; dsimp only)); refine Kd.R_lit (Kd.int .i64) _ 3 ?hg (N := 57) ?hd (xs := ([1, 6] : List Int)) (inner := [.int .i64 1, .int .i64 6]) (ok := fun _ => True) (okp := fun _ => True) ?hr ?hp (fun _ hk => hk) trivial (Below.refl _ _) (Nat.le_refl _) (by simp) ?_; (case hd => rfl); (case hg => rfl); (case hr => first | (go_simp; done) | (go_simp; rfl)); (case hp => exact (Reps.one (show Kd.M (Kd.int .i64) _ _ _ 1 [.int .i64 1] from rfl) (Reps.one (show Kd.M (Kd.int .i64) _ _ _ 6 [.int .i64 6] from rfl) (Reps.none _ _)))); intro v342 w43 ho44 hb hg_ hnew_; clear hg_ hnew_; (first | rw [← Ny341.out] at ho44 | (simp only [Int.reduceToNat] at ho44; rw [← Ny341.out] at ho44)); have n0_ := Aside0.mk (Kd.N_elder' (zN HO323) (Kd.R_base ho44) hb); have n1_ := Aside0.mk (Kd.R_below (zR HO326) hb); have n2_ := Aside0.mk (Kd.V_elder' (zV HO335) (Kd.R_base ho44) hb); have n3_ := Aside0.mk (Kd.R_elder' (zR HO339) (Kd.R_base ho44) hb); have n4_ := Aside0.mk (Kd.R_lower (Kd.R_new' ho44 (Kd.R_lt (zR HO339))) (below_size zB)); have n5_ := Aside0.mk (blk_below (g := gb328) (o := .cells #[.slice Ao29 t324.length co29] 27 (0, 0)) (zk BK328) hb); have n6_ := Aside0.mk (below_step zB hb); clear HO323; clear HO326; clear HO335; clear HO339; clear BK328; clear HB; have HO323 := n0_; have HO326 := n1_; have HO335 := n2_; have HO339 := n3_; have HO343 := n4_; have BK328 := n5_; have HB := n6_; clear n0_ n1_ n2_ n3_ n4_ n5_ n6_; clear hb ho44; obtain ⟨Ao45, co45, eo45⟩ := Kd.R_slice HO339.out; subst eo45; obtain ⟨Ao46, co46, eo46⟩ := Kd.R_slice HO343.out; subst eo46) | (go_at_call 29; (with_reducible refine (slices_Equal_int_int.calls k _ _ t336 _ _ y341 t344 _ ?side1 ?side2 ?side3 ?side4 A40.out).mono ?_); (case side1 => repeat (first | exact (Kd.R_reads' HO339.out).2.2 | (with_reducible refine Kd.C_alloc ?_ _) | (with_reducible refine Kd.C_drewN ?_ _) | (with_reducible refine Kd.C_drew ?_))); (case side2 => exact (Kd.R_reads' HO339.out).2.1); (case side3 => repeat (first | exact (Kd.R_reads' HO343.out).2.2 | (with_reducible refine Kd.C_alloc ?_ _) | (with_reducible refine Kd.C_drewN ?_ _) | (with_reducible refine Kd.C_drew ?_))); (case side4 => exact (Kd.R_reads' HO343.out).2.1); rintro e w' ⟨rfl, ⟨nd, rfl⟩⟩))
       go_ret
       exact ⟨by first | rfl | (simp [errW_none, errW_some] <;> rfl) | (simp [*, errW_none, errW_some] <;> rfl), by repeat (first | (with_reducible first | exact HB.out | apply below_alloc | apply pw_below_drewN | apply below_drew1 | refine below_set ?_ GE328.out) | exact HB.out)⟩
      ·rw [if_neg c39] at H
       have c39b0 : (t337 == 0) = false := beq_eq_false_iff_ne.mpr c39
       have c39b1 : (t337 != 0) = true := bne_iff_ne.mpr c39
       obtain rfl := Option.some.inj H
       have hcz47_0 : w33.cell? ⟨gb328, 0, none⟩ = some (.slice Ao29 t324.length co29) := (blk_cell BK328.out 0).trans rfl
       have hfz47_0 := blk_frozen BK328.out 0
       go_wp2_with (first | (go_at_call 17; (with_reducible refine (solve_Check.calls k _ _ y321 _ _ t324 true _ ?side1 ?side2 ?side3 ?side4 A36.out).mono ?_); (case side1 => repeat (first | exact (Kd.N_reads' HO323.out).2.2 | (with_reducible refine Kd.C_alloc ?_ _) | (with_reducible refine Kd.C_drewN ?_ _) | (with_reducible refine Kd.C_drew ?_))); (case side2 => exact (Kd.N_reads' HO323.out).2.1); (case side3 => repeat (first | exact (Kd.R_reads' HO326.out).2.2 | (with_reducible refine Kd.C_alloc ?_ _) | (with_reducible refine Kd.C_drewN ?_ _) | (with_reducible refine Kd.C_drew ?_))); (case side4 => exact (Kd.R_reads' HO326.out).2.1); rintro e w48 ⟨rfl, hb⟩; have n0_ := Aside0.mk (Kd.N_below (zN HO323) hb); have n1_ := Aside0.mk (Kd.R_below (zR HO326) hb); have n2_ := Aside0.mk (Kd.V_below (zV HO335) hb); have n3_ := Aside0.mk (Kd.R_below (zR HO339) hb); have n4_ := Aside0.mk (blk_below (g := gb328) (o := .cells #[.slice Ao29 t324.length co29] 27 (0, 0)) (zk BK328) hb); have n5_ := Aside0.mk (below_step zB hb); clear HO323; clear HO326; clear HO335; clear HO339; clear BK328; clear HB; have HO323 := n0_; have HO326 := n1_; have HO335 := n2_; have HO339 := n3_; have BK328 := n4_; have HB := n5_; clear n0_ n1_ n2_ n3_ n4_ n5_; (try clear hb); (try clear hb2); (try clear hk); (try clear hi)))
       go_ret
       exact ⟨by first | rfl | (simp [errW_none, errW_some] <;> rfl) | (simp [*, errW_none, errW_some] <;> rfl), by repeat (first | (with_reducible first | exact HB.out | apply below_alloc | apply pw_below_drewN | apply below_drew1 | refine below_set ?_ GE328.out) | exact HB.out)⟩
     ·rw [if_neg c38] at H
      have c38b0 : (t330 == 10) = false := beq_eq_false_iff_ne.mpr c38
      have c38b1 : (t330 != 10) = true := bne_iff_ne.mpr c38
      obtain rfl := Option.some.inj H
      have hcz49_0 : w33.cell? ⟨gb328, 0, none⟩ = some (.slice Ao29 t324.length co29) := (blk_cell BK328.out 0).trans rfl
      have hfz49_0 := blk_frozen BK328.out 0
      go_wp2_with (first | (go_at_call 17; (with_reducible refine (solve_Check.calls k _ _ y321 _ _ t324 true _ ?side1 ?side2 ?side3 ?side4 A36.out).mono ?_); (case side1 => repeat (first | exact (Kd.N_reads' HO323.out).2.2 | (with_reducible refine Kd.C_alloc ?_ _) | (with_reducible refine Kd.C_drewN ?_ _) | (with_reducible refine Kd.C_drew ?_))); (case side2 => exact (Kd.N_reads' HO323.out).2.1); (case side3 => repeat (first | exact (Kd.R_reads' HO326.out).2.2 | (with_reducible refine Kd.C_alloc ?_ _) | (with_reducible refine Kd.C_drewN ?_ _) | (with_reducible refine Kd.C_drew ?_))); (case side4 => exact (Kd.R_reads' HO326.out).2.1); rintro e w50 ⟨rfl, hb⟩; have n0_ := Aside0.mk (Kd.N_below (zN HO323) hb); have n1_ := Aside0.mk (Kd.R_below (zR HO326) hb); have n2_ := Aside0.mk (Kd.V_below (zV HO335) hb); have n3_ := Aside0.mk (Kd.R_below (zR HO339) hb); have n4_ := Aside0.mk (blk_below (g := gb328) (o := .cells #[.slice Ao29 t324.length co29] 27 (0, 0)) (zk BK328) hb); have n5_ := Aside0.mk (below_step zB hb); clear HO323; clear HO326; clear HO335; clear HO339; clear BK328; clear HB; have HO323 := n0_; have HO326 := n1_; have HO335 := n2_; have HO339 := n3_; have BK328 := n4_; have HB := n5_; clear n0_ n1_ n2_ n3_ n4_ n5_; (try clear hb); (try clear hb2); (try clear hk); (try clear hi)))
      go_ret
      exact ⟨by first | rfl | (simp [errW_none, errW_some] <;> rfl) | (simp [*, errW_none, errW_some] <;> rfl), by repeat (first | (with_reducible first | exact HB.out | apply below_alloc | apply pw_below_drewN | apply below_drew1 | refine below_set ?_ GE328.out) | exact HB.out)⟩
    ·replace c37 := Bool.eq_false_iff.mpr c37
     subst c37
     have H1 : (some false) = some r := by rw [if_neg (show ¬ (false = true) by decide)] at H; exact H
     clear H
     have H := H1
     clear H1
     obtain rfl := Option.some.inj H
     have hcz51_0 : w33.cell? ⟨gb328, 0, none⟩ = some (.slice Ao29 t324.length co29) := (blk_cell BK328.out 0).trans rfl
     have hfz51_0 := blk_frozen BK328.out 0
     go_wp2_with (first | (go_at_call 17; (with_reducible refine (solve_Check.calls k _ _ y321 _ _ t324 false _ ?side1 ?side2 ?side3 ?side4 A36.out).mono ?_); (case side1 => repeat (first | exact (Kd.N_reads' HO323.out).2.2 | (with_reducible refine Kd.C_alloc ?_ _) | (with_reducible refine Kd.C_drewN ?_ _) | (with_reducible refine Kd.C_drew ?_))); (case side2 => exact (Kd.N_reads' HO323.out).2.1); (case side3 => repeat (first | exact (Kd.R_reads' HO326.out).2.2 | (with_reducible refine Kd.C_alloc ?_ _) | (with_reducible refine Kd.C_drewN ?_ _) | (with_reducible refine Kd.C_drew ?_))); (case side4 => exact (Kd.R_reads' HO326.out).2.1); rintro e w52 ⟨rfl, hb⟩; have n0_ := Aside0.mk (Kd.N_below (zN HO323) hb); have n1_ := Aside0.mk (Kd.R_below (zR HO326) hb); have n2_ := Aside0.mk (Kd.V_below (zV HO335) hb); have n3_ := Aside0.mk (Kd.R_below (zR HO339) hb); have n4_ := Aside0.mk (blk_below (g := gb328) (o := .cells #[.slice Ao29 t324.length co29] 27 (0, 0)) (zk BK328) hb); have n5_ := Aside0.mk (below_step zB hb); clear HO323; clear HO326; clear HO335; clear HO339; clear BK328; clear HB; have HO323 := n0_; have HO326 := n1_; have HO335 := n2_; have HO339 := n3_; have BK328 := n4_; have HB := n5_; clear n0_ n1_ n2_ n3_ n4_ n5_; (try clear hb); (try clear hb2); (try clear hk); (try clear hi)))
     go_ret
     exact ⟨by first | rfl | (simp [errW_none, errW_some] <;> rfl) | (simp [*, errW_none, errW_some] <;> rfl), by repeat (first | (with_reducible first | exact HB.out | apply below_alloc | apply pw_below_drewN | apply below_drew1 | refine below_set ?_ GE328.out) | exact HB.out)⟩
   ·rw [if_neg c35] at H
    have c35b0 : ((t324.length : Int) == 11) = false := beq_eq_false_iff_ne.mpr c35
    have c35b1 : ((t324.length : Int) != 11) = true := bne_iff_ne.mpr c35
    obtain rfl := Option.some.inj H
    have hcz53_0 : w33.cell? ⟨gb328, 0, none⟩ = some (.slice Ao29 t324.length co29) := (blk_cell BK328.out 0).trans rfl
    have hfz53_0 := blk_frozen BK328.out 0
    go_wp2
    go_ret
    exact ⟨by first | rfl | (simp [errW_none, errW_some] <;> rfl) | (simp [*, errW_none, errW_some] <;> rfl), by repeat (first | (with_reducible first | exact HB.out | apply below_alloc | apply pw_below_drewN | apply below_drew1 | refine below_set ?_ GE328.out) | exact HB.out)⟩
  ·rw [if_neg c34] at H
   have c34b0 : (t327 == 0) = false := beq_eq_false_iff_ne.mpr c34
   have c34b1 : (t327 != 0) = true := bne_iff_ne.mpr c34
   (first | rw [c34b0] | (simp only [i64_w, i32_w]; rw [c34b0]) | skip)
   (try rw [c34b1])
   obtain rfl := Option.some.inj H
   go_wp2
   go_ret
   exact ⟨by first | rfl | (simp [errW_none, errW_some] <;> rfl) | (simp [*, errW_none, errW_some] <;> rfl), by repeat (first | (with_reducible first | exact HB.out | apply below_alloc | apply pw_below_drewN | apply below_drew1 | refine below_set ?_ GE328.out) | exact HB.out)⟩
 ·rw [if_neg c3] at H
  exact absurd H (by simp)
end Go.Proofs.Ytbagnalcabdlhaa.S
