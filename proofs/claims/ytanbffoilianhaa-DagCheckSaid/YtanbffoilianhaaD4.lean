-- Written by wip/tools/myprint.py, a program of this session's.
import Derived.Test.YtanbffoilianhaaD0
import Derived.Test.YtanbffoilianhaaD3
namespace Go.Proofs.Ytanbffoilianhaa.D
open Go.RowKit Go.Proofs.YtanbffoilianhaaW.PrintWords Go.Proofs.YtanbffoilianhaaW.PrintLast Go.Proofs.YtanbffoilianhaaW.PrintMore
attribute [local go_sem] max2_int min2_int max_two min_two max_three min_three max_four min_four   -- for this text's walks alone
set_option linter.unusedVariables false
set_option linter.unusedSimpArgs false

/-! ### dag_ways: function 56 -/
section
attribute [local go_sem] Oper.semAt_some
def downFrom (len j : Nat) : List (Fin len) := ((List.finRange len).reverse).take j
theorem downFrom_zero (len : Nat) : downFrom len 0 = [] := rfl
theorem downFrom_length (len j : Nat) (h : j ≤ len) : (downFrom len j).length = j := by simp [downFrom]; omega
theorem downFrom_succ (len j : Nat) (h : j < len) : downFrom len (j + 1) = downFrom len j ++ [⟨len - 1 - j, by omega⟩] := by
 unfold downFrom
 rw [List.take_succ_eq_append_getElem (by simpa using h)]
 congr 2
 rw [List.getElem_reverse]
 simp
theorem downFrom_all (len : Nat) : downFrom len len = (List.finRange len).reverse := by
 unfold downFrom
 rw [List.take_of_length_le (by simp)]

/-- What a round must leave as it is: the variable of the row, and the row's cells. -/
def KpBack (Bs b off : Nat) (A B : World) : Prop :=
 (∀ v, A.cell? ⟨Bs, 0, none⟩ = some v → B.cell? ⟨Bs, 0, none⟩ = some v) ∧ ∀ (j : Nat) v, A.cell? ⟨b, off + j, none⟩ = some v → B.cell? ⟨b, off + j, none⟩ = some v
theorem KpBack.trans {Bs b off : Nat} {A B C : World} (h : KpBack Bs b off A B) (k : KpBack Bs b off B C) : KpBack Bs b off A C :=
 ⟨fun v hv => k.1 v (h.1 v hv), fun j v hv => k.2 j v (h.2 j v hv)⟩
theorem KpBack.put {Bs b off : Nat} (W : World) (l : Nat) (o o' : Obj) (h : W.heap[l]? = some o) (ho : o.isCells = false) : KpBack Bs b off W (W.putObj l o') :=
 ⟨fun v hv => cell_kept hv (grownBy_putObj' W l o') (fun r e => by cases e; exact ⟨o, h, ho⟩), fun j v hv => cell_kept hv (grownBy_putObj' W l o') (fun r e => by cases e; exact ⟨o, h, ho⟩)⟩

set_option maxRecDepth 100000 in
set_option maxHeartbeats 2000000 in
theorem backward1_in (F : Fence) (n : Nat) (h8 : F.fn 101) (hro : F.round = none) (hn : 1 ≤ n) (l Bs b off len cap : Nat) (V : Fin len → Value) (hreach : len ≤ 281474976710656) (J Jx : List (Fin len) → World → Prop)
  (hY : ∀ pre x W, J pre W → pre.length < len → YieldAt F (n - 1) Try.prog l #[.int .i64 (x.val : Int), V x] W fun e W' =>
   (e = .returned (.bool true) ∧ J (pre ++ [x]) W' ∧ KpBack Bs b off W W') ∨ (e = .returned (.bool false) ∧ Jx (pre ++ [x]) W'))
  (W : World) (hBs : W.cell? ⟨Bs, 0, none⟩ = some (.slice (some ⟨b, off, none⟩) len cap)) (hc : ∀ j : Fin len, W.cell? ⟨b, off + j.val, none⟩ = some (V j)) (h0 : J [] W) :
  CallsIn F n Try.prog 101 #[.func (.yield l) #[] #[], .pointer (some ⟨Bs, 0, none⟩)] W fun e W' => (∃ v, e = .returned v) ∧
   ((∃ ys, ys = (List.finRange len).reverse ∧ J ys W') ∨ (∃ pre, (∃ k, k ≤ len ∧ pre = downFrom len k) ∧ Jx pre W')) := by
 have hu34 := Try.underlying34
 have hu25 := Try.underlying25
 refine callsIn_of_wp Try.func101 rfl h8 ?_ hro
 simp only [Try.ntmps101, List.size_toArray, List.length_cons, List.length_nil, Nat.reduceAdd, Nat.reduceSub, Array.replicate_succ, Array.replicate_zero, List.push_toArray, List.append_toArray, List.nil_append, List.cons_append]
 gi_wp2
 gi_loopw [3] (fun i wr => ∃ k : Nat, k ≤ len ∧ i = .int .i64 ((k : Int) - 1) ∧ J (downFrom len (len - k)) wr ∧ KpBack Bs b off W wr)
  (fun i _ => ((intOf i) + 1).toNat)
 case atStart => exact ⟨len, Nat.le_refl _, by first | rfl | simp, by simpa [downFrom] using h0, ⟨fun _ h => h, fun _ _ h => h⟩⟩
 case round =>
  obtain ⟨k, hk, rfl, hJs, hnx⟩ := hrel
  have hBs' := hnx.1 _ hBs
  by_cases hlt : 0 < k
  ·obtain ⟨m, rfl⟩ : ∃ m, k = m + 1 := ⟨k - 1, by omega⟩
   have hx : m < len := by omega
   have hcx := hnx.2 _ _ (hc ⟨m, hx⟩)
   obtain ⟨fn, tmps, assign, body, hy, hR⟩ := hY _ ⟨m, hx⟩ wr hJs (by rw [downFrom_length _ _ (by omega)]; omega)
   dsimp only at hy
   have e1 : ((m + 1 : Nat) : Int) - 1 = (m : Int) := by omega
   have hds : downFrom len (len - m) = downFrom len (len - (m + 1)) ++ [⟨m, hx⟩] := by
    have h2 := downFrom_succ len (len - (m + 1)) (by omega)
    rw [show len - (m + 1) + 1 = len - m by omega] at h2
    rw [h2]; congr 3; omega
   rw [e1]
   have HN := Aside0.mk hnx
   clear hnx
   gi_wp2
   refine hR.mono ?_
   rintro e W3 (⟨rfl, hJ3, hk3⟩ | ⟨rfl, hJx3⟩)
   ·have HN3 := Aside0.mk hk3
    clear hk3
    gi_wp2
    go_roundw
    case rel => exact ⟨m, by omega, by first | rfl | simp, by rw [hds]; exact hJ3, HN.out.trans HN3.out⟩
    case measure => first | (simp [intOf]; done) | (simp [intOf]; omega)
   ·gi_wp2
    refine bodyPost_ret (results_none rfl _ _ _) rfl ?_
    exact ⟨⟨_, rfl⟩, .inr ⟨_, ⟨len - m, by omega, hds.symm⟩, hJx3⟩⟩
  ·obtain rfl : k = 0 := by omega
   clear hnx
   gi_wp2
   go_end0
   exact ⟨⟨_, rfl⟩, .inl ⟨_, rfl, by rw [← downFrom_all]; exact hJs⟩⟩

set_option maxHeartbeats 1000000 in
theorem backward_in (F : Fence) (n : Nat) (h5 : F.fn 80) (hro : F.round = none) (a : Option Addr) (len cap : Nat) (w : World) :
  CallsIn F n Try.prog 80 #[.slice a len cap] w fun e w' => e = .returned (.func (.func 101) #[] #[.pointer (some ⟨w.heap.size, 0, none⟩)]) ∧ w' = w.alloc (.cells #[.slice a len cap] 34) := by
 refine callsIn_of_wp Try.func80 rfl h5 ?_ hro
 simp only [Try.ntmps80, List.size_toArray, List.length_cons, List.length_nil, Nat.reduceAdd, Nat.reduceSub, Array.replicate_succ, Array.replicate_zero, List.push_toArray, List.append_toArray, List.nil_append, List.cons_append]
 have hu34 := Try.underlying34
 gi_wp2
 go_ret
 exact ⟨rfl, rfl⟩

theorem backward_stops (F : Fence) (n : Nat) (h8 : F.fn 101) (hro : F.round = none) (hn : 1 ≤ n) (Bs b off len cap : Nat) (V : Fin len → Value) (hreach : len ≤ 281474976710656) (w : World)
  (hBs : w.cell? ⟨Bs, 0, none⟩ = some (.slice (some ⟨b, off, none⟩) len cap)) (hc : ∀ j : Fin len, w.cell? ⟨b, off + j.val, none⟩ = some (V j)) :
  SeqStopsK F n Try.prog 101 #[.pointer (some ⟨Bs, 0, none⟩)] (fun x : Fin len => #[Value.int .i64 (x.val : Int), V x]) (KpBack Bs b off) (fun ys => ys = (List.finRange len).reverse)
   (fun pre => ∃ k, k ≤ len ∧ pre = downFrom len k) len w := fun l J Jx W hW _ _ hY h0 =>
 backward1_in F n h8 hro hn l Bs b off len cap V hreach J Jx hY W
  ((hW.cell (p := ⟨Bs, 0, none⟩) (World.block_lt_of_cell? w _ hBs)).trans hBs)
  (fun j => (hW.cell (p := ⟨b, off + j.val, none⟩) (World.block_lt_of_cell? w _ (hc j))).trans (hc j)) h0

/-! ways -/
theorem round_next {j n : Nat} (h : j < n) (hb : n ≤ 1000000) : wrap64 ((j : Int) + 1) = ((j + 1 : Nat) : Int) := by unfold wrap64; omega
theorem round_less {j n : Nat} (h : j < n) (hb : n ≤ 1000000) : n - (intOf (.int .i64 (wrap64 ((j : Int) + 1)))).toNat < n - (intOf (.int .i64 (j : Int))).toNat := by
 rw [round_next h hb]
 show n - ((j + 1 : Nat) : Int).toNat < n - (j : Int).toNat
 omega
def capV (a b : Int) : Int := if a > wrap64 (4611686018427387904 - b) then 4611686018427387905 else wrap64 (a + b)
theorem capped_eq (a b : Int) : dag_capped.f a b = some (capV a b) := by unfold dag_capped.f capV; split <;> rfl
/-- One arc's ways added to its node's. -/
def waysArc (arcs : List S69) (n : Int) (out : List Int) (i : Int) : List Int := out.set n.toNat (capV (rd out n) (rd out (rd_T69 arcs i).f1))
def waysNode (arcs : List S69) (B : List (List Int)) (out : List Int) (n : Nat) : List Int := (rd_L2 B n).foldl (waysArc arcs n) out
def waysFrom (arcs : List S69) (B : List (List Int)) (out : List Int) (l : List (Fin B.length)) : List Int := l.foldl (fun o n => waysNode arcs B o n.val) out
theorem waysArc_length (arcs : List S69) (n : Int) (out : List Int) (i : Int) : (waysArc arcs n out i).length = out.length := by simp [waysArc]
theorem waysArcs_length (arcs : List S69) (n : Int) (l : List Int) : ∀ out : List Int, (l.foldl (waysArc arcs n) out).length = out.length := by
 induction l with
 | nil => intro out; rfl
 | cons x xs ih => intro out; rw [List.foldl_cons, ih, waysArc_length]
theorem waysFrom_length (arcs : List S69) (B : List (List Int)) (l : List (Fin B.length)) : ∀ out : List Int, (waysFrom arcs B out l).length = out.length := by
 induction l with
 | nil => intro out; rfl
 | cons x xs ih => intro out; unfold waysFrom at *; rw [List.foldl_cons, ih]; exact waysArcs_length _ _ _ _
theorem waysFrom_snoc (arcs : List S69) (B : List (List Int)) (out : List Int) (l : List (Fin B.length)) (x : Fin B.length) : waysFrom arcs B out (l ++ [x]) = waysNode arcs B (waysFrom arcs B out l) x.val := by
 simp [waysFrom]
/-- All arcs that are listed are arcs of the graph, and lead to a node. -/
def waysSafe (arcs : List S69) (n : Nat) (B : List (List Int)) : Bool := (B.length == n) && B.all fun l => decide (l.length ≤ 1000000) && l.all fun i => decide (0 ≤ i ∧ i < (arcs.length : Int) ∧ 0 ≤ (rd_T69 arcs i).f1 ∧ (rd_T69 arcs i).f1 < (n : Int))
theorem waysSafe_at {arcs : List S69} {n : Nat} {B : List (List Int)} (h : waysSafe arcs n B = true) (x : Nat) (hx : x < B.length) (j : Nat) (hj : j < (rd_L2 B x).length) :
  (rd_L2 B x).length ≤ 1000000 ∧ 0 ≤ rd (rd_L2 B x) j ∧ rd (rd_L2 B x) j < (arcs.length : Int) ∧ 0 ≤ (rd_T69 arcs (rd (rd_L2 B x) j)).f1 ∧ (rd_T69 arcs (rd (rd_L2 B x) j)).f1 < (n : Int) := by
 simp only [waysSafe, Bool.and_eq_true, List.all_eq_true, decide_eq_true_eq] at h
 have e1 : rd_L2 B x = B[x] := by simp [rd_L2, hx]
 have e2 : rd (rd_L2 B x) j = (rd_L2 B x)[j] := by simp [rd, hj]
 rw [e2]
 have h3 := h.2 (rd_L2 B x) (by rw [e1]; exact List.getElem_mem _)
 exact ⟨h3.1, h3.2 _ (List.getElem_mem _)⟩
def dag_ways.f (k : Nat) (a0_0 : Int) (l0_1 : List (S69)) : Option (List Int) := if 0 ≤ a0_0 then (if (a0_0 : Int).toNat ≤ 35184372088832 then ((some (List.replicate (a0_0 : Int).toNat 0 : List Int)).bind fun y113 => (if 0 ≤ (wrap64 (a0_0 - 1)) then (if (wrap64 (a0_0 - 1)) < (y113.length : Int) then ((dag_byFrom.f k a0_0 l0_1).bind fun t118 => (if waysSafe l0_1 y113.length t118 = true then some (waysFrom l0_1 t118 (y113.set ((wrap64 (a0_0 - 1)) : Int).toNat 1) (List.finRange t118.length).reverse) else none)) else (none)) else (none))) else (none)) else (none)
def dag_ways.T9 : Bool × List (List Nat × List Nat) := (true, [([], []), ([], []), ([], []), ([], []), ([2, 3], [2, 3]), ([4], [4]), ([], []), ([], []), ([7], [7]), ([], []), ([8, 9], [8, 9]), ([10], [10]), ([11], [11]), ([6, 12], [6, 12]), ([13], [13]), ([5, 14], [5, 14]), ([0, 1, 0, 1, 2, 3, 4, 5, 6, 7, 8, 9, 10, 11, 12, 13, 14, 15], [0, 1]), ([16, 15, 15, 0, 1, 2, 3, 4, 5, 6, 7, 8, 9, 10, 11, 12, 13, 14, 15], [15, 16])])
def dag_ways.B9 : List Nat := [0, 0, 0, 0, 12, 28, 0, 0, 128, 0, 896, 1920, 3968, 8128, 16320, 32764, 65535, 131071]
theorem dag_ways.tab9 : rtab .any (opsOf Try.f56 9) = dag_ways.T9 := by kernel_rfl
theorem dag_ways.bits9 : waitsOk dag_ways.T9.2 dag_ways.B9 = true := by kernel_rfl
theorem dag_ways.mono : ∀ a0 a1 k, LeO (dag_ways.f k a0 a1) (dag_ways.f (k + 1) a0 a1) := by
 intro a0 a1 k
 unfold dag_ways.f
 repeat' first
   | (with_reducible exact dag_byFrom.mono _ _ _)
   | (with_reducible exact LeO.refl _)
   | (with_reducible exact LeO.none _)
   | (with_reducible refine LeO.ite ?_ ?_)
   | (with_reducible refine LeO.bind ?_ (fun _ => ?_))
   | exact dag_byFrom.mono _ _ _
   | exact LeO.none _
   | refine LeO.ite ?_ ?_
   | refine LeO.bind ?_ (fun _ => ?_)
set_option maxHeartbeats 8000000 in
set_option maxRecDepth 100000 in
theorem dag_ways.calls (k : Nat) (a0_0 : Int) (A0_1 : Option Addr) (c0_1 : Nat) (l0_1 : List (S69)) (r : List Int) (w : World) (hr0_1 : Kd.C k69 w A0_1 l0_1.length l0_1) (hc0_1 : l0_1.length ≤ c0_1) (h : dag_ways.f k a0_0 l0_1 = some r) :
  Calls Try.prog 56 #[.agg #[.int .i64 a0_0, .slice A0_1 l0_1.length c0_1]] w fun e w' => ∃ v0_ : Value, e = .returned (v0_) ∧ Kd.R (Kd.int .i64) 2 w' w.heap.size (fun _ => True) v0_ r ∧ Below w.heap.size w w' := by
 have hu24 := Try.underlying24
 have hu3 := Try.underlying3
 have hu71 := Try.underlying71
 have hu2 := Try.underlying2
 have hu22 := Try.underlying22
 have HR0_1 := Aside0.mk hr0_1
 have HC0_1 := Aside0.mk hc0_1
 clear hr0_1 hc0_1
 have HB := Aside0.mk (Below.refl w.heap.size w)
 have H : (if 0 ≤ a0_0 then (if (a0_0 : Int).toNat ≤ 35184372088832 then ((some (List.replicate (a0_0 : Int).toNat 0 : List Int)).bind fun y113 => (if 0 ≤ (wrap64 (a0_0 - 1)) then (if (wrap64 (a0_0 - 1)) < (y113.length : Int) then ((dag_byFrom.f k a0_0 l0_1).bind fun t118 => (if waysSafe l0_1 y113.length t118 = true then some (waysFrom l0_1 t118 (y113.set ((wrap64 (a0_0 - 1)) : Int).toNat 1) (List.finRange t118.length).reverse) else none)) else (none)) else (none))) else (none)) else (none)) = some r := h
 clear h
 by_cases c2 : 0 ≤ a0_0
 ·rw [if_pos c2] at H
  have c2b0 := eq_true c2
  have c2b1 : decide (0 ≤ a0_0) = true := decide_eq_true c2
  clear c2
  by_cases c3 : (a0_0 : Int).toNat ≤ 35184372088832
  ·rw [if_pos c3] at H
   have c3b0 := eq_true c3
   have c3b1 : decide ((a0_0 : Int).toNat ≤ 35184372088832) = true := decide_eq_true c3
   clear c3
   obtain ⟨y113, hy113⟩ : ∃ y_ : List Int, y_ = (List.replicate (a0_0 : Int).toNat 0) := ⟨_, rfl⟩
   replace H : (if 0 ≤ (wrap64 (a0_0 - 1)) then (if (wrap64 (a0_0 - 1)) < (y113.length : Int) then ((dag_byFrom.f k a0_0 l0_1).bind fun t118 => (if waysSafe l0_1 y113.length t118 = true then some (waysFrom l0_1 t118 (y113.set ((wrap64 (a0_0 - 1)) : Int).toNat 1) (List.finRange t118.length).reverse) else none)) else (none)) else (none)) = some r := by first | (rw [hy113]; with_reducible exact H) | (have H2_ := (Option.bind_some _ _).symm.trans H; rw [hy113]; with_reducible exact H2_) | (have H2_ := (Option.bind_some _ _).symm.trans H; with_reducible exact H2_) | with_reducible exact H | (rw [hy113]; exact H) | exact H
   have Ny113 := Aside0.mk hy113
   clear hy113
   obtain ⟨ji4, hji4⟩ : ∃ j_ : Int, (wrap64 (a0_0 - 1)) = j_ := ⟨_, rfl⟩
   replace H : (if 0 ≤ (ji4) then (if (ji4) < (y113.length : Int) then ((dag_byFrom.f k a0_0 l0_1).bind fun t118 => (if waysSafe l0_1 y113.length t118 = true then some (waysFrom l0_1 t118 (y113.set ((ji4) : Int).toNat 1) (List.finRange t118.length).reverse) else none)) else (none)) else (none)) = some r := by first | (rw [hji4] at H; exact H) | (simp only [hji4] at H ⊢; exact H)
   have hji4w : (IntKind.i64.wrap (a0_0 - 1)) = ji4 := (i64_w _).trans hji4
   by_cases c5 : 0 ≤ (ji4)
   ·rw [if_pos c5] at H
    have c5b0 : decide (0 ≤ (ji4)) = true := decide_eq_true c5
    clear c5
    by_cases c6 : (ji4) < (y113.length : Int)
    ·rw [if_pos c6] at H
     have c6b0 : decide ((ji4) < (y113.length : Int)) = true := decide_eq_true c6
     clear c6
     obtain ⟨y117, hy117⟩ : ∃ y_ : List Int, y_ = (y113.set ((ji4) : Int).toNat 1) := ⟨_, rfl⟩
     replace H : ((dag_byFrom.f k a0_0 l0_1).bind fun t118 => (if waysSafe l0_1 y113.length t118 = true then some (waysFrom l0_1 t118 y117 (List.finRange t118.length).reverse) else none)) = some r := by first | (rw [hy117]; with_reducible exact H) | (have H2_ := (Option.bind_some _ _).symm.trans H; rw [hy117]; with_reducible exact H2_) | (have H2_ := (Option.bind_some _ _).symm.trans H; with_reducible exact H2_) | with_reducible exact H | (rw [hy117]; exact H) | exact H
     have Ny117 := Aside0.mk hy117
     clear hy117
     replace H := Option.bind_eq_some_iff.mp H
     obtain ⟨t118, A80, H⟩ := H
     replace H : (if waysSafe l0_1 y113.length t118 = true then some (waysFrom l0_1 t118 y117 (List.finRange t118.length).reverse) else none) = some r := H
     have A8 := Aside0.mk A80
     clear A80
     have hs : waysSafe l0_1 y113.length t118 = true := by
      by_cases h_ : waysSafe l0_1 y113.length t118 = true
      ·exact h_
      ·rw [if_neg h_] at H; exact absurd H (by simp)
     rw [if_pos hs] at H
     obtain rfl := Option.some.inj H
     have HSF := Aside0.mk hs
     clear hs
     refine (callsIn_wide (n := 5)).1 ?_
     refine callsIn_of_wp_marks Try.func56 rfl trivial ?_ rfl
     simp only [Try.ntmps56, List.size_toArray, List.length_cons, List.length_nil, Nat.reduceAdd, Nat.reduceSub, Array.replicate_succ, Array.replicate_zero, List.push_toArray, List.append_toArray, List.nil_append, List.cons_append]
     refine wpIn_wide.2 ?_
     go_wp2_with (first | ((with_reducible refine gate_dst (N := 1) rfl ?_); refine box_event ?hg (N := 1) ?hd (cs := #[.int .i64 a0_0, .slice A0_1 l0_1.length c0_1]) (t := 24) ?hr ?_; (case hd => rfl); (case hg => rfl); (case hr => first | (go_simp; done) | (go_simp; rfl)); intro gb112 hg w9 hbox hb; have n0_ := Aside0.mk (below_step (by repeat (first | (with_reducible first | exact HB.out | apply below_alloc | apply pw_below_drewN | apply below_drew1) | exact HB.out)) hb); have n1_ := Aside0.mk (hbox); have n2_ := Aside0.mk ((by rw [hg]; exact (below_size (by repeat (first | (with_reducible first | exact HB.out | apply below_alloc | apply pw_below_drewN | apply below_drew1) | exact HB.out))) : w.heap.size ≤ gb112)); have n3_ := Aside0.mk ((by rw [hg]; exact (below_size (by repeat (first | (with_reducible first | exact HB.out | apply below_alloc | apply pw_below_drewN | apply below_drew1) | exact HB.out))) : w.heap.size ≤ gb112)); clear HB; have HB := n0_; have BK112 := n1_; have GW112 := n2_; have GE112 := n3_; clear n0_ n1_ n2_ n3_; clear hb hbox hg; have hcz10_0 : w9.cell? ⟨gb112, 0, none⟩ = some (.int .i64 a0_0) := (blk_cell BK112.out 0).trans rfl; have hcz10_1 : w9.cell? ⟨gb112, 1, none⟩ = some (.slice A0_1 l0_1.length c0_1) := (blk_cell BK112.out 1).trans rfl; have hfz10_0 := blk_frozen BK112.out 0; have hfz10_1 := blk_frozen BK112.out 1) | ((with_reducible refine gate_dst (N := 10) rfl ?_); refine Kd.R_make (Kd.int .i64) _ 2 rfl (N := 10) rfl 71 _ _ rfl a0_0 rfl rfl Try.underlying71 (.int .i64 0) 8 info2 rfl (by decide) (by omega) 0 (ok := fun _ => True) (okp := fun _ => True) rfl (fun _ hk => hk) trivial (of_decide_eq_true (by first | (with_reducible assumption) | assumption)) (Nat.le_trans (Nat.mul_le_mul_right _ (of_decide_eq_true (by first | (with_reducible assumption) | assumption) : a0_0.toNat ≤ 35184372088832)) (by omega)) (Below.refl _ _) (Nat.le_refl _) ?_; intro v114 w11 ho12 hb hg_ hnew_; clear hg_ hnew_; (first | rw [← Ny113.out] at ho12 | (simp only [Int.reduceToNat] at ho12; rw [← Ny113.out] at ho12)); have n0_ := Aside0.mk (Kd.R_lower ho12 (below_size (by repeat (first | (with_reducible first | exact HB.out | apply below_alloc | apply pw_below_drewN | apply below_drew1 | refine below_set ?_ GE112.out) | exact HB.out)))); have n1_ := Aside0.mk (blk_below (g := gb112) (o := .cells #[.int .i64 a0_0, .slice A0_1 l0_1.length c0_1] 24 (0, 0)) (by (with_reducible repeat (first | refine blk_drewN ?_ _ | refine blk_drew ?_ | refine blk_alloc ?_ _)); exact BK112.out) hb); have n2_ := Aside0.mk (below_step (by repeat (first | (with_reducible first | exact HB.out | apply below_alloc | apply pw_below_drewN | apply below_drew1 | refine below_set ?_ GE112.out) | exact HB.out)) hb); clear BK112; clear HB; have HO115 := n0_; have BK112 := n1_; have HB := n2_; clear n0_ n1_ n2_; clear hb ho12) | ((with_reducible refine gate_dst (N := 3) rfl ?_); refine box_event ?hg (N := 3) ?hd (cs := #[.slice none 0 0]) (t := 71) ?hr ?_; (case hd => rfl); (case hg => rfl); (case hr => first | (go_simp; done) | (go_simp; rfl)); intro gb116 hg w13 hbox hb; have n0_ := Aside0.mk (Kd.R_below (by (with_reducible repeat (first | apply Kd.R_alloc | apply Kd.R_drewN | apply Kd.R_drew)); exact HO115.out) hb); have n1_ := Aside0.mk (blk_below (g := gb112) (o := .cells #[.int .i64 a0_0, .slice A0_1 l0_1.length c0_1] 24 (0, 0)) (by (with_reducible repeat (first | refine blk_drewN ?_ _ | refine blk_drew ?_ | refine blk_alloc ?_ _)); exact BK112.out) hb); have n2_ := Aside0.mk (below_step (by repeat (first | (with_reducible first | exact HB.out | apply below_alloc | apply pw_below_drewN | apply below_drew1 | refine below_set ?_ GE112.out) | exact HB.out)) hb); have n3_ := Aside0.mk (hbox); have n4_ := Aside0.mk ((by rw [hg]; exact (below_size (by repeat (first | (with_reducible first | exact HB.out | apply below_alloc | apply pw_below_drewN | apply below_drew1 | refine below_set ?_ GE112.out) | exact HB.out))) : w.heap.size ≤ gb116)); have n5_ := Aside0.mk ((by rw [hg]; exact (below_size (by repeat (first | (with_reducible first | exact HB.out | apply below_alloc | apply pw_below_drewN | apply below_drew1 | refine below_set ?_ GE112.out) | exact HB.out))) : w.heap.size ≤ gb116)); have n6_ := Aside0.mk ((by rw [hg]; exact Nat.ne_of_lt (blk_lt (g := gb112) (o := .cells #[.int .i64 a0_0, .slice A0_1 l0_1.length c0_1] 24 (0, 0)) (by (with_reducible repeat (first | refine blk_drewN ?_ _ | refine blk_drew ?_ | refine blk_alloc ?_ _)); exact BK112.out)) : gb112 ≠ gb116)); have n7_ := Aside0.mk ((by rw [hg]; exact Nat.ne_of_gt (blk_lt (g := gb112) (o := .cells #[.int .i64 a0_0, .slice A0_1 l0_1.length c0_1] 24 (0, 0)) (by (with_reducible repeat (first | refine blk_drewN ?_ _ | refine blk_drew ?_ | refine blk_alloc ?_ _)); exact BK112.out)) : gb116 ≠ gb112)); clear HO115; clear BK112; clear HB; have HO115 := n0_; have BK112 := n1_; have HB := n2_; have BK116 := n3_; have GW116 := n4_; have GE116 := n5_; have NB112_116 := n6_; have NB116_112 := n7_; clear n0_ n1_ n2_ n3_ n4_ n5_ n6_ n7_; clear hb hbox hg; obtain ⟨Ao14, co14, eo14⟩ := Kd.R_slice HO115.out; subst eo14; have hnb15 := NB116_112.out; have hnc15 := NB112_116.out; have hcz16_0 : w13.cell? ⟨gb116, 0, none⟩ = some (.slice none 0 0) := (blk_cell BK116.out 0).trans rfl; have hfz16_0 := blk_frozen BK116.out 0) | ((with_reducible refine gate_store (t := 71) (p := 3) rfl ?_); refine store_event (t := 71) (p := 3) (v := ?vo_w17) (w1 := (w13.setCell ⟨gb116, 0, none⟩ (.slice Ao14 y113.length co14))) ?hg ?ho ?hn ?hr ?_; (case ho => rfl); (case hg => rfl); (case hn => rfl); (case hr => first | (go_simp; done) | (go_simp; rfl)); intro w17 hw; have n0_ : Aside0 (Kd.R (Kd.int .i64) 2 w17 w.heap.size (fun _ => True) (.slice Ao14 y113.length co14) y113) := ⟨(by rw [hw]; exact (by (with_reducible repeat (first | apply Kd.R_alloc | apply Kd.R_drewN | apply Kd.R_drew)); exact Kd.R_mono (Kd.R_far (p := ⟨gb116, 0, none⟩) (Kd.R_types HO115.out BK116.out (by decide)) (fun _ hk => hk.2) (.slice Ao14 y113.length co14)) (fun _ hk => trivial)))⟩; have n1_ : Aside0 (w17.heap[gb112]? = some (.cells #[.int .i64 a0_0, .slice A0_1 l0_1.length c0_1] 24 (0, 0))) := ⟨(by rw [hw]; exact (by (with_reducible repeat (first | refine blk_drewN ?_ _ | refine blk_drew ?_ | refine blk_alloc ?_ _)); refine blk_far ?_ NB112_116.out _; (with_reducible repeat (first | refine blk_drewN ?_ _ | refine blk_drew ?_ | refine blk_alloc ?_ _)); exact BK112.out))⟩; have n2_ : Aside0 (w17.heap[gb116]? = some (.cells #[.slice Ao14 y113.length co14] 71 (0, 0))) := ⟨(by rw [hw]; exact (by (with_reducible repeat (first | refine blk_drewN ?_ _ | refine blk_drew ?_ | refine blk_alloc ?_ _)); refine blk_put (cs := #[.slice none 0 0]) ?_ 0 _ rfl; (with_reducible repeat (first | refine blk_drewN ?_ _ | refine blk_drew ?_ | refine blk_alloc ?_ _)); exact BK116.out))⟩; have n3_ : Aside0 (Below w.heap.size w w17) := ⟨(by rw [hw]; exact (by repeat (first | (with_reducible first | exact HB.out | apply below_alloc | apply pw_below_drewN | apply below_drew1 | refine below_set ?_ GE112.out | refine below_set ?_ GE116.out) | exact HB.out)))⟩; clear hw; clear HO115; clear BK112; clear BK116; clear HB; have HO115 := n0_; have BK112 := n1_; have BK116 := n2_; have HB := n3_; clear n0_ n1_ n2_ n3_; have hcz18_0 : w17.cell? ⟨gb116, 0, none⟩ = some (.slice Ao14 y113.length co14) := (blk_cell BK116.out 0).trans rfl; have hfz18_0 := blk_frozen BK116.out 0; have hcz19_0 : w17.cell? ⟨gb112, 0, none⟩ = some (.int .i64 a0_0) := (blk_cell BK112.out 0).trans rfl; have hcz19_1 : w17.cell? ⟨gb112, 1, none⟩ = some (.slice A0_1 l0_1.length c0_1) := (blk_cell BK112.out 1).trans rfl; have hfz19_0 := blk_frozen BK112.out 0; have hfz19_1 := blk_frozen BK112.out 1; have p7 : 0 ≤ ((ji4) : Int) := of_decide_eq_true (by first | (with_reducible assumption) | assumption); have q7 : ((ji4) : Int) < ((y113.length : Int) : Int) := of_decide_eq_true (by first | (with_reducible assumption) | assumption); obtain ⟨go7, co7, eo7, gb7, gl7, cl7, HG7⟩ := Kd.R_form HO115.out (by omega); (first | cases eo7 | (injection eo7 with ea_ en_ ec_; (first | subst ea_ | (injection ea_ with ea_; subst ea_)); subst ec_; clear en_)); have GB7 := Aside0.mk gb7; have GG7 := Aside0.mk HG7; clear gb7 gl7 HG7; obtain ⟨hx7_0, hf7_0⟩ := Kd.R_celln 0 HO115.out ((ji4) : Int) p7 q7; replace p7 := eq_true p7; replace q7 := eq_true q7; obtain ⟨hy20_, hz20_⟩ := Kd.R_celln 0 HO115.out ((ji4) : Int) (of_decide_eq_true (by first | (with_reducible assumption) | assumption)) (of_decide_eq_true (by first | (with_reducible assumption) | assumption)); have HP20 := Kd.R_putg HO115.out ((ji4) : Int) 1) | ((with_reducible refine gate_store (t := 2) (p := 15) rfl ?_); refine store_event (t := 2) (p := 15) (v := ?vo_w21) (w1 := (w17.setCell ⟨go7, ((ji4) : Int).toNat, none⟩ (.int .i64 1))) ?hg ?ho ?hn ?hr ?_; (case ho => rfl); (case hg => rfl); (case hn => rfl); (case hr => first | (go_simp; done) | (go_simp; rfl)); intro w21 hw; have hg : w17.grownBy w21 (some go7) := (by rw [hw]; exact HP20.2); have hp_ : Kd.R (Kd.int .i64) 2 w21 w.heap.size (fun _ => True) (.slice (some ⟨go7, 0, none⟩) y113.length co14) y117 := (by rw [hw, Ny117.out]; exact HP20.1); clear HP20; have n0_ := Aside0.mk (blk_grown (g := gb112) (o := .cells #[.int .i64 a0_0, .slice A0_1 l0_1.length c0_1] 24 (0, 0)) (by (with_reducible repeat (first | refine blk_drewN ?_ _ | refine blk_drew ?_ | refine blk_alloc ?_ _)); exact BK112.out) hg (Kd.R_ne HO115.out BK112.out (by decide))); have n1_ := Aside0.mk (hp_); have n2_ := Aside0.mk (blk_grown (g := gb116) (o := .cells #[.slice (some ⟨go7, 0, none⟩) y113.length co14] 71 (0, 0)) (by (with_reducible repeat (first | refine blk_drewN ?_ _ | refine blk_drew ?_ | refine blk_alloc ?_ _)); exact BK116.out) hg (Kd.R_ne HO115.out BK116.out (by decide))); have n3_ := Aside0.mk ((by rw [hw]; exact below_set (HB.out) GB7.out : Below w.heap.size w w21)); clear BK112; clear HO115; clear BK116; clear HB; have BK112 := n0_; have HO115 := n1_; have BK116 := n2_; have HB := n3_; clear n0_ n1_ n2_ n3_; clear hg hw hp_; have hcz22_0 : w21.cell? ⟨gb112, 0, none⟩ = some (.int .i64 a0_0) := (blk_cell BK112.out 0).trans rfl; have hcz22_1 : w21.cell? ⟨gb112, 1, none⟩ = some (.slice A0_1 l0_1.length c0_1) := (blk_cell BK112.out 1).trans rfl; have hfz22_0 := blk_frozen BK112.out 0; have hfz22_1 := blk_frozen BK112.out 1) | ((with_reducible refine gate_callee (f := 58) rfl ?_); refine goesL_ (some 17) rfl rfl Try.func58 (by kernel_rfl) rfl #[.agg #[.int .i64 a0_0, .slice A0_1 l0_1.length c0_1]] rfl (by (try simp only [List.map_toArray, List.map_cons, List.map_nil]); first | done | rfl | (simp only [List.length_drop, List.length_take]; rfl)) ?_; (with_reducible refine (dag_byFrom.calls k a0_0 _ _ l0_1 t118 _ ?side1 ?side2 A8.out).mono ?_); (case side1 => repeat (first | exact (Kd.C_below HR0_1.out HB.out) | (with_reducible refine Kd.C_alloc ?_ _) | (with_reducible refine Kd.C_drewN ?_ _) | (with_reducible refine Kd.C_drew ?_))); (case side2 => exact HC0_1.out); rintro e w23 ⟨v119, rfl, ho0, hb⟩; refine ⟨_, rfl, ?_⟩; have n0_ := Aside0.mk (Kd.R_below (by (with_reducible repeat (first | apply Kd.R_alloc | apply Kd.R_drewN | apply Kd.R_drew)); exact HO115.out) hb); have n1_ := Aside0.mk (Kd.S_lower ho0 (below_size (by repeat (first | (with_reducible first | exact HB.out | apply below_alloc | apply pw_below_drewN | apply below_drew1 | refine below_set ?_ GE112.out | refine below_set ?_ GE116.out) | exact HB.out)))); have n2_ := Aside0.mk (blk_below (g := gb112) (o := .cells #[.int .i64 a0_0, .slice A0_1 l0_1.length c0_1] 24 (0, 0)) (by (with_reducible repeat (first | refine blk_drewN ?_ _ | refine blk_drew ?_ | refine blk_alloc ?_ _)); exact BK112.out) hb); have n3_ := Aside0.mk (blk_below (g := gb116) (o := .cells #[.slice (some ⟨go7, 0, none⟩) y113.length co14] 71 (0, 0)) (by (with_reducible repeat (first | refine blk_drewN ?_ _ | refine blk_drew ?_ | refine blk_alloc ?_ _)); exact BK116.out) hb); have n4_ := Aside0.mk (below_step (by repeat (first | (with_reducible first | exact HB.out | apply below_alloc | apply pw_below_drewN | apply below_drew1 | refine below_set ?_ GE112.out | refine below_set ?_ GE116.out) | exact HB.out)) hb); clear HO115; clear BK112; clear BK116; clear HB; have HO115 := n0_; have HO120 := n1_; have BK112 := n2_; have BK116 := n3_; have HB := n4_; clear n0_ n1_ n2_ n3_ n4_; (try clear hb); (try clear hb2); (try clear hk); (try clear hi); (try clear ho0); have hcz24_0 : w23.cell? ⟨gb116, 0, none⟩ = some (.slice (some ⟨go7, 0, none⟩) y113.length co14) := (blk_cell BK116.out 0).trans rfl; have hfz24_0 := blk_frozen BK116.out 0))
     have hlB : t118.length = y113.length := by have h_ := HSF.out; simp only [waysSafe, Bool.and_eq_true, beq_iff_eq] at h_; exact h_.1
     have hj0 : 0 ≤ ji4 := of_decide_eq_true c5b0
     have hj1 : ji4 < (y113.length : Int) := of_decide_eq_true c6b0
     have hposB : 0 < t118.length := by omega
     obtain ⟨gB, cB, rfl, gbB, glB, clB, HGB⟩ := Kd.S_form HO120.out hposB
     have HLB := Aside0.mk hlB
     clear hlB
     go_at_call 80
     refine ((callsIn_wide (n := 3)).1 (backward_in Fence.wide 3 trivial rfl _ _ _ _)).mono ?_
     rintro e w25 ⟨rfl, hw25⟩
     have hb25 : Below w23.heap.size w23 w25 := by rw [hw25]; exact below_alloc (Below.refl _ _) _
     have hBs0 : w25.cell? ⟨w23.heap.size, 0, none⟩ = some (.slice (some ⟨gB, 0, none⟩) t118.length cB) := by rw [hw25]; exact (blk_cell (heap_alloc_new w23 _) 0).trans rfl
     clear hw25
     have HO2 := Aside0.mk (Kd.R_below HO115.out hb25)
     have HNE7 : Aside0 (go7 ≠ w23.heap.size) := ⟨by obtain ⟨cs, hb⟩ := Kd.R_typed HO115.out go7 rfl; exact Nat.ne_of_lt (blk_lt hb)⟩
     have HS2 := Aside0.mk (Kd.S_below HO120.out hb25)
     have BK112b := Aside0.mk (blk_below BK112.out hb25)
     have BK116b := Aside0.mk (blk_below BK116.out hb25)
     have HB2 := Aside0.mk (below_step HB.out hb25)
     clear HO115 HO120 BK112 BK116 HB
     obtain ⟨V, hVdef⟩ : ∃ V : Fin t118.length → Value, V = fun j => (w25.cell? ⟨gB, j.val, none⟩).getD undef := ⟨_, rfl⟩
     have hV : ∀ (W : World), Kd.S (Kd.slice 3 (Kd.int .i64)) 25 W w.heap.size (fun _ => True) (.slice (some ⟨gB, 0, none⟩) t118.length cB) t118 → ∀ j : Fin t118.length, ∃ A c, W.cell? ⟨gB, j.val, none⟩ = some (.slice A (rd_L2 t118 j.val).length c) ∧ (rd_L2 t118 j.val).length ≤ c ∧ (Kd.int .i64).C W A (rd_L2 t118 j.val).length (rd_L2 t118 j.val) := by
      intro W h j
      obtain ⟨ad, A, c, e, h1, h2, h3⟩ := at_L2 (Kd.S_reads' h).2.2 (j.val : Int) (by omega) (by have := j.isLt; omega)
      cases e
      simp only [add_plain, Int.toNat_natCast] at h1
      exact ⟨A, c, h1, h2, h3⟩
     have HV := Aside0.mk hV
     clear hV
     have hVc : ∀ j : Fin t118.length, w25.cell? ⟨gB, 0 + j.val, none⟩ = some (V j) := by
      intro j
      obtain ⟨A, c, h1, _, _⟩ := HV.out _ HS2.out j
      simp only [hVdef, Nat.zero_add, h1, Option.getD_some]
     have HVC := Aside0.mk hVc
     clear hVc hVdef
     have HBS0 := Aside0.mk hBs0
     clear hBs0
     have HB25 := Aside0.mk hb25
     clear hb25
     go_wp2
     refine (wpIn_wide (n := 5)).1 ?_
     refine wpIn_rangeFunc_ownF (n := 5) rfl (by omega) (gf := 101) (lb := #[.pointer (some ⟨w23.heap.size, 0, none⟩)]) rfl trivial (enters_of Try.func101 (by kernel_rfl) rfl)
      (backward_stops Fence.wide 4 trivial rfl (by omega) w23.heap.size gB 0 t118.length cB V (by have := HLB.out; have h3 := of_decide_eq_true c3b1; have h4 : y113.length = a0_0.toNat := (by rw [Ny113.out]; simp); omega) w25 HBS0.out HVC.out)
      KpBack.trans (fun W l o o' _ h ho _ => KpBack.put W l o o' h ho) (Below.refl _ _) (fun _ => rfl)
      (fun (pre : List (Fin t118.length)) (W : World) => W.heap[gb112]? = some (.cells #[.int .i64 a0_0, .slice A0_1 l0_1.length c0_1] 24 (0, 0)) ∧ W.heap[gb116]? = some (.cells #[.slice (some ⟨go7, 0, none⟩) y113.length co14] 71 (0, 0)) ∧ Kd.R (Kd.int .i64) 2 W w.heap.size (fun _ => True) (.slice (some ⟨go7, 0, none⟩) y113.length co14) (waysFrom l0_1 t118 y117 pre) ∧ Kd.S (Kd.slice 3 (Kd.int .i64)) 25 W w.heap.size (fun _ => True) (.slice (some ⟨gB, 0, none⟩) t118.length cB) t118 ∧ (∀ j : Fin t118.length, W.cell? ⟨gB, 0 + j.val, none⟩ = some (V j)) ∧ Below w.heap.size w W)
      (fun _ _ _ => False) ?hI (fun _ _ _ _ _ h _ _ => h) ⟨BK112b.out, BK116b.out, HO2.out, HS2.out, HVC.out, HB2.out⟩
      (fun x => { tmps := #[.agg #[.int .i64 a0_0, .slice A0_1 l0_1.length c0_1], .pointer (some ⟨gb112, 0, none⟩), .slice none 0 0, .pointer (some ⟨gb116, 0, none⟩), .int .i64 (x.val : Int), V x, undef, undef, .pointer (some ⟨gb112, 0, none⟩), .int .i64 a0_0, .slice (some ⟨go7, 0, none⟩) y113.length co14, .slice (some ⟨go7, 0, none⟩) y113.length co14, .pointer (some ⟨gb112, 0, none⟩), .int .i64 a0_0, .int .i64 ji4, .pointer (some ⟨go7, ji4.toNat, none⟩), .agg #[.int .i64 a0_0, .slice A0_1 l0_1.length c0_1], .slice (some ⟨gB, 0, none⟩) t118.length cB, .func (.func 101) #[] #[.pointer (some ⟨w23.heap.size, 0, none⟩)], .int .i64 (x.val : Int), V x, undef, undef, undef, undef, undef, undef, undef, undef, undef, undef, undef, undef, undef, undef, undef, undef, undef, undef, undef, undef, undef, undef, undef, undef, undef], defers := [] }) ?assign ?body ?done ?stop
     case hI =>
      as_aux_lemma =>
      rintro pre A B row ⟨h1, h2, h3, h4, h5, h6⟩ hg hr
      have hne : ∀ {g : Nat} {cs : Array Value} {t : Nat}, A.heap[g]? = some (.cells cs t (0, 0)) → some g ≠ row := by
       intro g cs t hb e
       obtain ⟨_, o, ho, hc⟩ := hr g e.symm
       rw [hb] at ho
       cases ho
       simp [Obj.isCells] at hc
      refine ⟨blk_grown h1 hg (hne h1), blk_grown h2 hg (hne h2), ?_, ?_, ?_, ?_⟩
      ·exact Kd.R_mono (Kd.R_grown (Kd.R_bound h3) hg (fun k hk => by obtain ⟨_, _, _, q, _, cs, hb⟩ := hk; exact hne hb)) (fun _ _ => trivial)
      ·exact Kd.S_mono (Kd.S_grown (Kd.S_bound h4) hg (fun k hk => by obtain ⟨_, _, _, q, _, cs, hb⟩ := hk; exact hne hb)) (fun _ _ => trivial)
      ·exact fun j => cell_kept (h5 j) hg (fun r e => (hr r e).2)
      ·have h7 := HB2.out.size
       exact h6.grown hg h6.size (fun k e => Nat.le_trans h7 (hr k e).1)
     case assign =>
      intro l x W K hK
      gi_wp2
      exact hK
     case body =>
      as_aux_lemma =>
      rintro l pre x W ⟨BK112, BK116, HO, HS, hVW, HB⟩ hlen
      obtain ⟨A9_1, c9_1, hx0, hc9, hr9⟩ := HV.out W HS x
      have hVx : V x = .slice A9_1 (rd_L2 t118 x.val).length c9_1 := by
       have h1 := hVW x
       rw [Nat.zero_add, hx0] at h1
       exact (Option.some.inj h1).symm
      rw [hVx]
      have HVX := Aside0.mk hVx
      clear hVx hx0
      have BK112w := Aside0.mk BK112
      have BK116w := Aside0.mk BK116
      have HOw := Aside0.mk HO
      have HSw := Aside0.mk HS
      have HVw := Aside0.mk hVW
      have HBw := Aside0.mk HB
      have HR9 := Aside0.mk hr9
      have HC9 := Aside0.mk hc9
      clear BK112 BK116 HO HS hVW HB hr9 hc9
      gi_wp2
      gi_loopw [23] (fun v23 wr => ∃ j : Nat, j ≤ (rd_L2 t118 x.val).length ∧ v23 = .int .i64 (j : Int) ∧ Aside0 (wr.heap[gb112]? = some (.cells #[.int .i64 a0_0, .slice A0_1 l0_1.length c0_1] 24 (0, 0))) ∧ Aside0 (wr.heap[gb116]? = some (.cells #[.slice (some ⟨go7, 0, none⟩) y113.length co14] 71 (0, 0))) ∧ Aside0 (Kd.R (Kd.int .i64) 2 wr w.heap.size (fun _ => True) (.slice (some ⟨go7, 0, none⟩) y113.length co14) (((rd_L2 t118 x.val).take j).foldl (waysArc l0_1 (x.val : Int)) (waysFrom l0_1 t118 y117 pre))) ∧ Aside0 (Kd.S (Kd.slice 3 (Kd.int .i64)) 25 wr w.heap.size (fun _ => True) (.slice (some ⟨gB, 0, none⟩) t118.length cB) t118) ∧ Aside0 (∀ j : Fin t118.length, wr.cell? ⟨gB, 0 + j.val, none⟩ = some (V j)) ∧ Aside0 (Below w.heap.size w wr) ∧ Aside0 (KeepsOthers W wr) ∧ Aside0 (KpBack w23.heap.size gB 0 W wr))
       (fun v23 _ => (rd_L2 t118 x.val).length - (intOf v23).toNat)
      case atStart => exact ⟨0, Nat.zero_le _, by first | rfl | simp, BK112w, BK116w, by simpa using HOw, HSw, HVw, HBw, ⟨KeepsOthers.refl _⟩, ⟨fun _ h => h, fun _ _ h => h⟩⟩
      case round =>
       obtain ⟨j, hj, rfl, BK112, BK116, HO, HS, HVW, HB, HK, HKP⟩ := hrel
       by_cases hlt : j < (rd_L2 t118 x.val).length
       ·have hsafe := waysSafe_at HSF.out x.val x.isLt j hlt
        obtain ⟨p0, p1, p2, p3, p4⟩ := hsafe
        have P0 := Aside0.mk p0
        clear p0
        have hxl : (x.val : Int) < (y113.length : Int) := by have h1 := x.isLt; have h2 := HLB.out; omega
        obtain ⟨A2, c2, hx0, hc2, hr2⟩ := HV.out wr HS.out x
        have e0 : (Value.slice A2 (rd_L2 t118 x.val).length c2) = .slice A9_1 (rd_L2 t118 x.val).length c9_1 := by
         have h1 := HVW.out x
         rw [Nat.zero_add, hx0, HVX.out] at h1
         exact Option.some.inj h1
        injection e0 with eA _ ec
        subst eA
        subst ec
        clear hx0
        obtain ⟨x1, hx1⟩ : ∃ x1, x1 = ((rd_L2 t118 x.val).take j).foldl (waysArc l0_1 (x.val : Int)) (waysFrom l0_1 t118 y117 pre) := ⟨_, rfl⟩
        rw [← hx1] at HO
        have hlen1 : x1.length = y113.length := by rw [hx1, waysArcs_length, waysFrom_length, Ny117.out]; simp
        have HX1 := Aside0.mk hx1
        have HLEN1 := Aside0.mk hlen1
        clear hx1
        have hxl1 : (x.val : Int) < (x1.length : Int) := by omega
        have hto1 : (rd_T69 l0_1 (rd (rd_L2 t118 x.val) (j : Int))).f1 < (x1.length : Int) := by omega
        clear hlen1
        obtain ⟨ad121, e121, hx121_0⟩ := Kd.at_int hr2 (j : Int) (by omega) (by omega)
        cases e121
        simp only [Int.toNat_natCast] at hx121_0
        have hx122_0 := (Kd.R_celln 0 HO.out (x.val : Int) (by omega) hxl).1
        simp only [Int.toNat_natCast] at hx122_0
        have hx124_0 := (Kd.R_celln 0 HO.out ((rd_T69 l0_1 (rd (rd_L2 t118 x.val) (j : Int))).f1) p3 p4).1
        obtain ⟨ad123, e123, hx123_0, hx123_1, hx123_2⟩ := at_T69 HR0_1.out (rd (rd_L2 t118 x.val) (j : Int)) p1 p2
        have hw123_2 := hx123_2
        have hw123_1 := hx123_1
        have hw123_0 := hx123_0
        cases e123
        replace hx123_0 := (HB.out.cell (World.block_lt_of_cell? w _ hx123_0)).trans hx123_0
        replace hx123_1 := (HB.out.cell (World.block_lt_of_cell? w _ hx123_1)).trans hx123_1
        replace hx123_2 := (HB.out.cell (World.block_lt_of_cell? w _ hx123_2)).trans hx123_2
        have t0 : decide ((j : Int) < ((rd_L2 t118 x.val).length : Int)) = true := decide_eq_true (by omega)
        have t1 : decide (j < (rd_L2 t118 x.val).length) = true := decide_eq_true hlt
        have t2 : decide (0 ≤ (x.val : Int)) = true := decide_eq_true (by omega)
        have t3 : decide ((x.val : Int) < (y113.length : Int)) = true := decide_eq_true hxl
        have t3' : decide (x.val < y113.length) = true := decide_eq_true (by omega)
        have t4 : decide (0 ≤ rd (rd_L2 t118 x.val) (j : Int)) = true := decide_eq_true p1
        have t5 : decide (rd (rd_L2 t118 x.val) (j : Int) < (l0_1.length : Int)) = true := decide_eq_true p2
        have t6 : decide (0 ≤ (rd_T69 l0_1 (rd (rd_L2 t118 x.val) (j : Int))).f1) = true := decide_eq_true p3
        have t7 : decide ((rd_T69 l0_1 (rd (rd_L2 t118 x.val) (j : Int))).f1 < (y113.length : Int)) = true := decide_eq_true p4
        gi_wp2
        as_aux_lemma =>
        have n0_ := Aside0.mk (Kd.R_drew HO.out)
        have n1_ := Aside0.mk (Kd.S_drew HS.out)
        have n2_ := Aside0.mk (blk_drew BK112.out)
        have n3_ := Aside0.mk (blk_drew BK116.out)
        have n4_ := Aside0.mk (below_drew1 HB.out)
        have n5_ : Aside0 (∀ j : Fin t118.length, wr.drew.cell? ⟨gB, 0 + j.val, none⟩ = some (V j)) := HVW
        have n6_ : Aside0 (KeepsOthers W wr.drew) := ⟨HK.out.trans (KeepsOthers.drew _)⟩
        have n7_ : Aside0 (KpBack w23.heap.size gB 0 W wr.drew) := HKP
        clear HO HS BK112 BK116 HB HVW HK HKP
        have HO := n0_
        have HS := n1_
        have BK112 := n2_
        have BK116 := n3_
        have HB := n4_
        have HVW := n5_
        have HK := n6_
        have HKP := n7_
        clear n0_ n1_ n2_ n3_ n4_ n5_ n6_ n7_
        obtain ⟨t125, ht125⟩ : ∃ t125, t125 = capV (rd x1 (x.val : Int)) (rd x1 ((rd_T69 l0_1 (rd (rd_L2 t118 x.val) (j : Int))).f1)) := ⟨_, rfl⟩
        have A33 : dag_capped.f (rd x1 (x.val : Int)) (rd x1 ((rd_T69 l0_1 (rd (rd_L2 t118 x.val) (j : Int))).f1)) = some t125 := by rw [ht125]; exact capped_eq _ _
        have HT125 := Aside0.mk ht125
        clear ht125
        have HA33 := Aside0.mk A33
        clear A33
        refine Bridge.start_in (n := 18) (S := fun w' => w'.cell? ⟨gb116, 0, none⟩ = some (.slice (some ⟨go7, 0, none⟩) y113.length co14) ∧ w'.cell? ⟨gb112, 0, none⟩ = some (.int .i64 a0_0) ∧ w'.cell? ⟨gb112, 1, none⟩ = some (.slice (some ad123) l0_1.length c0_1) ∧ w'.cell? ⟨go7, x.val, none⟩ = some (.int .i64 (rd x1 (x.val : Int))) ∧ w'.cell? (ad123.add (((rd (rd_L2 t118 x.val) (j : Int))).toNat * 3)) = some (.int .i64 ((rd_T69 l0_1 (rd (rd_L2 t118 x.val) (j : Int))).f0)) ∧ w'.cell? ⟨(ad123.add (((rd (rd_L2 t118 x.val) (j : Int))).toNat * 3)).block, (ad123.add (((rd (rd_L2 t118 x.val) (j : Int))).toNat * 3)).off + 1, none⟩ = some (.int .i64 ((rd_T69 l0_1 (rd (rd_L2 t118 x.val) (j : Int))).f1)) ∧ w'.cell? ⟨(ad123.add (((rd (rd_L2 t118 x.val) (j : Int))).toNat * 3)).block, (ad123.add (((rd (rd_L2 t118 x.val) (j : Int))).toNat * 3)).off + 2, none⟩ = some (.int .i64 ((rd_T69 l0_1 (rd (rd_L2 t118 x.val) (j : Int))).f2)) ∧ w'.cell? ⟨go7, (((rd_T69 l0_1 (rd (rd_L2 t118 x.val) (j : Int))).f1)).toNat, none⟩ = some (.int .i64 (rd x1 ((rd_T69 l0_1 (rd (rd_L2 t118 x.val) (j : Int))).f1)))) (ds := [17]) #[false, false, false, false, false, false, false, false, false, false, false, false, false, false, false, false, false, false] (by kernel_rfl) (by kernel_rfl) (by rintro ⟨_, _, h⟩; exact h) rfl rfl ⟨(blk_cell BK116.out 0).trans rfl, (blk_cell BK112.out 0).trans rfl, (blk_cell BK112.out 1).trans rfl, hx122_0, ((HB.out.cell (World.block_lt_of_cell? w _ hw123_0)).trans hw123_0), ((HB.out.cell (World.block_lt_of_cell? w _ hw123_1)).trans hw123_1), ((HB.out.cell (World.block_lt_of_cell? w _ hw123_2)).trans hw123_2), hx124_0⟩ (fun hHeld => ?_); refine with_tabW dag_ways.tab9 dag_ways.bits9 (fun HT_ HW_ => ?_)
        generalize hw35 : wr.drew = w35 at HO HS HVW BK112 BK116 HB HK HKP hx122_0 hx123_0 hx123_1 hx123_2 hx124_0 hHeld ⊢
        refine pure_ (i := 1) (N := some 28) (v := ?_) (a' := ?_) #[false, true, false, false, false, false, false, false, false, false, false, false, false, false, false, false, false, false] rfl rfl (any_of HT_.out (by kernel_rfl)) (fun _ _ _ h => h) (Or.inl ⟨by rfl, ?_⟩) ?_ ?_
        rotate_left
        ·intro w'
         go_simp
         with_reducible rfl
        rotate_left
        ·simp only [Act.put, List.setIfInBounds_toArray, List.set_cons_zero, List.set_cons_succ, i64_w, i32_w]
         rfl
        refine pure_ (i := 3) (N := some 30) (v := ?_) (a' := ?_) #[false, true, false, true, false, false, false, false, false, false, false, false, false, false, false, false, false, false] rfl rfl (any_of HT_.out (by kernel_rfl)) (fun _ _ _ h => h) (Or.inl ⟨by rfl, ?_⟩) ?_ ?_
        rotate_left
        ·intro w'
         go_simp
         with_reducible rfl
        rotate_left
        ·simp only [Act.put, List.setIfInBounds_toArray, List.set_cons_zero, List.set_cons_succ, i64_w, i32_w]
         rfl
        refine pure_ (i := 7) (N := some 34) (v := ?_) (a' := ?_) #[false, true, false, true, false, false, false, true, false, false, false, false, false, false, false, false, false, false] rfl rfl (any_of HT_.out (by kernel_rfl)) (fun _ _ _ h => h) (Or.inl ⟨by rfl, ?_⟩) ?_ ?_
        rotate_left
        ·intro w'
         go_simp
         with_reducible rfl
        rotate_left
        ·simp only [Act.put, List.setIfInBounds_toArray, List.set_cons_zero, List.set_cons_succ, i64_w, i32_w]
         rfl
        refine pure_ (i := 9) (N := some 36) (v := ?_) (a' := ?_) #[false, true, false, true, false, false, false, true, false, true, false, false, false, false, false, false, false, false] rfl rfl (any_of HT_.out (by kernel_rfl)) (fun _ _ _ h => h) (Or.inl ⟨by rfl, ?_⟩) ?_ ?_
        rotate_left
        ·intro w'
         go_simp
         with_reducible rfl
        rotate_left
        ·simp only [Act.put, List.setIfInBounds_toArray, List.set_cons_zero, List.set_cons_succ, i64_w, i32_w]
         rfl
        refine take_ (i := 0) (N := some 27) (v := ?_) (a' := ?_) #[true, true, false, true, false, false, false, true, false, true, false, false, false, false, false, false, false, false] rfl rfl (take_ofW HT_.out HW_.out (by kernel_rfl)) (fun _ _ _ h => h) (Or.inl ⟨by rfl, ?_⟩) hHeld ?_ ?_
        rotate_left
        ·rintro w' ⟨s0, s1, s2, s3, s4, s5, s6, s7⟩
         go_simp
         with_reducible rfl
        rotate_left
        ·simp only [Act.put, List.setIfInBounds_toArray, List.set_cons_zero, List.set_cons_succ, i64_w, i32_w]
         rfl
        refine take_ (i := 2) (N := some 29) (v := ?_) (a' := ?_) #[true, true, true, true, false, false, false, true, false, true, false, false, false, false, false, false, false, false] rfl rfl (take_ofW HT_.out HW_.out (by kernel_rfl)) (fun _ _ _ h => h) (Or.inl ⟨by rfl, ?_⟩) hHeld ?_ ?_
        rotate_left
        ·rintro w' ⟨s0, s1, s2, s3, s4, s5, s6, s7⟩
         go_simp
         with_reducible rfl
        rotate_left
        ·simp only [Act.put, List.setIfInBounds_toArray, List.set_cons_zero, List.set_cons_succ, i64_w, i32_w]
         rfl
        refine pure_ (i := 4) (N := some 31) (v := ?_) (a' := ?_) #[true, true, true, true, true, false, false, true, false, true, false, false, false, false, false, false, false, false] rfl rfl (any_of HT_.out (by kernel_rfl)) (fun _ _ _ h => h) (Or.inl ⟨by rfl, ?_⟩) ?_ ?_
        rotate_left
        ·intro w'
         go_simp
         with_reducible rfl
        rotate_left
        ·simp only [Act.put, List.setIfInBounds_toArray, List.set_cons_zero, List.set_cons_succ, i64_w, i32_w]
         rfl
        refine take_ (i := 5) (N := some 32) (v := ?_) (a' := ?_) #[true, true, true, true, true, true, false, true, false, true, false, false, false, false, false, false, false, false] rfl rfl (take_ofW HT_.out HW_.out (by kernel_rfl)) (fun _ _ _ h => h) (Or.inl ⟨by rfl, ?_⟩) hHeld ?_ ?_
        rotate_left
        ·rintro w' ⟨s0, s1, s2, s3, s4, s5, s6, s7⟩
         go_simp
         with_reducible rfl
        rotate_left
        ·simp only [Act.put, List.setIfInBounds_toArray, List.set_cons_zero, List.set_cons_succ, i64_w, i32_w]
         rfl
        refine take_ (i := 6) (N := some 33) (v := ?_) (a' := ?_) #[true, true, true, true, true, true, true, true, false, true, false, false, false, false, false, false, false, false] rfl rfl (take_ofW HT_.out HW_.out (by kernel_rfl)) (fun _ _ _ h => h) (Or.inl ⟨by rfl, ?_⟩) hHeld ?_ ?_
        rotate_left
        ·rintro w' ⟨s0, s1, s2, s3, s4, s5, s6, s7⟩
         go_simp
         with_reducible rfl
        rotate_left
        ·simp only [Act.put, List.setIfInBounds_toArray, List.set_cons_zero, List.set_cons_succ, i64_w, i32_w]
         rfl
        refine take_ (i := 8) (N := some 35) (v := ?_) (a' := ?_) #[true, true, true, true, true, true, true, true, true, true, false, false, false, false, false, false, false, false] rfl rfl (take_ofW HT_.out HW_.out (by kernel_rfl)) (fun _ _ _ h => h) (Or.inl ⟨by rfl, ?_⟩) hHeld ?_ ?_
        rotate_left
        ·rintro w' ⟨s0, s1, s2, s3, s4, s5, s6, s7⟩
         go_simp
         with_reducible rfl
        rotate_left
        ·simp only [Act.put, List.setIfInBounds_toArray, List.set_cons_zero, List.set_cons_succ, i64_w, i32_w]
         rfl
        refine pure_ (i := 10) (N := some 37) (v := ?_) (a' := ?_) #[true, true, true, true, true, true, true, true, true, true, true, false, false, false, false, false, false, false] rfl rfl (any_of HT_.out (by kernel_rfl)) (fun _ _ _ h => h) (Or.inl ⟨by rfl, ?_⟩) ?_ ?_
        rotate_left
        ·intro w'
         go_simp
         with_reducible rfl
        rotate_left
        ·simp only [Act.put, List.setIfInBounds_toArray, List.set_cons_zero, List.set_cons_succ, i64_w, i32_w]
         rfl
        refine pure_ (i := 11) (N := some 38) (v := ?_) (a' := ?_) #[true, true, true, true, true, true, true, true, true, true, true, true, false, false, false, false, false, false] rfl rfl (any_of HT_.out (by kernel_rfl)) (fun _ _ _ h => h) (Or.inl ⟨by rfl, ?_⟩) ?_ ?_
        rotate_left
        ·intro w'
         go_simp
         with_reducible rfl
        rotate_left
        ·simp only [Act.put, List.setIfInBounds_toArray, List.set_cons_zero, List.set_cons_succ, i64_w, i32_w]
         rfl
        refine take_ (i := 12) (N := some 39) (v := ?_) (a' := ?_) #[true, true, true, true, true, true, true, true, true, true, true, true, true, false, false, false, false, false] rfl rfl (take_ofW HT_.out HW_.out (by kernel_rfl)) (fun _ _ _ h => h) (Or.inl ⟨by rfl, ?_⟩) hHeld ?_ ?_
        rotate_left
        ·rintro w' ⟨s0, s1, s2, s3, s4, s5, s6, s7⟩
         go_simp
         with_reducible rfl
        rotate_left
        ·simp only [Act.put, List.setIfInBounds_toArray, List.set_cons_zero, List.set_cons_succ, i64_w, i32_w]
         rfl
        refine pure_ (i := 13) (N := some 40) (v := ?_) (a' := ?_) #[true, true, true, true, true, true, true, true, true, true, true, true, true, true, false, false, false, false] rfl rfl (any_of HT_.out (by kernel_rfl)) (fun _ _ _ h => h) (Or.inl ⟨by rfl, ?_⟩) ?_ ?_
        rotate_left
        ·intro w'
         go_simp
         with_reducible rfl
        rotate_left
        ·simp only [Act.put, List.setIfInBounds_toArray, List.set_cons_zero, List.set_cons_succ, i64_w, i32_w]
         rfl
        refine take_ (i := 14) (N := some 41) (v := ?_) (a' := ?_) #[true, true, true, true, true, true, true, true, true, true, true, true, true, true, true, false, false, false] rfl rfl (take_ofW HT_.out HW_.out (by kernel_rfl)) (fun _ _ _ h => h) (Or.inl ⟨by rfl, ?_⟩) hHeld ?_ ?_
        rotate_left
        ·rintro w' ⟨s0, s1, s2, s3, s4, s5, s6, s7⟩
         go_simp
         with_reducible rfl
        rotate_left
        ·simp only [Act.put, List.setIfInBounds_toArray, List.set_cons_zero, List.set_cons_succ, i64_w, i32_w]
         rfl
        refine one_ (i := 15) (N := some 42) #[true, true, true, true, true, true, true, true, true, true, true, true, true, true, true, true, false, false] rfl rfl (one_of HT_.out (by kernel_rfl)) (by decide) (fun K hK => ?_)
        refine goes_ Try.func81 (by kernel_rfl) rfl #[.int .i64 (rd x1 (x.val : Int)), .int .i64 (rd x1 ((rd_T69 l0_1 (rd (rd_L2 t118 x.val) (j : Int))).f1))] (by rfl) rfl rfl (by (try simp only [List.map_toArray, List.map_cons, List.map_nil]); first | done | rfl | (simp only [List.length_drop, List.length_take]; rfl)) ?_
        with_reducible refine (dag_capped.calls (rd x1 (x.val : Int)) (rd x1 ((rd_T69 l0_1 (rd (rd_L2 t118 x.val) (j : Int))).f1)) t125 _ HA33.out).mono ?_
        rintro e w' ⟨rfl, ⟨nd, rfl⟩⟩
        refine ⟨_, rfl, ?_⟩
        have p34 : 0 ≤ (x.val : Int) := by omega
        have q34 : (x.val : Int) < ((y113.length : Int) : Int) := hxl
        obtain ⟨hx34_0, hf34_0⟩ := Kd.R_celln 0 HO.out (x.val : Int) p34 q34
        simp only [Int.toNat_natCast] at hx34_0 hf34_0
        replace p34 := eq_true p34
        replace q34 := eq_true q34
        have HP37 := Kd.R_putg HO.out (x.val : Int) t125
        simp only [Int.toNat_natCast] at HP37
        have HQ37 := Aside0.mk HP37
        clear HP37
        refine hK.out _ _ ⟨(blk_cell BK116.out 0).trans rfl, (blk_cell BK112.out 0).trans rfl, (blk_cell BK112.out 1).trans rfl, hHeld.2.2.2.1, ((HB.out.cell (World.block_lt_of_cell? w _ hw123_0)).trans hw123_0), ((HB.out.cell (World.block_lt_of_cell? w _ hw123_1)).trans hw123_1), ((HB.out.cell (World.block_lt_of_cell? w _ hw123_2)).trans hw123_2), hHeld.2.2.2.2.2.2.2⟩ (fun hHeld => ?_)
        clear hK K
        refine norm_ (a' := ?_) ?_ ?_
        rotate_left
        ·show Act.put _ (some 42) _ = _
         simp only [Act.put, List.setIfInBounds_toArray, List.set_cons_zero, List.set_cons_succ, i64_w, i32_w]
         rfl
        refine pure_ (i := 16) (N := some 43) (v := ?_) (a' := ?_) #[true, true, true, true, true, true, true, true, true, true, true, true, true, true, true, true, true, false] rfl rfl (any_of HT_.out (by kernel_rfl)) (fun _ _ _ h => h) (Or.inl ⟨by rfl, ?_⟩) ?_ ?_
        rotate_left
        ·intro w'
         go_simp
         with_reducible rfl
        rotate_left
        ·simp only [Act.put, List.setIfInBounds_toArray, List.set_cons_zero, List.set_cons_succ, i64_w, i32_w]
         rfl
        refine last_ (i := 17) (N := none) #[true, true, true, true, true, true, true, true, true, true, true, true, true, true, true, true, true, true] rfl rfl (one_of HT_.out (by kernel_rfl)) (by decide) (fun K hK => ?_)
        refine skip_ (w1 := ?_) (by rfl) rfl ?_ ?_
        rotate_left
        ·go_simp
         rfl
        refine hK.out _ _ ?_
        clear hK K
        refine done_ (done_of HT_.out (by kernel_rfl)) ?_
        have hgB : go7 ≠ gB := by
         obtain ⟨cs, hb⟩ := Kd.S_typed HS.out gB rfl
         have h1 := Kd.R_ne HO.out hb (by decide)
         intro e; exact h1 (by rw [e]; rfl)
        have h112 : gb112 ≠ go7 := by have h_ := Kd.R_ne HO.out BK112.out (by decide); intro e_; exact h_ (by rw [e_]; rfl)
        have h116 : gb116 ≠ go7 := by have h_ := Kd.R_ne HO.out BK116.out (by decide); intro e_; exact h_ (by rw [e_]; rfl)
        have HG := Aside0.mk hgB
        have H112 := Aside0.mk h112
        have H116 := Aside0.mk h116
        clear hgB h112 h116
        gi_wp2
        go_roundw
        case measure => exact round_less hlt P0.out
        case rel =>
         refine ⟨j + 1, hlt, by rw [round_next hlt P0.out], ⟨?_⟩, ⟨?_⟩, ⟨?_⟩, ⟨?_⟩, ⟨?_⟩, ⟨?_⟩, ⟨?_⟩, ⟨?_⟩⟩
         ·exact blk_far (blk_drewN BK112.out _) H112.out _
         ·exact blk_far (blk_drewN BK116.out _) H116.out _
         ·have h1 := (Kd.R_putg (Kd.R_drewN HO.out nd) (x.val : Int) (capV (rd x1 (x.val : Int)) (rd x1 ((rd_T69 l0_1 (rd (rd_L2 t118 x.val) (j : Int))).f1)))).1
          simp only [Int.toNat_natCast] at h1
          have e1 : ((rd_L2 t118 x.val).take (j + 1)).foldl (waysArc l0_1 (x.val : Int)) (waysFrom l0_1 t118 y117 pre) = x1.set x.val (capV (rd x1 (x.val : Int)) (rd x1 ((rd_T69 l0_1 (rd (rd_L2 t118 x.val) (j : Int))).f1))) := by
           rw [List.take_succ_eq_append_getElem hlt, List.foldl_append, ← HX1.out]
           simp only [List.foldl_cons, List.foldl_nil, waysArc, Int.toNat_natCast]
           have e2 : rd (rd_L2 t118 x.val) (j : Int) = (rd_L2 t118 x.val)[j] := by simp [rd, hlt]
           rw [e2]
          rw [e1, HT125.out]
          exact h1
         ·refine Kd.S_mono (Kd.S_far (p := ⟨go7, x.val, none⟩) (Kd.S_bound (Kd.S_drewN HS.out nd)) (fun k hk => ?_) _) (fun _ _ => trivial)
          obtain ⟨_, _, _, q, hq, cs, hb⟩ := hk
          intro e
          rw [e] at hb
          obtain ⟨cs2, hb2⟩ := Kd.R_typed HO.out go7 rfl
          have h3 : (w35.drewN nd).heap[go7]? = w35.heap[go7]? := rfl
          rw [show (⟨go7, x.val, none⟩ : Addr).block = go7 from rfl, h3, hb2] at hb
          simp only [Option.some.injEq, Obj.cells.injEq] at hb
          rw [← hb.2.1] at hq
          revert hq
          decide
         ·intro j2
          exact (cell_far (p := ⟨go7, x.val, none⟩) (fun e => HG.out e.symm) _).trans (HVW.out j2)
         ·exact below_set (pw_below_drewN HB.out nd) GB7.out
         ·exact (HK.out.trans (⟨Nat.le_refl _, fun _ _ h _ => h⟩ : KeepsOthers w35 (w35.drewN nd))).trans (KeepsOthers.setCell _ _ _)
         ·refine KpBack.trans HKP.out ⟨fun v hv => ?_, fun j2 v hv => ?_⟩
          ·exact (cell_far (p := ⟨go7, x.val, none⟩) (fun e => HNE7.out e.symm) _).trans hv
          ·exact (cell_far (p := ⟨go7, x.val, none⟩) (fun e => HG.out e.symm) _).trans hv
       ·obtain rfl : j = (rd_L2 t118 x.val).length := by omega
        gi_wp2
        refine ⟨HK.out, HKP.out, BK112.out, BK116.out, ?_, HS.out, HVW.out, HB.out⟩
        rw [waysFrom_snoc]
        have h1 := HO.out
        rw [List.take_length] at h1
        exact h1
     case done =>
      as_aux_lemma =>
      rintro D ys W hD rfl ⟨BK112, BK116, HO, HS, hVW, HB⟩ hK
      have hcz : W.cell? ⟨gb116, 0, none⟩ = some (.slice (some ⟨go7, 0, none⟩) y113.length co14) := (blk_cell BK116 0).trans rfl
      have HKD := Aside0.mk hK
      clear hK BK112 HS hVW
      go_wp2
      refine ⟨by simp, .inl ⟨_, _, rfl, run_takeDeferred HKD.out, ?_⟩⟩
      have hgD := grownBy_putObj' W D (.deferred none)
      refine ⟨_, results_tmp rfl _ _ _, _, rfl, ?_, ?_⟩
      ·refine Kd.R_mono (Kd.R_grown (Kd.R_bound HO) hgD (fun k hk e => ?_)) (fun _ _ => trivial)
       obtain ⟨_, _, _, q, _, cs, hb⟩ := hk
       cases e
       rw [HKD.out] at hb
       cases hb
      ·have h7 := HB2.out.size
       exact HB.grown hgD HB.size (fun k e => by cases e; omega)
     case stop =>
      rintro D c pre W _ _ h _
      exact h.elim
    ·rw [if_neg c6] at H
     exact absurd H (by simp)
   ·rw [if_neg c5] at H
    exact absurd H (by simp)
  ·rw [if_neg c3] at H
   exact absurd H (by simp)
 ·rw [if_neg c2] at H
  exact absurd H (by simp)
end

/-! ### slices_Clone_int_int: function 60 -/
def slices_Clone_int_int.f (l0 : List Int) : Option (List Int) := (some (([] : List Int) : List Int)).bind fun y128 => (if y128.length + l0.length < 17592186044416 then (some (y128 ++ l0)) else (none))
set_option maxHeartbeats 8000000 in
set_option maxRecDepth 100000 in
theorem slices_Clone_int_int.calls (A0 : Option Addr) (c0 : Nat) (l0 : List Int) (r : List Int) (w : World) (hr0 : Kd.C (Kd.int .i64) w A0 l0.length l0) (hc0 : l0.length ≤ c0) (h : slices_Clone_int_int.f l0 = some r) :
  Calls Try.prog 60 #[.slice A0 l0.length c0] w fun e w' => ∃ v0_ : Value, e = .returned (v0_) ∧ Kd.R (Kd.int .i64) 3 w' w.heap.size (fun _ => True) v0_ r ∧ Below w.heap.size w w' := by
 have HR0 := Aside0.mk hr0
 have HC0 := Aside0.mk hc0
 clear hr0 hc0
 have HB := Aside0.mk (Below.refl w.heap.size w)
 have H : ((some (([] : List Int) : List Int)).bind fun y128 => (if y128.length + l0.length < 17592186044416 then (some (y128 ++ l0)) else (none))) = some r := h
 clear h
 have hnq_ : ∀ (w : World) (a : Option Addr) (n c n' c' : Nat), (binOp .eql 25 (.slice a n c) (.slice none n' c')).run Try.prog w = .ok (.bool a.isNone) w := fun w a n c n' c' => Lib.run_eql_slice_nil w _ _ a n c n' c' Try.underlying25
 rcases A0 with _ | adn0
 ·obtain rfl : l0 = [] := (by rcases l0 with _ | ⟨x_, xs_⟩; (· rfl); (· obtain ⟨_, _, e_, _⟩ := Kd.C_get HR0.out 0 0 (by omega) (by simp); cases e_))
  simp only [List.length_nil, List.nil_append] at H
  (first | rw [if_pos (by omega)] at H | simp at H)
  try simp only [Option.some.injEq] at H
  subst H
  go_enter Try.func60, Try.ntmps60
  go_wp2
  go_ret
  first | exact ⟨_, rfl, Kd.R_nil _ _ _ _ _, Below.refl _ _⟩ | exact ⟨_, rfl, Kd.S_nil _ _ _ _ _, Below.refl _ _⟩ | exact ⟨_, rfl, Kd.V_nil _ _ _ _ _, Below.refl _ _⟩ | exact ⟨_, rfl, Kd.N_nil _ _ _ _ _, Below.refl _ _⟩
 ·replace H := H
  obtain ⟨y128, hy128⟩ : ∃ y_ : List Int, y_ = (([] : List Int)) := ⟨_, rfl⟩
  replace H : (if y128.length + l0.length < 17592186044416 then (some (y128 ++ l0)) else (none)) = some r := by first | (rw [hy128]; with_reducible exact H) | (have H2_ := (Option.bind_some _ _).symm.trans H; rw [hy128]; with_reducible exact H2_) | (have H2_ := (Option.bind_some _ _).symm.trans H; with_reducible exact H2_) | with_reducible exact H | (rw [hy128]; exact H) | exact H
  have Ny128 := Aside0.mk hy128
  clear hy128
  by_cases c2 : y128.length + l0.length < 17592186044416
  ·rw [if_pos c2] at H
   have LMc2 := Aside0.mk c2
   clear c2
   obtain ⟨y131, hy131⟩ : ∃ y_ : List Int, y_ = (y128 ++ l0) := ⟨_, rfl⟩
   replace H : (some y131) = some r := by first | (rw [hy131]; with_reducible exact H) | (have H2_ := (Option.bind_some _ _).symm.trans H; rw [hy131]; with_reducible exact H2_) | (have H2_ := (Option.bind_some _ _).symm.trans H; with_reducible exact H2_) | with_reducible exact H | (rw [hy131]; exact H) | exact H
   have Ny131 := Aside0.mk hy131
   clear hy131
   obtain rfl := Option.some.inj H
   go_enter Try.func60, Try.ntmps60
   go_wp2_with (first | ((with_reducible refine gate_dst (N := 5) rfl ?_); refine Kd.R_lit (Kd.int .i64) _ 3 ?hg (N := 5) ?hd (xs := ([] : List Int)) (inner := []) (ok := fun _ => True) (okp := fun _ => True) ?hr ?hp (fun _ hk => hk) trivial (Below.refl _ _) (Nat.le_refl _) (by simp) ?_; (case hd => rfl); (case hg => rfl); (case hr => first | (go_simp; done) | (go_simp; rfl)); (case hp => exact (Reps.none _ _)); intro v129 w3 ho4 hb hg_ hnew_; clear hg_ hnew_; (first | rw [← Ny128.out] at ho4 | (simp only [Int.reduceToNat] at ho4; rw [← Ny128.out] at ho4)); have n0_ := Aside0.mk (Kd.R_lower ho4 (below_size (by repeat (first | (with_reducible first | exact HB.out | apply below_alloc | apply pw_below_drewN | apply below_drew1) | exact HB.out)))); have n1_ := Aside0.mk (below_step (by repeat (first | (with_reducible first | exact HB.out | apply below_alloc | apply pw_below_drewN | apply below_drew1) | exact HB.out)) hb); clear HB; have HO130 := n0_; have HB := n1_; clear n0_ n1_; clear hb ho4) | ((with_reducible refine gate_builtin (b := .append) (xs := #[.tmp 5, .tmp 6]) rfl ?_); at_builtin; refine Kd.R_append_rows (Kd.int .i64) (w0 := w) w.heap.size rfl (.tmp 5) (.tmp 6) 25 3 (.int .i64 0) 8 rfl Try.underlying25 info3 rfl (by decide) (by omega) v129 y128 l0 _ _ _ (fun _ => True) (fun _ => False) rfl rfl ?aO ?aR (fun _ _ h => h) (fun _ h => h.elim) ?aF ?aB ?aS ?aL ?_; (case aR => repeat (first | exact (Kd.C_below HR0.out HB.out) | (with_reducible refine Kd.C_alloc ?_ _) | (with_reducible refine Kd.C_drewN ?_ _) | (with_reducible refine Kd.C_drew ?_))); (case aB => exact (by repeat (first | (with_reducible first | exact HB.out | apply below_alloc | apply pw_below_drewN | apply below_drew1) | exact HB.out))); (case aF => exact (fun _ _ => trivial)); (case aO => exact (by (with_reducible repeat (first | apply Kd.R_alloc | apply Kd.R_drewN | apply Kd.R_drew)); exact HO130.out)); (case aS => exact (below_size (by repeat (first | (with_reducible first | exact HB.out | apply below_alloc | apply pw_below_drewN | apply below_drew1) | exact HB.out)))); (case aL => have := LMc2.out; omega); intro v132 w5 ho hb hg hat; rw [← Ny131.out] at ho; have n0_ := Aside0.mk (hb); have n1_ := Aside0.mk (ho); clear HB; clear HO130; have HB := n0_; have HO133 := n1_; clear n0_ n1_; clear ho hb hg hat))
   go_ret
   exact ⟨_, by first | rfl | (simp [errW_none, errW_some] <;> rfl) | (simp [*, errW_none, errW_some] <;> rfl), by (with_reducible repeat (first | apply Kd.R_alloc | apply Kd.R_drewN | apply Kd.R_drew)); exact HO133.out, by repeat (first | (with_reducible first | exact HB.out | apply below_alloc | apply pw_below_drewN | apply below_drew1) | exact HB.out)⟩
  ·rw [if_neg c2] at H
   exact absurd H (by simp)

-- NOT PRINTED: function 59 (dag_Paths_1)

end Go.Proofs.Ytanbffoilianhaa.D
