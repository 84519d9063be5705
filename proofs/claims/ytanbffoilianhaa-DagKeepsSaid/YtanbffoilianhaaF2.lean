-- Written by wip/tools/myprint.py, a program of this session's.
import Derived.Test.YtanbffoilianhaaF0
import Derived.Test.YtanbffoilianhaaF1
namespace Go.Proofs.Ytanbffoilianhaa.F
open Go.RowKit Go.Proofs.YtanbffoilianhaaW.PrintWords Go.Proofs.YtanbffoilianhaaW.PrintLast Go.Proofs.YtanbffoilianhaaW.PrintMore
attribute [local go_sem] max2_int min2_int max_two min_two max_three min_three max_four min_four   -- for this text's walks alone
set_option linter.unusedVariables false
set_option linter.unusedSimpArgs false
/-! ### dag_ways: function 56 -/
section
attribute [local go_sem] Oper.semAt_some
def downFrom (len j : Nat) : List (Fin len) := ((List.finRange len).reverse).take j
theorem downFrom_zero (len : Nat) : downFrom len 0 = [] := rfl
theorem downFrom_length (len j : Nat) (h : j ≤ len) : (downFrom len j).length = j := by simp [downFrom]; omega
theorem downFrom_succ (len j : Nat) (h : j < len) : downFrom len (j + 1) = downFrom len j ++ [⟨len - 1 - j, by omega⟩] := by
 unfold downFrom
 rw [List.take_succ_eq_append_getElem (by simpa using h)]
 congr 2
 rw [List.getElem_reverse]
 simp
theorem downFrom_all (len : Nat) : downFrom len len = (List.finRange len).reverse := by
 unfold downFrom
 rw [List.take_of_length_le (by simp)]
/-- What a round must leave as it is: the variable of the row, and the row's cells. -/
def KpBack (Bs b off : Nat) (A B : World) : Prop :=
 (∀ v, A.cell? ⟨Bs, 0, none⟩ = some v → B.cell? ⟨Bs, 0, none⟩ = some v) ∧ ∀ (j : Nat) v, A.cell? ⟨b, off + j, none⟩ = some v → B.cell? ⟨b, off + j, none⟩ = some v
theorem KpBack.trans {Bs b off : Nat} {A B C : World} (h : KpBack Bs b off A B) (k : KpBack Bs b off B C) : KpBack Bs b off A C :=
 ⟨fun v hv => k.1 v (h.1 v hv), fun j v hv => k.2 j v (h.2 j v hv)⟩
theorem KpBack.put {Bs b off : Nat} (W : World) (l : Nat) (o o' : Obj) (h : W.heap[l]? = some o) (ho : o.isCells = false) : KpBack Bs b off W (W.putObj l o') :=
 ⟨fun v hv => cell_kept hv (grownBy_putObj' W l o') (fun r e => by cases e; exact ⟨o, h, ho⟩), fun j v hv => cell_kept hv (grownBy_putObj' W l o') (fun r e => by cases e; exact ⟨o, h, ho⟩)⟩
set_option maxRecDepth 100000 in
set_option maxHeartbeats 2000000 in
theorem backward1_in (F : Fence) (n : Nat) (h8 : F.fn 101) (hro : F.round = none) (hn : 1 ≤ n) (l Bs b off len cap : Nat) (V : Fin len → Value) (hreach : len ≤ 281474976710656) (J Jx : List (Fin len) → World → Prop)
  (hY : ∀ pre x W, J pre W → pre.length < len → YieldAt F (n - 1) Try.prog l #[.int .i64 (x.val : Int), V x] W fun e W' =>
   (e = .returned (.bool true) ∧ J (pre ++ [x]) W' ∧ KpBack Bs b off W W') ∨ (e = .returned (.bool false) ∧ Jx (pre ++ [x]) W'))
  (W : World) (hBs : W.cell? ⟨Bs, 0, none⟩ = some (.slice (some ⟨b, off, none⟩) len cap)) (hc : ∀ j : Fin len, W.cell? ⟨b, off + j.val, none⟩ = some (V j)) (h0 : J [] W) :
  CallsIn F n Try.prog 101 #[.func (.yield l) #[] #[], .pointer (some ⟨Bs, 0, none⟩)] W fun e W' => (∃ v, e = .returned v) ∧
   ((∃ ys, ys = (List.finRange len).reverse ∧ J ys W') ∨ (∃ pre, (∃ k, k ≤ len ∧ pre = downFrom len k) ∧ Jx pre W')) := by
 have hu34 := Try.underlying34
 have hu25 := Try.underlying25
 refine callsIn_of_wp Try.func101 rfl h8 ?_ hro
 simp only [Try.ntmps101, List.size_toArray, List.length_cons, List.length_nil, Nat.reduceAdd, Nat.reduceSub, Array.replicate_succ, Array.replicate_zero, List.push_toArray, List.append_toArray, List.nil_append, List.cons_append]
 gi_wp2
 gi_loopw [3] (fun i wr => ∃ k : Nat, k ≤ len ∧ i = .int .i64 ((k : Int) - 1) ∧ J (downFrom len (len - k)) wr ∧ KpBack Bs b off W wr)
  (fun i _ => ((intOf i) + 1).toNat)
 case atStart => exact ⟨len, Nat.le_refl _, by first | rfl | simp, by simpa [downFrom] using h0, ⟨fun _ h => h, fun _ _ h => h⟩⟩
 case round =>
  obtain ⟨k, hk, rfl, hJs, hnx⟩ := hrel
  have hBs' := hnx.1 _ hBs
  by_cases hlt : 0 < k
  ·obtain ⟨m, rfl⟩ : ∃ m, k = m + 1 := ⟨k - 1, by omega⟩
   have hx : m < len := by omega
   have hcx := hnx.2 _ _ (hc ⟨m, hx⟩)
   obtain ⟨fn, tmps, assign, body, hy, hR⟩ := hY _ ⟨m, hx⟩ wr hJs (by rw [downFrom_length _ _ (by omega)]; omega)
   dsimp only at hy
   have e1 : ((m + 1 : Nat) : Int) - 1 = (m : Int) := by omega
   have hds : downFrom len (len - m) = downFrom len (len - (m + 1)) ++ [⟨m, hx⟩] := by
    have h2 := downFrom_succ len (len - (m + 1)) (by omega)
    rw [show len - (m + 1) + 1 = len - m by omega] at h2
    rw [h2]; congr 3; omega
   rw [e1]
   have HN := Aside0.mk hnx
   clear hnx
   gi_wp2
   refine hR.mono ?_
   rintro e W3 (⟨rfl, hJ3, hk3⟩ | ⟨rfl, hJx3⟩)
   ·have HN3 := Aside0.mk hk3
    clear hk3
    gi_wp2
    go_roundw
    case rel => exact ⟨m, by omega, by first | rfl | simp, by rw [hds]; exact hJ3, HN.out.trans HN3.out⟩
    case measure => first | (simp [intOf]; done) | (simp [intOf]; omega)
   ·gi_wp2
    refine bodyPost_ret (results_none rfl _ _ _) rfl ?_
    exact ⟨⟨_, rfl⟩, .inr ⟨_, ⟨len - m, by omega, hds.symm⟩, hJx3⟩⟩
  ·obtain rfl : k = 0 := by omega
   clear hnx
   gi_wp2
   go_end0
   exact ⟨⟨_, rfl⟩, .inl ⟨_, rfl, by rw [← downFrom_all]; exact hJs⟩⟩
set_option maxHeartbeats 1000000 in
theorem backward_in (F : Fence) (n : Nat) (h5 : F.fn 80) (hro : F.round = none) (a : Option Addr) (len cap : Nat) (w : World) :
  CallsIn F n Try.prog 80 #[.slice a len cap] w fun e w' => e = .returned (.func (.func 101) #[] #[.pointer (some ⟨w.heap.size, 0, none⟩)]) ∧ w' = w.alloc (.cells #[.slice a len cap] 34) := by
 refine callsIn_of_wp Try.func80 rfl h5 ?_ hro
 simp only [Try.ntmps80, List.size_toArray, List.length_cons, List.length_nil, Nat.reduceAdd, Nat.reduceSub, Array.replicate_succ, Array.replicate_zero, List.push_toArray, List.append_toArray, List.nil_append, List.cons_append]
 have hu34 := Try.underlying34
 gi_wp2
 go_ret
 exact ⟨rfl, rfl⟩
theorem backward_stops (F : Fence) (n : Nat) (h8 : F.fn 101) (hro : F.round = none) (hn : 1 ≤ n) (Bs b off len cap : Nat) (V : Fin len → Value) (hreach : len ≤ 281474976710656) (w : World)
  (hBs : w.cell? ⟨Bs, 0, none⟩ = some (.slice (some ⟨b, off, none⟩) len cap)) (hc : ∀ j : Fin len, w.cell? ⟨b, off + j.val, none⟩ = some (V j)) :
  SeqStopsK F n Try.prog 101 #[.pointer (some ⟨Bs, 0, none⟩)] (fun x : Fin len => #[Value.int .i64 (x.val : Int), V x]) (KpBack Bs b off) (fun ys => ys = (List.finRange len).reverse)
   (fun pre => ∃ k, k ≤ len ∧ pre = downFrom len k) len w := fun l J Jx W hW _ _ hY h0 =>
 backward1_in F n h8 hro hn l Bs b off len cap V hreach J Jx hY W
  ((hW.cell (p := ⟨Bs, 0, none⟩) (World.block_lt_of_cell? w _ hBs)).trans hBs)
  (fun j => (hW.cell (p := ⟨b, off + j.val, none⟩) (World.block_lt_of_cell? w _ (hc j))).trans (hc j)) h0
/-! ways -/
theorem round_next {j n : Nat} (h : j < n) (hb : n ≤ 1000000) : wrap64 ((j : Int) + 1) = ((j + 1 : Nat) : Int) := by unfold wrap64; omega
theorem round_less {j n : Nat} (h : j < n) (hb : n ≤ 1000000) : n - (intOf (.int .i64 (wrap64 ((j : Int) + 1)))).toNat < n - (intOf (.int .i64 (j : Int))).toNat := by
 rw [round_next h hb]
 show n - ((j + 1 : Nat) : Int).toNat < n - (j : Int).toNat
 omega
def capV (a b : Int) : Int := if a > wrap64 (4611686018427387904 - b) then 4611686018427387905 else wrap64 (a + b)
theorem capped_eq (a b : Int) : dag_capped.f a b = some (capV a b) := by unfold dag_capped.f capV; split <;> rfl
/-- One arc's ways added to its node's. -/
def waysArc (arcs : List S69) (n : Int) (out : List Int) (i : Int) : List Int := out.set n.toNat (capV (rd out n) (rd out (rd_T69 arcs i).f1))
def waysNode (arcs : List S69) (B : List (List Int)) (out : List Int) (n : Nat) : List Int := (rd_L2 B n).foldl (waysArc arcs n) out
def waysFrom (arcs : List S69) (B : List (List Int)) (out : List Int) (l : List (Fin B.length)) : List Int := l.foldl (fun o n => waysNode arcs B o n.val) out
theorem waysArc_length (arcs : List S69) (n : Int) (out : List Int) (i : Int) : (waysArc arcs n out i).length = out.length := by simp [waysArc]
theorem waysArcs_length (arcs : List S69) (n : Int) (l : List Int) : ∀ out : List Int, (l.foldl (waysArc arcs n) out).length = out.length := by
 induction l with
 | nil => intro out; rfl
 | cons x xs ih => intro out; rw [List.foldl_cons, ih, waysArc_length]
theorem waysFrom_length (arcs : List S69) (B : List (List Int)) (l : List (Fin B.length)) : ∀ out : List Int, (waysFrom arcs B out l).length = out.length := by
 induction l with
 | nil => intro out; rfl
 | cons x xs ih => intro out; unfold waysFrom at *; rw [List.foldl_cons, ih]; exact waysArcs_length _ _ _ _
theorem waysFrom_snoc (arcs : List S69) (B : List (List Int)) (out : List Int) (l : List (Fin B.length)) (x : Fin B.length) : waysFrom arcs B out (l ++ [x]) = waysNode arcs B (waysFrom arcs B out l) x.val := by
 simp [waysFrom]
/-- All arcs that are listed are arcs of the graph, and lead to a node. -/
def waysSafe (arcs : List S69) (n : Nat) (B : List (List Int)) : Bool := (B.length == n) && B.all fun l => decide (l.length ≤ 1000000) && l.all fun i => decide (0 ≤ i ∧ i < (arcs.length : Int) ∧ 0 ≤ (rd_T69 arcs i).f1 ∧ (rd_T69 arcs i).f1 < (n : Int))
theorem waysSafe_at {arcs : List S69} {n : Nat} {B : List (List Int)} (h : waysSafe arcs n B = true) (x : Nat) (hx : x < B.length) (j : Nat) (hj : j < (rd_L2 B x).length) :
  (rd_L2 B x).length ≤ 1000000 ∧ 0 ≤ rd (rd_L2 B x) j ∧ rd (rd_L2 B x) j < (arcs.length : Int) ∧ 0 ≤ (rd_T69 arcs (rd (rd_L2 B x) j)).f1 ∧ (rd_T69 arcs (rd (rd_L2 B x) j)).f1 < (n : Int) := by
 simp only [waysSafe, Bool.and_eq_true, List.all_eq_true, decide_eq_true_eq] at h
 have e1 : rd_L2 B x = B[x] := by simp [rd_L2, hx]
 have e2 : rd (rd_L2 B x) j = (rd_L2 B x)[j] := by simp [rd, hj]
 rw [e2]
 have h3 := h.2 (rd_L2 B x) (by rw [e1]; exact List.getElem_mem _)
 exact ⟨h3.1, h3.2 _ (List.getElem_mem _)⟩
def dag_ways.f (k : Nat) (a0_0 : Int) (l0_1 : List (S69)) : Option (List Int) := if 0 ≤ a0_0 then (if (a0_0 : Int).toNat ≤ 35184372088832 then ((some (List.replicate (a0_0 : Int).toNat 0 : List Int)).bind fun y113 => (if 0 ≤ (wrap64 (a0_0 - 1)) then (if (wrap64 (a0_0 - 1)) < (y113.length : Int) then ((dag_byFrom.f k a0_0 l0_1).bind fun t118 => (if waysSafe l0_1 y113.length t118 = true then some (waysFrom l0_1 t118 (y113.set ((wrap64 (a0_0 - 1)) : Int).toNat 1) (List.finRange t118.length).reverse) else none)) else (none)) else (none))) else (none)) else (none)
def dag_ways.T9 : Bool × List (List Nat × List Nat) := (true, [([], []), ([], []), ([], []), ([], []), ([2, 3], [2, 3]), ([4], [4]), ([], []), ([], []), ([7], [7]), ([], []), ([8, 9], [8, 9]), ([10], [10]), ([11], [11]), ([6, 12], [6, 12]), ([13], [13]), ([5, 14], [5, 14]), ([0, 1, 0, 1, 2, 3, 4, 5, 6, 7, 8, 9, 10, 11, 12, 13, 14, 15], [0, 1]), ([16, 15, 15, 0, 1, 2, 3, 4, 5, 6, 7, 8, 9, 10, 11, 12, 13, 14, 15], [15, 16])])
def dag_ways.B9 : List Nat := [0, 0, 0, 0, 12, 28, 0, 0, 128, 0, 896, 1920, 3968, 8128, 16320, 32764, 65535, 131071]
theorem dag_ways.tab9 : rtab .any (opsOf Try.f56 9) = dag_ways.T9 := by kernel_rfl
theorem dag_ways.bits9 : waitsOk dag_ways.T9.2 dag_ways.B9 = true := by kernel_rfl
theorem dag_ways.mono : ∀ a0 a1 k, LeO (dag_ways.f k a0 a1) (dag_ways.f (k + 1) a0 a1) := by
 intro a0 a1 k
 unfold dag_ways.f
 repeat' first
   | (with_reducible exact dag_byFrom.mono _ _ _)
   | (with_reducible exact LeO.refl _)
   | (with_reducible exact LeO.none _)
   | (with_reducible refine LeO.ite ?_ ?_)
   | (with_reducible refine LeO.bind ?_ (fun _ => ?_))
   | exact dag_byFrom.mono _ _ _
   | exact LeO.none _
   | refine LeO.ite ?_ ?_
   | refine LeO.bind ?_ (fun _ => ?_)
set_option maxHeartbeats 8000000 in
set_option maxRecDepth 100000 in
theorem dag_ways.calls (k : Nat) (a0_0 : Int) (A0_1 : Option Addr) (c0_1 : Nat) (l0_1 : List (S69)) (r : List Int) (w : World) (hr0_1 : Kd.C k69 w A0_1 l0_1.length l0_1) (hc0_1 : l0_1.length ≤ c0_1) (h : dag_ways.f k a0_0 l0_1 = some r) :
  Calls Try.prog 56 #[.agg #[.int .i64 a0_0, .slice A0_1 l0_1.length c0_1]] w fun e w' => ∃ v0_ : Value, e = .returned (v0_) ∧ Kd.R (Kd.int .i64) 2 w' w.heap.size (fun _ => True) v0_ r ∧ Below w.heap.size w w' := by
 have hu24 := Try.underlying24
 have hu3 := Try.underlying3
 have hu71 := Try.underlying71
 have hu2 := Try.underlying2
 have hu22 := Try.underlying22
 have HR0_1 := Aside0.mk hr0_1
 have HC0_1 := Aside0.mk hc0_1
 clear hr0_1 hc0_1
 have HB := Aside0.mk (Below.refl w.heap.size w)
 have H : (if 0 ≤ a0_0 then (if (a0_0 : Int).toNat ≤ 35184372088832 then ((some (List.replicate (a0_0 : Int).toNat 0 : List Int)).bind fun y113 => (if 0 ≤ (wrap64 (a0_0 - 1)) then (if (wrap64 (a0_0 - 1)) < (y113.length : Int) then ((dag_byFrom.f k a0_0 l0_1).bind fun t118 => (if waysSafe l0_1 y113.length t118 = true then some (waysFrom l0_1 t118 (y113.set ((wrap64 (a0_0 - 1)) : Int).toNat 1) (List.finRange t118.length).reverse) else none)) else (none)) else (none))) else (none)) else (none)) = some r := h
 clear h
 by_cases c2 : 0 ≤ a0_0
 ·rw [if_pos c2] at H
  have c2b0 := eq_true c2
  have c2b1 : decide (0 ≤ a0_0) = true := decide_eq_true c2
  clear c2
  by_cases c3 : (a0_0 : Int).toNat ≤ 35184372088832
  ·rw [if_pos c3] at H
   have c3b0 := eq_true c3
   have c3b1 : decide ((a0_0 : Int).toNat ≤ 35184372088832) = true := decide_eq_true c3
   clear c3
   obtain ⟨y113, hy113⟩ : ∃ y_ : List Int, y_ = (List.replicate (a0_0 : Int).toNat 0) := ⟨_, rfl⟩
   replace H : (if 0 ≤ (wrap64 (a0_0 - 1)) then (if (wrap64 (a0_0 - 1)) < (y113.length : Int) then ((dag_byFrom.f k a0_0 l0_1).bind fun t118 => (if waysSafe l0_1 y113.length t118 = true then some (waysFrom l0_1 t118 (y113.set ((wrap64 (a0_0 - 1)) : Int).toNat 1) (List.finRange t118.length).reverse) else none)) else (none)) else (none)) = some r := by first | (rw [hy113]; with_reducible exact H) | (have H2_ := (Option.bind_some _ _).symm.trans H; rw [hy113]; with_reducible exact H2_) | (have H2_ := (Option.bind_some _ _).symm.trans H; with_reducible exact H2_) | with_reducible exact H | (rw [hy113]; exact H) | exact H
   have Ny113 := Aside0.mk hy113
   clear hy113
   obtain ⟨ji4, hji4⟩ : ∃ j_ : Int, (wrap64 (a0_0 - 1)) = j_ := ⟨_, rfl⟩
   replace H : (if 0 ≤ (ji4) then (if (ji4) < (y113.length : Int) then ((dag_byFrom.f k a0_0 l0_1).bind fun t118 => (if waysSafe l0_1 y113.length t118 = true then some (waysFrom l0_1 t118 (y113.set ((ji4) : Int).toNat 1) (List.finRange t118.length).reverse) else none)) else (none)) else (none)) = some r := by first | (rw [hji4] at H; exact H) | (simp only [hji4] at H ⊢; exact H)
   have hji4w : (IntKind.i64.wrap (a0_0 - 1)) = ji4 := (i64_w _).trans hji4
   by_cases c5 : 0 ≤ (ji4)
   ·rw [if_pos c5] at H
    have c5b0 : decide (0 ≤ (ji4)) = true := decide_eq_true c5
    clear c5
    by_cases c6 : (ji4) < (y113.length : Int)
    ·rw [if_pos c6] at H
     have c6b0 : decide ((ji4) < (y113.length : Int)) = true := decide_eq_true c6
     clear c6
     obtain ⟨y117, hy117⟩ : ∃ y_ : List Int, y_ = (y113.set ((ji4) : Int).toNat 1) := ⟨_, rfl⟩
     replace H : ((dag_byFrom.f k a0_0 l0_1).bind fun t118 => (if waysSafe l0_1 y113.length t118 = true then some (waysFrom l0_1 t118 y117 (List.finRange t118.length).reverse) else none)) = some r := by first | (rw [hy117]; with_reducible exact H) | (have H2_ := (Option.bind_some _ _).symm.trans H; rw [hy117]; with_reducible exact H2_) | (have H2_ := (Option.bind_some _ _).symm.trans H; with_reducible exact H2_) | with_reducible exact H | (rw [hy117]; exact H) | exact H
     have Ny117 := Aside0.mk hy117
     clear hy117
     replace H := Option.bind_eq_some_iff.mp H
     obtain ⟨t118, A80, H⟩ := H
     replace H : (if waysSafe l0_1 y113.length t118 = true then some (waysFrom l0_1 t118 y117 (List.finRange t118.length).reverse) else none) = some r := H
     have A8 := Aside0.mk A80
     clear A80
     have hs : waysSafe l0_1 y113.length t118 = true := by
      by_cases h_ : waysSafe l0_1 y113.length t118 = true
      ·exact h_
      ·rw [if_neg h_] at H; exact absurd H (by simp)
     rw [if_pos hs] at H
     obtain rfl := Option.some.inj H
     have HSF := Aside0.mk hs
     clear hs
     refine (callsIn_wide (n := 5)).1 ?_
     refine callsIn_of_wp_marks Try.func56 rfl trivial ?_ rfl
     simp only [Try.ntmps56, List.size_toArray, List.length_cons, List.length_nil, Nat.reduceAdd, Nat.reduceSub, Array.replicate_succ, Array.replicate_zero, List.push_toArray, List.append_toArray, List.nil_append, List.cons_append]
     refine wpIn_wide.2 ?_
     go_wp2_with (first | ((with_reducible refine gate_dst (N := 1) rfl ?_); refine box_event ?hg (N := 1) ?hd (cs := #[.int .i64 a0_0, .slice A0_1 l0_1.length c0_1]) (t := 24) ?hr ?_; (case hd => rfl); (case hg => rfl); (case hr => first | (go_simp; done) | (go_simp; rfl)); intro gb112 hg w9 hbox hb; have n0_ := Aside0.mk (below_step zB hb); have n1_ := Aside0.mk (hbox); have n2_ := Aside0.mk ((by rw [hg]; exact (below_size zB) : w.heap.size ≤ gb112)); have n3_ := Aside0.mk ((by rw [hg]; exact (below_size zB) : w.heap.size ≤ gb112)); clear HB; have HB := n0_; have BK112 := n1_; have GW112 := n2_; have GE112 := n3_; clear n0_ n1_ n2_ n3_; clear hb hbox hg; have hcz10_0 : w9.cell? ⟨gb112, 0, none⟩ = some (.int .i64 a0_0) := (blk_cell BK112.out 0).trans rfl; have hcz10_1 : w9.cell? ⟨gb112, 1, none⟩ = some (.slice A0_1 l0_1.length c0_1) := (blk_cell BK112.out 1).trans rfl; have hfz10_0 := blk_frozen BK112.out 0; have hfz10_1 := blk_frozen BK112.out 1) | ((with_reducible refine gate_dst (N := 10) rfl ?_); refine Kd.R_make (Kd.int .i64) _ 2 rfl (N := 10) rfl 71 _ _ rfl a0_0 rfl rfl Try.underlying71 (.int .i64 0) 8 info2 rfl (by decide) (by omega) 0 (ok := fun _ => True) (okp := fun _ => True) rfl (fun _ hk => hk) trivial (of_decide_eq_true zh) (Nat.le_trans (Nat.mul_le_mul_right _ (of_decide_eq_true zh : a0_0.toNat ≤ 35184372088832)) (by omega)) (Below.refl _ _) (Nat.le_refl _) ?_; intro v114 w11 ho12 hb hg_ hnew_; clear hg_ hnew_; (first | rw [← Ny113.out] at ho12 | (simp only [Int.reduceToNat] at ho12; rw [← Ny113.out] at ho12)); have n0_ := Aside0.mk (Kd.R_lower ho12 (below_size zB)); have n1_ := Aside0.mk (blk_below (g := gb112) (o := .cells #[.int .i64 a0_0, .slice A0_1 l0_1.length c0_1] 24 (0, 0)) (zk BK112) hb); have n2_ := Aside0.mk (below_step zB hb); clear BK112; clear HB; have HO115 := n0_; have BK112 := n1_; have HB := n2_; clear n0_ n1_ n2_; clear hb ho12) | ((with_reducible refine gate_dst (N := 3) rfl ?_); refine box_event ?hg (N := 3) ?hd (cs := #[.slice none 0 0]) (t := 71) ?hr ?_; (case hd => rfl); (case hg => rfl); (case hr => first | (go_simp; done) | (go_simp; rfl)); intro gb116 hg w13 hbox hb; have n0_ := Aside0.mk (Kd.R_below (zR HO115) hb); have n1_ := Aside0.mk (blk_below (g := gb112) (o := .cells #[.int .i64 a0_0, .slice A0_1 l0_1.length c0_1] 24 (0, 0)) (zk BK112) hb); have n2_ := Aside0.mk (below_step zB hb); have n3_ := Aside0.mk (hbox); have n4_ := Aside0.mk ((by rw [hg]; exact (below_size zB) : w.heap.size ≤ gb116)); have n5_ := Aside0.mk ((by rw [hg]; exact (below_size zB) : w.heap.size ≤ gb116)); have n6_ := Aside0.mk ((by rw [hg]; exact Nat.ne_of_lt (blk_lt (g := gb112) (o := .cells #[.int .i64 a0_0, .slice A0_1 l0_1.length c0_1] 24 (0, 0)) (zk BK112)) : gb112 ≠ gb116)); have n7_ := Aside0.mk ((by rw [hg]; exact Nat.ne_of_gt (blk_lt (g := gb112) (o := .cells #[.int .i64 a0_0, .slice A0_1 l0_1.length c0_1] 24 (0, 0)) (zk BK112)) : gb116 ≠ gb112)); clear HO115; clear BK112; clear HB; have HO115 := n0_; have BK112 := n1_; have HB := n2_; have BK116 := n3_; have GW116 := n4_; have GE116 := n5_; have NB112_116 := n6_; have NB116_112 := n7_; clear n0_ n1_ n2_ n3_ n4_ n5_ n6_ n7_; clear hb hbox hg; obtain ⟨Ao14, co14, eo14⟩ := Kd.R_slice HO115.out; subst eo14; have hnb15 := NB116_112.out; have hnc15 := NB112_116.out; have hcz16_0 : w13.cell? ⟨gb116, 0, none⟩ = some (.slice none 0 0) := (blk_cell BK116.out 0).trans rfl; have hfz16_0 := blk_frozen BK116.out 0) | ((with_reducible refine gate_store (t := 71) (p := 3) rfl ?_); refine store_event (t := 71) (p := 3) (v := ?vo_w17) (w1 := (w13.setCell ⟨gb116, 0, none⟩ (.slice Ao14 y113.length co14))) ?hg ?ho ?hn ?hr ?_; (case ho => rfl); (case hg => rfl); (case hn => rfl); (case hr => first | (go_simp; done) | (go_simp; rfl)); intro w17 hw; have n0_ : Aside0 (Kd.R (Kd.int .i64) 2 w17 w.heap.size (fun _ => True) (.slice Ao14 y113.length co14) y113) := ⟨(by rw [hw]; exact (by (with_reducible repeat (first | apply Kd.R_alloc | apply Kd.R_drewN | apply Kd.R_drew)); exact Kd.R_mono (Kd.R_far (p := ⟨gb116, 0, none⟩) (Kd.R_types HO115.out BK116.out (by decide)) (fun _ hk => hk.2) (.slice Ao14 y113.length co14)) (fun _ hk => trivial)))⟩; have n1_ : Aside0 (w17.heap[gb112]? = some (.cells #[.int .i64 a0_0, .slice A0_1 l0_1.length c0_1] 24 (0, 0))) := ⟨(by rw [hw]; exact (by (with_reducible repeat (first | refine blk_drewN ?_ _ | refine blk_drew ?_ | refine blk_alloc ?_ _)); refine blk_far ?_ NB112_116.out _; (with_reducible repeat (first | refine blk_drewN ?_ _ | refine blk_drew ?_ | refine blk_alloc ?_ _)); exact BK112.out))⟩; have n2_ : Aside0 (w17.heap[gb116]? = some (.cells #[.slice Ao14 y113.length co14] 71 (0, 0))) := ⟨(by rw [hw]; exact (by (with_reducible repeat (first | refine blk_drewN ?_ _ | refine blk_drew ?_ | refine blk_alloc ?_ _)); refine blk_put (cs := #[.slice none 0 0]) ?_ 0 _ rfl; (with_reducible repeat (first | refine blk_drewN ?_ _ | refine blk_drew ?_ | refine blk_alloc ?_ _)); exact BK116.out))⟩; have n3_ : Aside0 (Below w.heap.size w w17) := ⟨(by rw [hw]; exact zB)⟩; clear hw; clear HO115; clear BK112; clear BK116; clear HB; have HO115 := n0_; have BK112 := n1_; have BK116 := n2_; have HB := n3_; clear n0_ n1_ n2_ n3_; have hcz18_0 : w17.cell? ⟨gb116, 0, none⟩ = some (.slice Ao14 y113.length co14) := (blk_cell BK116.out 0).trans rfl; have hfz18_0 := blk_frozen BK116.out 0; have hcz19_0 : w17.cell? ⟨gb112, 0, none⟩ = some (.int .i64 a0_0) := (blk_cell BK112.out 0).trans rfl; have hcz19_1 : w17.cell? ⟨gb112, 1, none⟩ = some (.slice A0_1 l0_1.length c0_1) := (blk_cell BK112.out 1).trans rfl; have hfz19_0 := blk_frozen BK112.out 0; have hfz19_1 := blk_frozen BK112.out 1; have p7 : 0 ≤ ((ji4) : Int) := of_decide_eq_true zh; have q7 : ((ji4) : Int) < ((y113.length : Int) : Int) := of_decide_eq_true zh; obtain ⟨go7, co7, eo7, gb7, gl7, cl7, HG7⟩ := Kd.R_form HO115.out (by omega); (first | cases eo7 | (injection eo7 with ea_ en_ ec_; (first | subst ea_ | (injection ea_ with ea_; subst ea_)); subst ec_; clear en_)); have GB7 := Aside0.mk gb7; have GG7 := Aside0.mk HG7; clear gb7 gl7 HG7; obtain ⟨hx7_0, hf7_0⟩ := Kd.R_celln 0 HO115.out ((ji4) : Int) p7 q7; replace p7 := eq_true p7; replace q7 := eq_true q7; obtain ⟨hy20_, hz20_⟩ := Kd.R_celln 0 HO115.out ((ji4) : Int) (of_decide_eq_true zh) (of_decide_eq_true zh); have HP20 := Kd.R_putg HO115.out ((ji4) : Int) 1) | ((with_reducible refine gate_store (t := 2) (p := 15) rfl ?_); refine store_event (t := 2) (p := 15) (v := ?vo_w21) (w1 := (w17.setCell ⟨go7, ((ji4) : Int).toNat, none⟩ (.int .i64 1))) ?hg ?ho ?hn ?hr ?_; (case ho => rfl); (case hg => rfl); (case hn => rfl); (case hr => first | (go_simp; done) | (go_simp; rfl)); intro w21 hw; have hg : w17.grownBy w21 (some go7) := (by rw [hw]; exact HP20.2); have hp_ : Kd.R (Kd.int .i64) 2 w21 w.heap.size (fun _ => True) (.slice (some ⟨go7, 0, none⟩) y113.length co14) y117 := (by rw [hw, Ny117.out]; exact HP20.1); clear HP20; have n0_ := Aside0.mk (blk_grown (g := gb112) (o := .cells #[.int .i64 a0_0, .slice A0_1 l0_1.length c0_1] 24 (0, 0)) (zk BK112) hg (Kd.R_ne HO115.out BK112.out (by decide))); have n1_ := Aside0.mk (hp_); have n2_ := Aside0.mk (blk_grown (g := gb116) (o := .cells #[.slice (some ⟨go7, 0, none⟩) y113.length co14] 71 (0, 0)) (zk BK116) hg (Kd.R_ne HO115.out BK116.out (by decide))); have n3_ := Aside0.mk ((by rw [hw]; exact below_set (HB.out) GB7.out : Below w.heap.size w w21)); clear BK112; clear HO115; clear BK116; clear HB; have BK112 := n0_; have HO115 := n1_; have BK116 := n2_; have HB := n3_; clear n0_ n1_ n2_ n3_; clear hg hw hp_; have hcz22_0 : w21.cell? ⟨gb112, 0, none⟩ = some (.int .i64 a0_0) := (blk_cell BK112.out 0).trans rfl; have hcz22_1 : w21.cell? ⟨gb112, 1, none⟩ = some (.slice A0_1 l0_1.length c0_1) := (blk_cell BK112.out 1).trans rfl; have hfz22_0 := blk_frozen BK112.out 0; have hfz22_1 := blk_frozen BK112.out 1) | ((with_reducible refine gate_callee (f := 58) rfl ?_); refine goesL_ (some 17) rfl rfl Try.func58 zK rfl #[.agg #[.int .i64 a0_0, .slice A0_1 l0_1.length c0_1]] rfl zM ?_; (with_reducible refine (dag_byFrom.calls k a0_0 _ _ l0_1 t118 _ ?side1 ?side2 A8.out).mono ?_); (case side1 => repeat (first | exact (Kd.C_below HR0_1.out HB.out) | (with_reducible refine Kd.C_alloc ?_ _) | (with_reducible refine Kd.C_drewN ?_ _) | (with_reducible refine Kd.C_drew ?_))); (case side2 => exact HC0_1.out); rintro e w23 ⟨v119, rfl, ho0, hb⟩; refine ⟨_, rfl, ?_⟩; have n0_ := Aside0.mk (Kd.R_below (zR HO115) hb); have n1_ := Aside0.mk (Kd.S_lower ho0 (below_size zB)); have n2_ := Aside0.mk (blk_below (g := gb112) (o := .cells #[.int .i64 a0_0, .slice A0_1 l0_1.length c0_1] 24 (0, 0)) (zk BK112) hb); have n3_ := Aside0.mk (blk_below (g := gb116) (o := .cells #[.slice (some ⟨go7, 0, none⟩) y113.length co14] 71 (0, 0)) (zk BK116) hb); have n4_ := Aside0.mk (below_step zB hb); clear HO115; clear BK112; clear BK116; clear HB; have HO115 := n0_; have HO120 := n1_; have BK112 := n2_; have BK116 := n3_; have HB := n4_; clear n0_ n1_ n2_ n3_ n4_; (try clear hb); (try clear hb2); (try clear hk); (try clear hi); (try clear ho0); have hcz24_0 : w23.cell? ⟨gb116, 0, none⟩ = some (.slice (some ⟨go7, 0, none⟩) y113.length co14) := (blk_cell BK116.out 0).trans rfl; have hfz24_0 := blk_frozen BK116.out 0))
     have hlB : t118.length = y113.length := by have h_ := HSF.out; simp only [waysSafe, Bool.and_eq_true, beq_iff_eq] at h_; exact h_.1
     have hj0 : 0 ≤ ji4 := of_decide_eq_true c5b0
     have hj1 : ji4 < (y113.length : Int) := of_decide_eq_true c6b0
     have hposB : 0 < t118.length := by omega
     obtain ⟨gB, cB, rfl, gbB, glB, clB, HGB⟩ := Kd.S_form HO120.out hposB
     have HLB := Aside0.mk hlB
     clear hlB
     go_at_call 80
     refine ((callsIn_wide (n := 3)).1 (backward_in Fence.wide 3 trivial rfl _ _ _ _)).mono ?_
     rintro e w25 ⟨rfl, hw25⟩
     have hb25 : Below w23.heap.size w23 w25 := by rw [hw25]; exact below_alloc (Below.refl _ _) _
     have hBs0 : w25.cell? ⟨w23.heap.size, 0, none⟩ = some (.slice (some ⟨gB, 0, none⟩) t118.length cB) := by rw [hw25]; exact (blk_cell (heap_alloc_new w23 _) 0).trans rfl
     clear hw25
     have HO2 := Aside0.mk (Kd.R_below HO115.out hb25)
     have HNE7 : Aside0 (go7 ≠ w23.heap.size) := ⟨by obtain ⟨cs, hb⟩ := Kd.R_typed HO115.out go7 rfl; exact Nat.ne_of_lt (blk_lt hb)⟩
     have HS2 := Aside0.mk (Kd.S_below HO120.out hb25)
     have BK112b := Aside0.mk (blk_below BK112.out hb25)
     have BK116b := Aside0.mk (blk_below BK116.out hb25)
     have HB2 := Aside0.mk (below_step HB.out hb25)
     clear HO115 HO120 BK112 BK116 HB
     obtain ⟨V, hVdef⟩ : ∃ V : Fin t118.length → Value, V = fun j => (w25.cell? ⟨gB, j.val, none⟩).getD undef := ⟨_, rfl⟩
     have hV : ∀ (W : World), Kd.S (Kd.slice 3 (Kd.int .i64)) 25 W w.heap.size (fun _ => True) (.slice (some ⟨gB, 0, none⟩) t118.length cB) t118 → ∀ j : Fin t118.length, ∃ A c, W.cell? ⟨gB, j.val, none⟩ = some (.slice A (rd_L2 t118 j.val).length c) ∧ (rd_L2 t118 j.val).length ≤ c ∧ (Kd.int .i64).C W A (rd_L2 t118 j.val).length (rd_L2 t118 j.val) := by
      intro W h j
      obtain ⟨ad, A, c, e, h1, h2, h3⟩ := at_L2 (Kd.S_reads' h).2.2 (j.val : Int) (by omega) (by have := j.isLt; omega)
      cases e
      simp only [add_plain, Int.toNat_natCast] at h1
      exact ⟨A, c, h1, h2, h3⟩
     have HV := Aside0.mk hV
     clear hV
     have hVc : ∀ j : Fin t118.length, w25.cell? ⟨gB, 0 + j.val, none⟩ = some (V j) := by
      intro j
      obtain ⟨A, c, h1, _, _⟩ := HV.out _ HS2.out j
      simp only [hVdef, Nat.zero_add, h1, Option.getD_some]
     have HVC := Aside0.mk hVc
     clear hVc hVdef
     have HBS0 := Aside0.mk hBs0
     clear hBs0
     have HB25 := Aside0.mk hb25
     clear hb25
     go_wp2
     refine (wpIn_wide (n := 5)).1 ?_
     refine wpIn_rangeFunc_ownF (n := 5) rfl (by omega) (gf := 101) (lb := #[.pointer (some ⟨w23.heap.size, 0, none⟩)]) rfl trivial (enters_of Try.func101 zK rfl)
      (backward_stops Fence.wide 4 trivial rfl (by omega) w23.heap.size gB 0 t118.length cB V (by have := HLB.out; have h3 := of_decide_eq_true c3b1; have h4 : y113.length = a0_0.toNat := (by rw [Ny113.out]; simp); omega) w25 HBS0.out HVC.out)
      KpBack.trans (fun W l o o' _ h ho _ => KpBack.put W l o o' h ho) (Below.refl _ _) (fun _ => rfl)
      (fun (pre : List (Fin t118.length)) (W : World) => W.heap[gb112]? = some (.cells #[.int .i64 a0_0, .slice A0_1 l0_1.length c0_1] 24 (0, 0)) ∧ W.heap[gb116]? = some (.cells #[.slice (some ⟨go7, 0, none⟩) y113.length co14] 71 (0, 0)) ∧ Kd.R (Kd.int .i64) 2 W w.heap.size (fun _ => True) (.slice (some ⟨go7, 0, none⟩) y113.length co14) (waysFrom l0_1 t118 y117 pre) ∧ Kd.S (Kd.slice 3 (Kd.int .i64)) 25 W w.heap.size (fun _ => True) (.slice (some ⟨gB, 0, none⟩) t118.length cB) t118 ∧ (∀ j : Fin t118.length, W.cell? ⟨gB, 0 + j.val, none⟩ = some (V j)) ∧ Below w.heap.size w W)
      (fun _ _ _ => False) ?hI (fun _ _ _ _ _ h _ _ => h) ⟨BK112b.out, BK116b.out, HO2.out, HS2.out, HVC.out, HB2.out⟩
      (fun x => { tmps := #[.agg #[.int .i64 a0_0, .slice A0_1 l0_1.length c0_1], .pointer (some ⟨gb112, 0, none⟩), .slice none 0 0, .pointer (some ⟨gb116, 0, none⟩), .int .i64 (x.val : Int), V x, undef, undef, .pointer (some ⟨gb112, 0, none⟩), .int .i64 a0_0, .slice (some ⟨go7, 0, none⟩) y113.length co14, .slice (some ⟨go7, 0, none⟩) y113.length co14, .pointer (some ⟨gb112, 0, none⟩), .int .i64 a0_0, .int .i64 ji4, .pointer (some ⟨go7, ji4.toNat, none⟩), .agg #[.int .i64 a0_0, .slice A0_1 l0_1.length c0_1], .slice (some ⟨gB, 0, none⟩) t118.length cB, .func (.func 101) #[] #[.pointer (some ⟨w23.heap.size, 0, none⟩)], .int .i64 (x.val : Int), V x, undef, undef, undef, undef, undef, undef, undef, undef, undef, undef, undef, undef, undef, undef, undef, undef, undef, undef, undef, undef, undef, undef, undef, undef, undef], defers := [] }) ?assign ?body ?done ?stop
     case hI =>
      as_aux_lemma =>
      rintro pre A B row ⟨h1, h2, h3, h4, h5, h6⟩ hg hr
      have hne : ∀ {g : Nat} {cs : Array Value} {t : Nat}, A.heap[g]? = some (.cells cs t (0, 0)) → some g ≠ row := by
       intro g cs t hb e
       obtain ⟨_, o, ho, hc⟩ := hr g e.symm
       rw [hb] at ho
       cases ho
       simp [Obj.isCells] at hc
      refine ⟨blk_grown h1 hg (hne h1), blk_grown h2 hg (hne h2), ?_, ?_, ?_, ?_⟩
      ·exact Kd.R_mono (Kd.R_grown (Kd.R_bound h3) hg (fun k hk => by obtain ⟨_, _, _, q, _, cs, hb⟩ := hk; exact hne hb)) (fun _ _ => trivial)
      ·exact Kd.S_mono (Kd.S_grown (Kd.S_bound h4) hg (fun k hk => by obtain ⟨_, _, _, q, _, cs, hb⟩ := hk; exact hne hb)) (fun _ _ => trivial)
      ·exact fun j => cell_kept (h5 j) hg (fun r e => (hr r e).2)
      ·have h7 := HB2.out.size
       exact h6.grown hg h6.size (fun k e => Nat.le_trans h7 (hr k e).1)
     case assign =>
      intro l x W K hK
      gi_wp2
      exact hK
     case body =>
      as_aux_lemma =>
      rintro l pre x W ⟨BK112, BK116, HO, HS, hVW, HB⟩ hlen
      obtain ⟨A9_1, c9_1, hx0, hc9, hr9⟩ := HV.out W HS x
      have hVx : V x = .slice A9_1 (rd_L2 t118 x.val).length c9_1 := by
       have h1 := hVW x
       rw [Nat.zero_add, hx0] at h1
       exact (Option.some.inj h1).symm
      rw [hVx]
      have HVX := Aside0.mk hVx
      clear hVx hx0
      have BK112w := Aside0.mk BK112
      have BK116w := Aside0.mk BK116
      have HOw := Aside0.mk HO
      have HSw := Aside0.mk HS
      have HVw := Aside0.mk hVW
      have HBw := Aside0.mk HB
      have HR9 := Aside0.mk hr9
      have HC9 := Aside0.mk hc9
      clear BK112 BK116 HO HS hVW HB hr9 hc9
      gi_wp2
      gi_loopw [23] (fun v23 wr => ∃ j : Nat, j ≤ (rd_L2 t118 x.val).length ∧ v23 = .int .i64 (j : Int) ∧ Aside0 (wr.heap[gb112]? = some (.cells #[.int .i64 a0_0, .slice A0_1 l0_1.length c0_1] 24 (0, 0))) ∧ Aside0 (wr.heap[gb116]? = some (.cells #[.slice (some ⟨go7, 0, none⟩) y113.length co14] 71 (0, 0))) ∧ Aside0 (Kd.R (Kd.int .i64) 2 wr w.heap.size (fun _ => True) (.slice (some ⟨go7, 0, none⟩) y113.length co14) (((rd_L2 t118 x.val).take j).foldl (waysArc l0_1 (x.val : Int)) (waysFrom l0_1 t118 y117 pre))) ∧ Aside0 (Kd.S (Kd.slice 3 (Kd.int .i64)) 25 wr w.heap.size (fun _ => True) (.slice (some ⟨gB, 0, none⟩) t118.length cB) t118) ∧ Aside0 (∀ j : Fin t118.length, wr.cell? ⟨gB, 0 + j.val, none⟩ = some (V j)) ∧ Aside0 (Below w.heap.size w wr) ∧ Aside0 (KeepsOthers W wr) ∧ Aside0 (KpBack w23.heap.size gB 0 W wr))
       (fun v23 _ => (rd_L2 t118 x.val).length - (intOf v23).toNat)
      case atStart => exact ⟨0, Nat.zero_le _, by first | rfl | simp, BK112w, BK116w, by simpa using HOw, HSw, HVw, HBw, ⟨KeepsOthers.refl _⟩, ⟨fun _ h => h, fun _ _ h => h⟩⟩
      case round =>
       obtain ⟨j, hj, rfl, BK112, BK116, HO, HS, HVW, HB, HK, HKP⟩ := hrel
       by_cases hlt : j < (rd_L2 t118 x.val).length
       ·have hsafe := waysSafe_at HSF.out x.val x.isLt j hlt
        obtain ⟨p0, p1, p2, p3, p4⟩ := hsafe
        have P0 := Aside0.mk p0
        clear p0
        have hxl : (x.val : Int) < (y113.length : Int) := by have h1 := x.isLt; have h2 := HLB.out; omega
        obtain ⟨A2, c2, hx0, hc2, hr2⟩ := HV.out wr HS.out x
        have e0 : (Value.slice A2 (rd_L2 t118 x.val).length c2) = .slice A9_1 (rd_L2 t118 x.val).length c9_1 := by
         have h1 := HVW.out x
         rw [Nat.zero_add, hx0, HVX.out] at h1
         exact Option.some.inj h1
        injection e0 with eA _ ec
        subst eA
        subst ec
        clear hx0
        obtain ⟨x1, hx1⟩ : ∃ x1, x1 = ((rd_L2 t118 x.val).take j).foldl (waysArc l0_1 (x.val : Int)) (waysFrom l0_1 t118 y117 pre) := ⟨_, rfl⟩
        rw [← hx1] at HO
        have hlen1 : x1.length = y113.length := by rw [hx1, waysArcs_length, waysFrom_length, Ny117.out]; simp
        have HX1 := Aside0.mk hx1
        have HLEN1 := Aside0.mk hlen1
        clear hx1
        have hxl1 : (x.val : Int) < (x1.length : Int) := by omega
        have hto1 : (rd_T69 l0_1 (rd (rd_L2 t118 x.val) (j : Int))).f1 < (x1.length : Int) := by omega
        clear hlen1
        obtain ⟨ad121, e121, hx121_0⟩ := Kd.at_int hr2 (j : Int) (by omega) (by omega)
        cases e121
        simp only [Int.toNat_natCast] at hx121_0
        have hx122_0 := (Kd.R_celln 0 HO.out (x.val : Int) (by omega) hxl).1
        simp only [Int.toNat_natCast] at hx122_0
        have hx124_0 := (Kd.R_celln 0 HO.out ((rd_T69 l0_1 (rd (rd_L2 t118 x.val) (j : Int))).f1) p3 p4).1
        obtain ⟨ad123, e123, hx123_0, hx123_1, hx123_2⟩ := at_T69 HR0_1.out (rd (rd_L2 t118 x.val) (j : Int)) p1 p2
        have hw123_2 := hx123_2
        have hw123_1 := hx123_1
        have hw123_0 := hx123_0
        cases e123
        replace hx123_0 := (HB.out.cell (World.block_lt_of_cell? w _ hx123_0)).trans hx123_0
        replace hx123_1 := (HB.out.cell (World.block_lt_of_cell? w _ hx123_1)).trans hx123_1
        replace hx123_2 := (HB.out.cell (World.block_lt_of_cell? w _ hx123_2)).trans hx123_2
        have t0 : decide ((j : Int) < ((rd_L2 t118 x.val).length : Int)) = true := decide_eq_true (by omega)
        have t1 : decide (j < (rd_L2 t118 x.val).length) = true := decide_eq_true hlt
        have t2 : decide (0 ≤ (x.val : Int)) = true := decide_eq_true (by omega)
        have t3 : decide ((x.val : Int) < (y113.length : Int)) = true := decide_eq_true hxl
        have t3' : decide (x.val < y113.length) = true := decide_eq_true (by omega)
        have t4 : decide (0 ≤ rd (rd_L2 t118 x.val) (j : Int)) = true := decide_eq_true p1
        have t5 : decide (rd (rd_L2 t118 x.val) (j : Int) < (l0_1.length : Int)) = true := decide_eq_true p2
        have t6 : decide (0 ≤ (rd_T69 l0_1 (rd (rd_L2 t118 x.val) (j : Int))).f1) = true := decide_eq_true p3
        have t7 : decide ((rd_T69 l0_1 (rd (rd_L2 t118 x.val) (j : Int))).f1 < (y113.length : Int)) = true := decide_eq_true p4
        gi_wp2
        as_aux_lemma =>
        have n0_ := Aside0.mk (Kd.R_drew HO.out)
        have n1_ := Aside0.mk (Kd.S_drew HS.out)
        have n2_ := Aside0.mk (blk_drew BK112.out)
        have n3_ := Aside0.mk (blk_drew BK116.out)
        have n4_ := Aside0.mk (below_drew1 HB.out)
        have n5_ : Aside0 (∀ j : Fin t118.length, wr.drew.cell? ⟨gB, 0 + j.val, none⟩ = some (V j)) := HVW
        have n6_ : Aside0 (KeepsOthers W wr.drew) := ⟨HK.out.trans (KeepsOthers.drew _)⟩
        have n7_ : Aside0 (KpBack w23.heap.size gB 0 W wr.drew) := HKP
        clear HO HS BK112 BK116 HB HVW HK HKP
        have HO := n0_
        have HS := n1_
        have BK112 := n2_
        have BK116 := n3_
        have HB := n4_
        have HVW := n5_
        have HK := n6_
        have HKP := n7_
        clear n0_ n1_ n2_ n3_ n4_ n5_ n6_ n7_
        obtain ⟨t125, ht125⟩ : ∃ t125, t125 = capV (rd x1 (x.val : Int)) (rd x1 ((rd_T69 l0_1 (rd (rd_L2 t118 x.val) (j : Int))).f1)) := ⟨_, rfl⟩
        have A33 : dag_capped.f (rd x1 (x.val : Int)) (rd x1 ((rd_T69 l0_1 (rd (rd_L2 t118 x.val) (j : Int))).f1)) = some t125 := by rw [ht125]; exact capped_eq _ _
        have HT125 := Aside0.mk ht125
        clear ht125
        have HA33 := Aside0.mk A33
        clear A33
        refine Bridge.start_in (n := 18) (S := fun w' => w'.cell? ⟨gb116, 0, none⟩ = some (.slice (some ⟨go7, 0, none⟩) y113.length co14) ∧ w'.cell? ⟨gb112, 0, none⟩ = some (.int .i64 a0_0) ∧ w'.cell? ⟨gb112, 1, none⟩ = some (.slice (some ad123) l0_1.length c0_1) ∧ w'.cell? ⟨go7, x.val, none⟩ = some (.int .i64 (rd x1 (x.val : Int))) ∧ w'.cell? (ad123.add (((rd (rd_L2 t118 x.val) (j : Int))).toNat * 3)) = some (.int .i64 ((rd_T69 l0_1 (rd (rd_L2 t118 x.val) (j : Int))).f0)) ∧ w'.cell? ⟨(ad123.add (((rd (rd_L2 t118 x.val) (j : Int))).toNat * 3)).block, (ad123.add (((rd (rd_L2 t118 x.val) (j : Int))).toNat * 3)).off + 1, none⟩ = some (.int .i64 ((rd_T69 l0_1 (rd (rd_L2 t118 x.val) (j : Int))).f1)) ∧ w'.cell? ⟨(ad123.add (((rd (rd_L2 t118 x.val) (j : Int))).toNat * 3)).block, (ad123.add (((rd (rd_L2 t118 x.val) (j : Int))).toNat * 3)).off + 2, none⟩ = some (.int .i64 ((rd_T69 l0_1 (rd (rd_L2 t118 x.val) (j : Int))).f2)) ∧ w'.cell? ⟨go7, (((rd_T69 l0_1 (rd (rd_L2 t118 x.val) (j : Int))).f1)).toNat, none⟩ = some (.int .i64 (rd x1 ((rd_T69 l0_1 (rd (rd_L2 t118 x.val) (j : Int))).f1)))) (ds := [17]) #[false, false, false, false, false, false, false, false, false, false, false, false, false, false, false, false, false, false] zK zK (by rintro ⟨_, _, h⟩; exact h) rfl rfl ⟨(blk_cell BK116.out 0).trans rfl, (blk_cell BK112.out 0).trans rfl, (blk_cell BK112.out 1).trans rfl, hx122_0, ((HB.out.cell (World.block_lt_of_cell? w _ hw123_0)).trans hw123_0), ((HB.out.cell (World.block_lt_of_cell? w _ hw123_1)).trans hw123_1), ((HB.out.cell (World.block_lt_of_cell? w _ hw123_2)).trans hw123_2), hx124_0⟩ (fun hHeld => ?_); refine with_tabW dag_ways.tab9 dag_ways.bits9 (fun HT_ HW_ => ?_)
        generalize hw35 : wr.drew = w35 at HO HS HVW BK112 BK116 HB HK HKP hx122_0 hx123_0 hx123_1 hx123_2 hx124_0 hHeld ⊢
        refine pure_ (i := 1) (N := some 28) (v := ?_) (a' := ?_) #[false, true, false, false, false, false, false, false, false, false, false, false, false, false, false, false, false, false] rfl rfl (any_of HT_.out zK) (fun _ _ _ h => h) (Or.inl ⟨by rfl, ?_⟩) ?_ ?_
        rotate_left
        ·intro w'
         go_simp
         with_reducible rfl
        rotate_left
        ·simp only [Act.put, List.setIfInBounds_toArray, List.set_cons_zero, List.set_cons_succ, i64_w, i32_w]
         rfl
        refine pure_ (i := 3) (N := some 30) (v := ?_) (a' := ?_) #[false, true, false, true, false, false, false, false, false, false, false, false, false, false, false, false, false, false] rfl rfl (any_of HT_.out zK) (fun _ _ _ h => h) (Or.inl ⟨by rfl, ?_⟩) ?_ ?_
        rotate_left
        ·intro w'
         go_simp
         with_reducible rfl
        rotate_left
        ·simp only [Act.put, List.setIfInBounds_toArray, List.set_cons_zero, List.set_cons_succ, i64_w, i32_w]
         rfl
        refine pure_ (i := 7) (N := some 34) (v := ?_) (a' := ?_) #[false, true, false, true, false, false, false, true, false, false, false, false, false, false, false, false, false, false] rfl rfl (any_of HT_.out zK) (fun _ _ _ h => h) (Or.inl ⟨by rfl, ?_⟩) ?_ ?_
        rotate_left
        ·intro w'
         go_simp
         with_reducible rfl
        rotate_left
        ·simp only [Act.put, List.setIfInBounds_toArray, List.set_cons_zero, List.set_cons_succ, i64_w, i32_w]
         rfl
        refine pure_ (i := 9) (N := some 36) (v := ?_) (a' := ?_) #[false, true, false, true, false, false, false, true, false, true, false, false, false, false, false, false, false, false] rfl rfl (any_of HT_.out zK) (fun _ _ _ h => h) (Or.inl ⟨by rfl, ?_⟩) ?_ ?_
        rotate_left
        ·intro w'
         go_simp
         with_reducible rfl
        rotate_left
        ·simp only [Act.put, List.setIfInBounds_toArray, List.set_cons_zero, List.set_cons_succ, i64_w, i32_w]
         rfl
        refine take_ (i := 0) (N := some 27) (v := ?_) (a' := ?_) #[true, true, false, true, false, false, false, true, false, true, false, false, false, false, false, false, false, false] rfl rfl (take_ofW HT_.out HW_.out zK) (fun _ _ _ h => h) (Or.inl ⟨by rfl, ?_⟩) hHeld ?_ ?_
        rotate_left
        ·rintro w' ⟨s0, s1, s2, s3, s4, s5, s6, s7⟩
         go_simp
         with_reducible rfl
        rotate_left
        ·simp only [Act.put, List.setIfInBounds_toArray, List.set_cons_zero, List.set_cons_succ, i64_w, i32_w]
         rfl
        refine take_ (i := 2) (N := some 29) (v := ?_) (a' := ?_) #[true, true, true, true, false, false, false, true, false, true, false, false, false, false, false, false, false, false] rfl rfl (take_ofW HT_.out HW_.out zK) (fun _ _ _ h => h) (Or.inl ⟨by rfl, ?_⟩) hHeld ?_ ?_
        rotate_left
        ·rintro w' ⟨s0, s1, s2, s3, s4, s5, s6, s7⟩
         go_simp
         with_reducible rfl
        rotate_left
        ·simp only [Act.put, List.setIfInBounds_toArray, List.set_cons_zero, List.set_cons_succ, i64_w, i32_w]
         rfl
        refine pure_ (i := 4) (N := some 31) (v := ?_) (a' := ?_) #[true, true, true, true, true, false, false, true, false, true, false, false, false, false, false, false, false, false] rfl rfl (any_of HT_.out zK) (fun _ _ _ h => h) (Or.inl ⟨by rfl, ?_⟩) ?_ ?_
        rotate_left
        ·intro w'
         go_simp
         with_reducible rfl
        rotate_left
        ·simp only [Act.put, List.setIfInBounds_toArray, List.set_cons_zero, List.set_cons_succ, i64_w, i32_w]
         rfl
        refine take_ (i := 5) (N := some 32) (v := ?_) (a' := ?_) #[true, true, true, true, true, true, false, true, false, true, false, false, false, false, false, false, false, false] rfl rfl (take_ofW HT_.out HW_.out zK) (fun _ _ _ h => h) (Or.inl ⟨by rfl, ?_⟩) hHeld ?_ ?_
        rotate_left
        ·rintro w' ⟨s0, s1, s2, s3, s4, s5, s6, s7⟩
         go_simp
         with_reducible rfl
        rotate_left
        ·simp only [Act.put, List.setIfInBounds_toArray, List.set_cons_zero, List.set_cons_succ, i64_w, i32_w]
         rfl
        refine take_ (i := 6) (N := some 33) (v := ?_) (a' := ?_) #[true, true, true, true, true, true, true, true, false, true, false, false, false, false, false, false, false, false] rfl rfl (take_ofW HT_.out HW_.out zK) (fun _ _ _ h => h) (Or.inl ⟨by rfl, ?_⟩) hHeld ?_ ?_
        rotate_left
        ·rintro w' ⟨s0, s1, s2, s3, s4, s5, s6, s7⟩
         go_simp
         with_reducible rfl
        rotate_left
        ·simp only [Act.put, List.setIfInBounds_toArray, List.set_cons_zero, List.set_cons_succ, i64_w, i32_w]
         rfl
        refine take_ (i := 8) (N := some 35) (v := ?_) (a' := ?_) #[true, true, true, true, true, true, true, true, true, true, false, false, false, false, false, false, false, false] rfl rfl (take_ofW HT_.out HW_.out zK) (fun _ _ _ h => h) (Or.inl ⟨by rfl, ?_⟩) hHeld ?_ ?_
        rotate_left
        ·rintro w' ⟨s0, s1, s2, s3, s4, s5, s6, s7⟩
         go_simp
         with_reducible rfl
        rotate_left
        ·simp only [Act.put, List.setIfInBounds_toArray, List.set_cons_zero, List.set_cons_succ, i64_w, i32_w]
         rfl
        refine pure_ (i := 10) (N := some 37) (v := ?_) (a' := ?_) #[true, true, true, true, true, true, true, true, true, true, true, false, false, false, false, false, false, false] rfl rfl (any_of HT_.out zK) (fun _ _ _ h => h) (Or.inl ⟨by rfl, ?_⟩) ?_ ?_
        rotate_left
        ·intro w'
         go_simp
         with_reducible rfl
        rotate_left
        ·simp only [Act.put, List.setIfInBounds_toArray, List.set_cons_zero, List.set_cons_succ, i64_w, i32_w]
         rfl
        refine pure_ (i := 11) (N := some 38) (v := ?_) (a' := ?_) #[true, true, true, true, true, true, true, true, true, true, true, true, false, false, false, false, false, false] rfl rfl (any_of HT_.out zK) (fun _ _ _ h => h) (Or.inl ⟨by rfl, ?_⟩) ?_ ?_
        rotate_left
        ·intro w'
         go_simp
         with_reducible rfl
        rotate_left
        ·simp only [Act.put, List.setIfInBounds_toArray, List.set_cons_zero, List.set_cons_succ, i64_w, i32_w]
         rfl
        refine take_ (i := 12) (N := some 39) (v := ?_) (a' := ?_) #[true, true, true, true, true, true, true, true, true, true, true, true, true, false, false, false, false, false] rfl rfl (take_ofW HT_.out HW_.out zK) (fun _ _ _ h => h) (Or.inl ⟨by rfl, ?_⟩) hHeld ?_ ?_
        rotate_left
        ·rintro w' ⟨s0, s1, s2, s3, s4, s5, s6, s7⟩
         go_simp
         with_reducible rfl
        rotate_left
        ·simp only [Act.put, List.setIfInBounds_toArray, List.set_cons_zero, List.set_cons_succ, i64_w, i32_w]
         rfl
        refine pure_ (i := 13) (N := some 40) (v := ?_) (a' := ?_) #[true, true, true, true, true, true, true, true, true, true, true, true, true, true, false, false, false, false] rfl rfl (any_of HT_.out zK) (fun _ _ _ h => h) (Or.inl ⟨by rfl, ?_⟩) ?_ ?_
        rotate_left
        ·intro w'
         go_simp
         with_reducible rfl
        rotate_left
        ·simp only [Act.put, List.setIfInBounds_toArray, List.set_cons_zero, List.set_cons_succ, i64_w, i32_w]
         rfl
        refine take_ (i := 14) (N := some 41) (v := ?_) (a' := ?_) #[true, true, true, true, true, true, true, true, true, true, true, true, true, true, true, false, false, false] rfl rfl (take_ofW HT_.out HW_.out zK) (fun _ _ _ h => h) (Or.inl ⟨by rfl, ?_⟩) hHeld ?_ ?_
        rotate_left
        ·rintro w' ⟨s0, s1, s2, s3, s4, s5, s6, s7⟩
         go_simp
         with_reducible rfl
        rotate_left
        ·simp only [Act.put, List.setIfInBounds_toArray, List.set_cons_zero, List.set_cons_succ, i64_w, i32_w]
         rfl
        refine one_ (i := 15) (N := some 42) #[true, true, true, true, true, true, true, true, true, true, true, true, true, true, true, true, false, false] rfl rfl (one_of HT_.out zK) (by decide) (fun K hK => ?_)
        refine goes_ Try.func81 zK rfl #[.int .i64 (rd x1 (x.val : Int)), .int .i64 (rd x1 ((rd_T69 l0_1 (rd (rd_L2 t118 x.val) (j : Int))).f1))] (by rfl) rfl rfl zM ?_
        with_reducible refine (dag_capped.calls (rd x1 (x.val : Int)) (rd x1 ((rd_T69 l0_1 (rd (rd_L2 t118 x.val) (j : Int))).f1)) t125 _ HA33.out).mono ?_
        rintro e w' ⟨rfl, ⟨nd, rfl⟩⟩
        refine ⟨_, rfl, ?_⟩
        have p34 : 0 ≤ (x.val : Int) := by omega
        have q34 : (x.val : Int) < ((y113.length : Int) : Int) := hxl
        obtain ⟨hx34_0, hf34_0⟩ := Kd.R_celln 0 HO.out (x.val : Int) p34 q34
        simp only [Int.toNat_natCast] at hx34_0 hf34_0
        replace p34 := eq_true p34
        replace q34 := eq_true q34
        have HP37 := Kd.R_putg HO.out (x.val : Int) t125
        simp only [Int.toNat_natCast] at HP37
        have HQ37 := Aside0.mk HP37
        clear HP37
        refine hK.out _ _ ⟨(blk_cell BK116.out 0).trans rfl, (blk_cell BK112.out 0).trans rfl, (blk_cell BK112.out 1).trans rfl, hHeld.2.2.2.1, ((HB.out.cell (World.block_lt_of_cell? w _ hw123_0)).trans hw123_0), ((HB.out.cell (World.block_lt_of_cell? w _ hw123_1)).trans hw123_1), ((HB.out.cell (World.block_lt_of_cell? w _ hw123_2)).trans hw123_2), hHeld.2.2.2.2.2.2.2⟩ (fun hHeld => ?_)
        clear hK K
        refine norm_ (a' := ?_) ?_ ?_
        rotate_left
        ·show Act.put _ (some 42) _ = _
         simp only [Act.put, List.setIfInBounds_toArray, List.set_cons_zero, List.set_cons_succ, i64_w, i32_w]
         rfl
        refine pure_ (i := 16) (N := some 43) (v := ?_) (a' := ?_) #[true, true, true, true, true, true, true, true, true, true, true, true, true, true, true, true, true, false] rfl rfl (any_of HT_.out zK) (fun _ _ _ h => h) (Or.inl ⟨by rfl, ?_⟩) ?_ ?_
        rotate_left
        ·intro w'
         go_simp
         with_reducible rfl
        rotate_left
        ·simp only [Act.put, List.setIfInBounds_toArray, List.set_cons_zero, List.set_cons_succ, i64_w, i32_w]
         rfl
        refine last_ (i := 17) (N := none) #[true, true, true, true, true, true, true, true, true, true, true, true, true, true, true, true, true, true] rfl rfl (one_of HT_.out zK) (by decide) (fun K hK => ?_)
        refine skip_ (w1 := ?_) (by rfl) rfl ?_ ?_
        rotate_left
        ·go_simp
         rfl
        refine hK.out _ _ ?_
        clear hK K
        refine done_ (done_of HT_.out zK) ?_
        have hgB : go7 ≠ gB := by
         obtain ⟨cs, hb⟩ := Kd.S_typed HS.out gB rfl
         have h1 := Kd.R_ne HO.out hb (by decide)
         intro e; exact h1 (by rw [e]; rfl)
        have h112 : gb112 ≠ go7 := by have h_ := Kd.R_ne HO.out BK112.out (by decide); intro e_; exact h_ (by rw [e_]; rfl)
        have h116 : gb116 ≠ go7 := by have h_ := Kd.R_ne HO.out BK116.out (by decide); intro e_; exact h_ (by rw [e_]; rfl)
        have HG := Aside0.mk hgB
        have H112 := Aside0.mk h112
        have H116 := Aside0.mk h116
        clear hgB h112 h116
        gi_wp2
        go_roundw
        case measure => exact round_less hlt P0.out
        case rel =>
         refine ⟨j + 1, hlt, by rw [round_next hlt P0.out], ⟨?_⟩, ⟨?_⟩, ⟨?_⟩, ⟨?_⟩, ⟨?_⟩, ⟨?_⟩, ⟨?_⟩, ⟨?_⟩⟩
         ·exact blk_far (blk_drewN BK112.out _) H112.out _
         ·exact blk_far (blk_drewN BK116.out _) H116.out _
         ·have h1 := (Kd.R_putg (Kd.R_drewN HO.out nd) (x.val : Int) (capV (rd x1 (x.val : Int)) (rd x1 ((rd_T69 l0_1 (rd (rd_L2 t118 x.val) (j : Int))).f1)))).1
          simp only [Int.toNat_natCast] at h1
          have e1 : ((rd_L2 t118 x.val).take (j + 1)).foldl (waysArc l0_1 (x.val : Int)) (waysFrom l0_1 t118 y117 pre) = x1.set x.val (capV (rd x1 (x.val : Int)) (rd x1 ((rd_T69 l0_1 (rd (rd_L2 t118 x.val) (j : Int))).f1))) := by
           rw [List.take_succ_eq_append_getElem hlt, List.foldl_append, ← HX1.out]
           simp only [List.foldl_cons, List.foldl_nil, waysArc, Int.toNat_natCast]
           have e2 : rd (rd_L2 t118 x.val) (j : Int) = (rd_L2 t118 x.val)[j] := by simp [rd, hlt]
           rw [e2]
          rw [e1, HT125.out]
          exact h1
         ·refine Kd.S_mono (Kd.S_far (p := ⟨go7, x.val, none⟩) (Kd.S_bound (Kd.S_drewN HS.out nd)) (fun k hk => ?_) _) (fun _ _ => trivial)
          obtain ⟨_, _, _, q, hq, cs, hb⟩ := hk
          intro e
          rw [e] at hb
          obtain ⟨cs2, hb2⟩ := Kd.R_typed HO.out go7 rfl
          have h3 : (w35.drewN nd).heap[go7]? = w35.heap[go7]? := rfl
          rw [show (⟨go7, x.val, none⟩ : Addr).block = go7 from rfl, h3, hb2] at hb
          simp only [Option.some.injEq, Obj.cells.injEq] at hb
          rw [← hb.2.1] at hq
          revert hq
          decide
         ·intro j2
          exact (cell_far (p := ⟨go7, x.val, none⟩) (fun e => HG.out e.symm) _).trans (HVW.out j2)
         ·exact below_set (pw_below_drewN HB.out nd) GB7.out
         ·exact (HK.out.trans (⟨Nat.le_refl _, fun _ _ h _ => h⟩ : KeepsOthers w35 (w35.drewN nd))).trans (KeepsOthers.setCell _ _ _)
         ·refine KpBack.trans HKP.out ⟨fun v hv => ?_, fun j2 v hv => ?_⟩
          ·exact (cell_far (p := ⟨go7, x.val, none⟩) (fun e => HNE7.out e.symm) _).trans hv
          ·exact (cell_far (p := ⟨go7, x.val, none⟩) (fun e => HG.out e.symm) _).trans hv
       ·obtain rfl : j = (rd_L2 t118 x.val).length := by omega
        gi_wp2
        refine ⟨HK.out, HKP.out, BK112.out, BK116.out, ?_, HS.out, HVW.out, HB.out⟩
        rw [waysFrom_snoc]
        have h1 := HO.out
        rw [List.take_length] at h1
        exact h1
     case done =>
      as_aux_lemma =>
      rintro D ys W hD rfl ⟨BK112, BK116, HO, HS, hVW, HB⟩ hK
      have hcz : W.cell? ⟨gb116, 0, none⟩ = some (.slice (some ⟨go7, 0, none⟩) y113.length co14) := (blk_cell BK116 0).trans rfl
      have HKD := Aside0.mk hK
      clear hK BK112 HS hVW
      go_wp2
      refine ⟨by simp, .inl ⟨_, _, rfl, run_takeDeferred HKD.out, ?_⟩⟩
      have hgD := grownBy_putObj' W D (.deferred none)
      refine ⟨_, results_tmp rfl _ _ _, _, rfl, ?_, ?_⟩
      ·refine Kd.R_mono (Kd.R_grown (Kd.R_bound HO) hgD (fun k hk e => ?_)) (fun _ _ => trivial)
       obtain ⟨_, _, _, q, _, cs, hb⟩ := hk
       cases e
       rw [HKD.out] at hb
       cases hb
      ·have h7 := HB2.out.size
       exact HB.grown hgD HB.size (fun k e => by cases e; omega)
     case stop =>
      rintro D c pre W _ _ h _
      exact h.elim
    ·rw [if_neg c6] at H
     exact absurd H (by simp)
   ·rw [if_neg c5] at H
    exact absurd H (by simp)
  ·rw [if_neg c3] at H
   exact absurd H (by simp)
 ·rw [if_neg c2] at H
  exact absurd H (by simp)
end
/-! ### slices_Clone_int_int: function 60 -/
def slices_Clone_int_int.f (l0 : List Int) : Option (List Int) := (some (([] : List Int) : List Int)).bind fun y128 => (if y128.length + l0.length < 17592186044416 then (some (y128 ++ l0)) else (none))
set_option maxHeartbeats 8000000 in
set_option maxRecDepth 100000 in
theorem slices_Clone_int_int.calls (A0 : Option Addr) (c0 : Nat) (l0 : List Int) (r : List Int) (w : World) (hr0 : Kd.C (Kd.int .i64) w A0 l0.length l0) (hc0 : l0.length ≤ c0) (h : slices_Clone_int_int.f l0 = some r) :
  Calls Try.prog 60 #[.slice A0 l0.length c0] w fun e w' => ∃ v0_ : Value, e = .returned (v0_) ∧ Kd.R (Kd.int .i64) 3 w' w.heap.size (fun _ => True) v0_ r ∧ Below w.heap.size w w' := by
 have HR0 := Aside0.mk hr0
 have HC0 := Aside0.mk hc0
 clear hr0 hc0
 have HB := Aside0.mk (Below.refl w.heap.size w)
 have H : ((some (([] : List Int) : List Int)).bind fun y128 => (if y128.length + l0.length < 17592186044416 then (some (y128 ++ l0)) else (none))) = some r := h
 clear h
 have hnq_ : ∀ (w : World) (a : Option Addr) (n c n' c' : Nat), (binOp .eql 25 (.slice a n c) (.slice none n' c')).run Try.prog w = .ok (.bool a.isNone) w := fun w a n c n' c' => Lib.run_eql_slice_nil w _ _ a n c n' c' Try.underlying25
 rcases A0 with _ | adn0
 ·obtain rfl : l0 = [] := (by rcases l0 with _ | ⟨x_, xs_⟩; (· rfl); (· obtain ⟨_, _, e_, _⟩ := Kd.C_get HR0.out 0 0 (by omega) (by simp); cases e_))
  simp only [List.length_nil, List.nil_append] at H
  (first | rw [if_pos (by omega)] at H | simp at H)
  try simp only [Option.some.injEq] at H
  subst H
  go_enter Try.func60, Try.ntmps60
  go_wp2
  go_ret
  first | exact ⟨_, rfl, Kd.R_nil _ _ _ _ _, Below.refl _ _⟩ | exact ⟨_, rfl, Kd.S_nil _ _ _ _ _, Below.refl _ _⟩ | exact ⟨_, rfl, Kd.V_nil _ _ _ _ _, Below.refl _ _⟩ | exact ⟨_, rfl, Kd.N_nil _ _ _ _ _, Below.refl _ _⟩
 ·replace H := H
  obtain ⟨y128, hy128⟩ : ∃ y_ : List Int, y_ = (([] : List Int)) := ⟨_, rfl⟩
  replace H : (if y128.length + l0.length < 17592186044416 then (some (y128 ++ l0)) else (none)) = some r := by first | (rw [hy128]; with_reducible exact H) | (have H2_ := (Option.bind_some _ _).symm.trans H; rw [hy128]; with_reducible exact H2_) | (have H2_ := (Option.bind_some _ _).symm.trans H; with_reducible exact H2_) | with_reducible exact H | (rw [hy128]; exact H) | exact H
  have Ny128 := Aside0.mk hy128
  clear hy128
  by_cases c2 : y128.length + l0.length < 17592186044416
  ·rw [if_pos c2] at H
   have LMc2 := Aside0.mk c2
   clear c2
   obtain ⟨y131, hy131⟩ : ∃ y_ : List Int, y_ = (y128 ++ l0) := ⟨_, rfl⟩
   replace H : (some y131) = some r := by first | (rw [hy131]; with_reducible exact H) | (have H2_ := (Option.bind_some _ _).symm.trans H; rw [hy131]; with_reducible exact H2_) | (have H2_ := (Option.bind_some _ _).symm.trans H; with_reducible exact H2_) | with_reducible exact H | (rw [hy131]; exact H) | exact H
   have Ny131 := Aside0.mk hy131
   clear hy131
   obtain rfl := Option.some.inj H
   go_enter Try.func60, Try.ntmps60
   go_wp2_with (first | ((with_reducible refine gate_dst (N := 5) rfl ?_); refine Kd.R_lit (Kd.int .i64) _ 3 ?hg (N := 5) ?hd (xs := ([] : List Int)) (inner := []) (ok := fun _ => True) (okp := fun _ => True) ?hr ?hp (fun _ hk => hk) trivial (Below.refl _ _) (Nat.le_refl _) (by simp) ?_; (case hd => rfl); (case hg => rfl); (case hr => first | (go_simp; done) | (go_simp; rfl)); (case hp => exact (Reps.none _ _)); intro v129 w3 ho4 hb hg_ hnew_; clear hg_ hnew_; (first | rw [← Ny128.out] at ho4 | (simp only [Int.reduceToNat] at ho4; rw [← Ny128.out] at ho4)); have n0_ := Aside0.mk (Kd.R_lower ho4 (below_size zB)); have n1_ := Aside0.mk (below_step zB hb); clear HB; have HO130 := n0_; have HB := n1_; clear n0_ n1_; clear hb ho4) | ((with_reducible refine gate_builtin (b := .append) (xs := #[.tmp 5, .tmp 6]) rfl ?_); at_builtin; refine Kd.R_append_rows (Kd.int .i64) (w0 := w) w.heap.size rfl (.tmp 5) (.tmp 6) 25 3 (.int .i64 0) 8 rfl Try.underlying25 info3 rfl (by decide) (by omega) v129 y128 l0 _ _ _ (fun _ => True) (fun _ => False) rfl rfl ?aO ?aR (fun _ _ h => h) (fun _ h => h.elim) ?aF ?aB ?aS ?aL ?_; (case aR => repeat (first | exact (Kd.C_below HR0.out HB.out) | (with_reducible refine Kd.C_alloc ?_ _) | (with_reducible refine Kd.C_drewN ?_ _) | (with_reducible refine Kd.C_drew ?_))); (case aB => exact zB); (case aF => exact (fun _ _ => trivial)); (case aO => exact (zR HO130)); (case aS => exact (below_size zB)); (case aL => have := LMc2.out; omega); intro v132 w5 ho hb hg hat; rw [← Ny131.out] at ho; have n0_ := Aside0.mk (hb); have n1_ := Aside0.mk (ho); clear HB; clear HO130; have HB := n0_; have HO133 := n1_; clear n0_ n1_; clear ho hb hg hat))
   go_ret
   exact ⟨_, by first | rfl | (simp [errW_none, errW_some] <;> rfl) | (simp [*, errW_none, errW_some] <;> rfl), by (with_reducible repeat (first | apply Kd.R_alloc | apply Kd.R_drewN | apply Kd.R_drew)); exact HO133.out, by repeat (first | (with_reducible first | exact HB.out | apply below_alloc | apply pw_below_drewN | apply below_drew1) | exact HB.out)⟩
  ·rw [if_neg c2] at H
   exact absurd H (by simp)
/-! ### dag_Paths_1_mc: function 99000059 -/
mutual
def dag_Paths_1_mc.l0 : Nat → List Int → Int → Int → Int → List (S69) → List (List Int) → List Int → List (List Int) → List Int → Option ((List (List Int)) × List Int)
 | 0, _, _, _, _, _, _, _, _, _ => none
 | k + 1, x24, x25, x26, x135000, x135001, x136000, x137000, x138000, x139000 => if x26 < x25 then (if 0 ≤ x26 then (if x26 < (x24.length : Int) then (if 0 ≤ (rd x24 x26) then (if (rd x24 x26) < (x135001.length : Int) then (if 0 ≤ ((rd_T69 x135001 (rd x24 x26)).f1) then (if ((rd_T69 x135001 (rd x24 x26)).f1) < (x139000.length : Int) then (if (rd x139000 ((rd_T69 x135001 (rd x24 x26)).f1)) > 0 then (if x137000.length < 17592186044416 then ((dag_Paths_1_mc.f k ((rd_T69 x135001 (rd x24 x26)).f1) x135000 x135001 x136000 (x137000 ++ [rd x24 x26]) x138000 x139000).bind fun bt153 => (if 0 ≤ (wrap64 ((bt153.2.length : Int) - 1)) then (if (wrap64 ((bt153.2.length : Int) - 1)) ≤ (bt153.2.length : Int) then (dag_Paths_1_mc.l0 k x24 x25 (wrap64 (x26 + 1)) x135000 x135001 bt153.1 (bt153.2.take ((wrap64 ((bt153.2.length : Int) - 1)) : Int).toNat) x138000 x139000) else (none)) else (none))) else (none)) else (dag_Paths_1_mc.l0 k x24 x25 (wrap64 (x26 + 1)) x135000 x135001 x136000 x137000 x138000 x139000)) else (none)) else (none)) else (none)) else (none)) else (none)) else (none)) else (some (x136000, x137000))
def dag_Paths_1_mc.f : Nat → Int → Int → List (S69) → List (List Int) → List Int → List (List Int) → List Int → Option ((List (List Int)) × List Int)
 | 0, _, _, _, _, _, _, _ => none
 | k + 1, a0, a1_0, l1_1, l2_0, l3_0, l4_0, l5_0 => if a0 = (wrap64 (a1_0 - 1)) then ((slices_Clone_int_int.f l3_0).bind fun t140 => (if l2_0.length < 5864062014805 then (some ((l2_0 ++ [t140]), l3_0)) else (none))) else (if 0 ≤ a0 then (if a0 < (l4_0.length : Int) then (dag_Paths_1_mc.l0 k (rd_L2 l4_0 a0) ((rd_L2 l4_0 a0).length : Int) 0 a1_0 l1_1 l2_0 l3_0 l4_0 l5_0) else (none)) else (none))
end
theorem dag_Paths_1_mc.mono_l : ∀ k, (∀ y0 y1 y2 y3 y4 y5 y6, LeO (dag_Paths_1_mc.f k y0 y1 y2 y3 y4 y5 y6) (dag_Paths_1_mc.f (k + 1) y0 y1 y2 y3 y4 y5 y6)) ∧ (∀ y0 y1 y2 y3 y4 y5 y6 y7 y8, LeO (dag_Paths_1_mc.l0 k y0 y1 y2 y3 y4 y5 y6 y7 y8) (dag_Paths_1_mc.l0 (k + 1) y0 y1 y2 y3 y4 y5 y6 y7 y8))
 | 0 => ⟨fun _ _ _ _ _ _ _ r h => by simp [dag_Paths_1_mc.f] at h, fun _ _ _ _ _ _ _ _ _ r h => by simp [dag_Paths_1_mc.l0] at h⟩
 | k + 1 => by
  obtain ⟨ih0, ih1⟩ := dag_Paths_1_mc.mono_l k
  refine ⟨?_, ?_⟩
  ·intro y0 y1 y2 y3 y4 y5 y6
   unfold dag_Paths_1_mc.f
   repeat' first
   | (with_reducible exact ih0 _ _ _ _ _ _ _)
   | (with_reducible exact ih1 _ _ _ _ _ _ _ _ _)
   | (with_reducible exact LeO.refl _)
   | (with_reducible exact LeO.none _)
   | (with_reducible refine LeO.ite ?_ ?_)
   | (with_reducible refine LeO.bind ?_ (fun _ => ?_))
   | exact ih0 _ _ _ _ _ _ _
   | exact ih1 _ _ _ _ _ _ _ _ _
   | exact LeO.none _
   | refine LeO.ite ?_ ?_
   | refine LeO.bind ?_ (fun _ => ?_)
  ·intro y0 y1 y2 y3 y4 y5 y6 y7 y8
   unfold dag_Paths_1_mc.l0
   repeat' first
   | (with_reducible exact ih0 _ _ _ _ _ _ _)
   | (with_reducible exact ih1 _ _ _ _ _ _ _ _ _)
   | (with_reducible exact LeO.refl _)
   | (with_reducible exact LeO.none _)
   | (with_reducible refine LeO.ite ?_ ?_)
   | (with_reducible refine LeO.bind ?_ (fun _ => ?_))
   | exact ih0 _ _ _ _ _ _ _
   | exact ih1 _ _ _ _ _ _ _ _ _
   | exact LeO.none _
   | refine LeO.ite ?_ ?_
   | refine LeO.bind ?_ (fun _ => ?_)
theorem dag_Paths_1_mc.mono : ∀ a0 a1 a2 a3 a4 a5 a6 k, LeO (dag_Paths_1_mc.f k a0 a1 a2 a3 a4 a5 a6) (dag_Paths_1_mc.f (k + 1) a0 a1 a2 a3 a4 a5 a6) := by
 intro a0 a1 a2 a3 a4 a5 a6 k
 obtain ⟨ih0, ih1⟩ := dag_Paths_1_mc.mono_l k
 exact ih0 a0 a1 a2 a3 a4 a5 a6
set_option maxHeartbeats 8000000 in
set_option maxRecDepth 100000 in
theorem dag_Paths_1_mc.calls (k : Nat) : ∀ (a0 : Int) (gp1_0 : Nat) (a1_0 : Int) (A1_1 : Option Addr) (c1_1 : Nat) (l1_1 : List (S69)) (gp2_0 : Nat) (u9101_ : Value) (l2_0 : List (List Int)) (gp3_0 : Nat) (u9102_ : Value) (l3_0 : List Int) (gp4_0 : Nat) (A4_0 : Option Addr) (c4_0 : Nat) (l4_0 : List (List Int)) (gp5_0 : Nat) (A5_0 : Option Addr) (c5_0 : Nat) (l5_0 : List Int) (gp6_0 : Nat)  (r1 : List (List Int)) (r2 : List Int) (w0 w : World) (hr1_1 : Kd.C k69 w0 A1_1 l1_1.length l1_1) (hc1_1 : l1_1.length ≤ c1_1) (hr4_0 : Kd.C (Kd.slice 3 (Kd.int .i64)) w0 A4_0 l4_0.length l4_0) (hc4_0 : l4_0.length ≤ c4_0) (hr5_0 : Kd.C (Kd.int .i64) w0 A5_0 l5_0.length l5_0) (hc5_0 : l5_0.length ≤ c5_0) (hge_ : w0.heap.size ≤ gp2_0 ∧ w0.heap.size ≤ gp3_0) (hne_ : gp1_0 ≠ gp2_0 ∧ gp1_0 ≠ gp3_0 ∧ gp1_0 ≠ gp4_0 ∧ gp1_0 ≠ gp5_0 ∧ gp1_0 ≠ gp6_0 ∧ gp2_0 ≠ gp3_0 ∧ gp2_0 ≠ gp4_0 ∧ gp2_0 ≠ gp5_0 ∧ gp2_0 ≠ gp6_0 ∧ gp3_0 ≠ gp4_0 ∧ gp3_0 ≠ gp5_0 ∧ gp3_0 ≠ gp6_0 ∧ gp4_0 ≠ gp5_0 ∧ gp4_0 ≠ gp6_0 ∧ gp5_0 ≠ gp6_0) (hmc_ : Kd.S (Kd.slice 3 (Kd.int .i64)) 25 w w0.heap.size (fun k_ => some k_ ≠ Value.ownBlock u9102_ ∧ k_ ≠ gp3_0) u9101_ l2_0 ∧ Kd.R (Kd.int .i64) 3 w w0.heap.size (fun _ => True) u9102_ l3_0 ∧ w.heap[gp1_0]? = some (.cells #[.int .i64 a1_0, .slice A1_1 l1_1.length c1_1] 24 (0, 0)) ∧ w.heap[gp2_0]? = some (.cells #[u9101_] 34 (0, 0)) ∧ w.heap[gp3_0]? = some (.cells #[u9102_] 25 (0, 0)) ∧ w.heap[gp4_0]? = some (.cells #[.slice A4_0 l4_0.length c4_0] 34 (0, 0)) ∧ w.heap[gp5_0]? = some (.cells #[.slice A5_0 l5_0.length c5_0] 71 (0, 0)) ∧ w.heap[gp6_0]? = some (.cells #[.func (.func 59) #[] #[.pointer (some ⟨gp1_0, 0, none⟩), .pointer (some ⟨gp2_0, 0, none⟩), .pointer (some ⟨gp3_0, 0, none⟩), .pointer (some ⟨gp4_0, 0, none⟩), .pointer (some ⟨gp5_0, 0, none⟩), .pointer (some ⟨gp6_0, 0, none⟩)]] 74 (0, 0)) ∧ Below w0.heap.size w0 w) (h : dag_Paths_1_mc.f k a0 a1_0 l1_1 l2_0 l3_0 l4_0 l5_0 = some (r1, r2)),
  Calls Try.prog 59 #[.int .i64 a0, .pointer (some ⟨gp1_0, 0, none⟩), .pointer (some ⟨gp2_0, 0, none⟩), .pointer (some ⟨gp3_0, 0, none⟩), .pointer (some ⟨gp4_0, 0, none⟩), .pointer (some ⟨gp5_0, 0, none⟩), .pointer (some ⟨gp6_0, 0, none⟩)] w fun e w' => e = .returned (.tuple #[]) ∧ ∃ v1_ v2_ : Value, Kd.S (Kd.slice 3 (Kd.int .i64)) 25 w' w0.heap.size (fun k_ => some k_ ≠ Value.ownBlock v2_ ∧ k_ ≠ gp3_0) v1_ r1 ∧ Kd.R (Kd.int .i64) 3 w' w0.heap.size (fun _ => True) v2_ r2 ∧ w'.heap[gp1_0]? = some (.cells #[.int .i64 a1_0, .slice A1_1 l1_1.length c1_1] 24 (0, 0)) ∧ w'.heap[gp2_0]? = some (.cells #[v1_] 34 (0, 0)) ∧ w'.heap[gp3_0]? = some (.cells #[v2_] 25 (0, 0)) ∧ w'.heap[gp4_0]? = some (.cells #[.slice A4_0 l4_0.length c4_0] 34 (0, 0)) ∧ w'.heap[gp5_0]? = some (.cells #[.slice A5_0 l5_0.length c5_0] 71 (0, 0)) ∧ w'.heap[gp6_0]? = some (.cells #[.func (.func 59) #[] #[.pointer (some ⟨gp1_0, 0, none⟩), .pointer (some ⟨gp2_0, 0, none⟩), .pointer (some ⟨gp3_0, 0, none⟩), .pointer (some ⟨gp4_0, 0, none⟩), .pointer (some ⟨gp5_0, 0, none⟩), .pointer (some ⟨gp6_0, 0, none⟩)]] 74 (0, 0)) ∧ Below w0.heap.size w0 w' := by
 induction k using Nat.strongRecOn with
 | _ k ih =>
 intro a0 gp1_0 a1_0 A1_1 c1_1 l1_1 gp2_0 u9101_ l2_0 gp3_0 u9102_ l3_0 gp4_0 A4_0 c4_0 l4_0 gp5_0 A5_0 c5_0 l5_0 gp6_0 r1 r2 w0 w hr1_1 hc1_1 hr4_0 hc4_0 hr5_0 hc5_0 hge_ hne_ hmc_ h
 cases k with
 | zero => exact absurd h (by simp [dag_Paths_1_mc.f])
 | succ k =>
 simp only [dag_Paths_1_mc.f] at h
 have hu3 := Try.underlying3
 have hu34 := Try.underlying34
 have hu25 := Try.underlying25
 have hu22 := Try.underlying22
 have hu71 := Try.underlying71
 have hu2 := Try.underlying2
 have hu74 := Try.underlying74
 have HR1_1 := Aside0.mk hr1_1
 have HC1_1 := Aside0.mk hc1_1
 clear hr1_1 hc1_1
 have HR4_0 := Aside0.mk hr4_0
 have HC4_0 := Aside0.mk hc4_0
 clear hr4_0 hc4_0
 have HR5_0 := Aside0.mk hr5_0
 have HC5_0 := Aside0.mk hc5_0
 clear hr5_0 hc5_0
 obtain ⟨ho2_0, ho3_0, hb_0, hb_1, hb_2, hb_3, hb_4, hb_5, hB⟩ := hmc_
 have HO2_0 := Aside0.mk ho2_0
 clear ho2_0
 have HO3_0 := Aside0.mk ho3_0
 clear ho3_0
 have BK134 := Aside0.mk hb_0
 clear hb_0
 have BK135 := Aside0.mk hb_1
 clear hb_1
 have BK136 := Aside0.mk hb_2
 clear hb_2
 have BK137 := Aside0.mk hb_3
 clear hb_3
 have BK138 := Aside0.mk hb_4
 clear hb_4
 have BK139 := Aside0.mk hb_5
 clear hb_5
 obtain ⟨hge_1, hge_2⟩ := hge_
 have GE135 := Aside0.mk hge_1
 have GW135 := Aside0.mk hge_1
 clear hge_1
 have GE136 := Aside0.mk hge_2
 have GW136 := Aside0.mk hge_2
 clear hge_2
 obtain ⟨hne_0_1, hne_0_2, hne_0_3, hne_0_4, hne_0_5, hne_1_2, hne_1_3, hne_1_4, hne_1_5, hne_2_3, hne_2_4, hne_2_5, hne_3_4, hne_3_5, hne_4_5⟩ := hne_
 have NB134_135 := Aside0.mk hne_0_1
 have NB135_134 := Aside0.mk (Ne.symm hne_0_1)
 clear hne_0_1
 have NB134_136 := Aside0.mk hne_0_2
 have NB136_134 := Aside0.mk (Ne.symm hne_0_2)
 clear hne_0_2
 have NB134_137 := Aside0.mk hne_0_3
 have NB137_134 := Aside0.mk (Ne.symm hne_0_3)
 clear hne_0_3
 have NB134_138 := Aside0.mk hne_0_4
 have NB138_134 := Aside0.mk (Ne.symm hne_0_4)
 clear hne_0_4
 have NB134_139 := Aside0.mk hne_0_5
 have NB139_134 := Aside0.mk (Ne.symm hne_0_5)
 clear hne_0_5
 have NB135_136 := Aside0.mk hne_1_2
 have NB136_135 := Aside0.mk (Ne.symm hne_1_2)
 clear hne_1_2
 have NB135_137 := Aside0.mk hne_1_3
 have NB137_135 := Aside0.mk (Ne.symm hne_1_3)
 clear hne_1_3
 have NB135_138 := Aside0.mk hne_1_4
 have NB138_135 := Aside0.mk (Ne.symm hne_1_4)
 clear hne_1_4
 have NB135_139 := Aside0.mk hne_1_5
 have NB139_135 := Aside0.mk (Ne.symm hne_1_5)
 clear hne_1_5
 have NB136_137 := Aside0.mk hne_2_3
 have NB137_136 := Aside0.mk (Ne.symm hne_2_3)
 clear hne_2_3
 have NB136_138 := Aside0.mk hne_2_4
 have NB138_136 := Aside0.mk (Ne.symm hne_2_4)
 clear hne_2_4
 have NB136_139 := Aside0.mk hne_2_5
 have NB139_136 := Aside0.mk (Ne.symm hne_2_5)
 clear hne_2_5
 have NB137_138 := Aside0.mk hne_3_4
 have NB138_137 := Aside0.mk (Ne.symm hne_3_4)
 clear hne_3_4
 have NB137_139 := Aside0.mk hne_3_5
 have NB139_137 := Aside0.mk (Ne.symm hne_3_5)
 clear hne_3_5
 have NB138_139 := Aside0.mk hne_4_5
 have NB139_138 := Aside0.mk (Ne.symm hne_4_5)
 clear hne_4_5
 have HB := Aside0.mk hB
 clear hB
 have H : (if a0 = (wrap64 (a1_0 - 1)) then ((slices_Clone_int_int.f l3_0).bind fun t140 => (if l2_0.length < 5864062014805 then (some ((l2_0 ++ [t140]), l3_0)) else (none))) else (if 0 ≤ a0 then (if a0 < (l4_0.length : Int) then (dag_Paths_1_mc.l0 k (rd_L2 l4_0 a0) ((rd_L2 l4_0 a0).length : Int) 0 a1_0 l1_1 l2_0 l3_0 l4_0 l5_0) else (none)) else (none))) = some (r1, r2) := h
 clear h
 by_cases c8 : a0 = (wrap64 (a1_0 - 1))
 ·rw [if_pos c8] at H
  have c8b0 : (a0 == (wrap64 (a1_0 - 1))) = true := beq_iff_eq.mpr c8
  have c8b1 : (a0 != (wrap64 (a1_0 - 1))) = false := bne_eq_false_iff_eq.mpr c8
  clear c8
  replace H := Option.bind_eq_some_iff.mp H
  obtain ⟨t140, A90, H⟩ := H
  replace H : (if l2_0.length < 5864062014805 then (some ((l2_0 ++ [t140]), l3_0)) else (none)) = some (r1, r2) := H
  have A9 := Aside0.mk A90
  clear A90
  by_cases c10 : l2_0.length < 5864062014805
  ·rw [if_pos c10] at H
   have LMc10 := Aside0.mk c10
   clear c10
   obtain ⟨y143, hy143⟩ : ∃ y_ : List (List Int), y_ = (l2_0 ++ [t140]) := ⟨_, rfl⟩
   replace H : (some (y143, l3_0)) = some (r1, r2) := by first | (rw [hy143]; with_reducible exact H) | (have H2_ := (Option.bind_some _ _).symm.trans H; rw [hy143]; with_reducible exact H2_) | (have H2_ := (Option.bind_some _ _).symm.trans H; with_reducible exact H2_) | with_reducible exact H | (rw [hy143]; exact H) | exact H
   have Ny143 := Aside0.mk hy143
   clear hy143
   simp only [Option.some.injEq, Prod.mk.injEq] at H
   obtain ⟨rfl, rfl⟩ := H
   have hnb11 := NB134_135.out
   have hnc11 := NB135_134.out
   have hnb12 := NB134_136.out
   have hnc12 := NB136_134.out
   have hnb13 := NB134_137.out
   have hnc13 := NB137_134.out
   have hnb14 := NB134_138.out
   have hnc14 := NB138_134.out
   have hnb15 := NB134_139.out
   have hnc15 := NB139_134.out
   have hcz16_0 : w.cell? ⟨gp1_0, 0, none⟩ = some (.int .i64 a1_0) := (blk_cell BK134.out 0).trans rfl
   have hcz16_1 : w.cell? ⟨gp1_0, 1, none⟩ = some (.slice A1_1 l1_1.length c1_1) := (blk_cell BK134.out 1).trans rfl
   have hfz16_0 := blk_frozen BK134.out 0
   have hfz16_1 := blk_frozen BK134.out 1
   go_enter Try.func59, Try.ntmps59
   try go_wp2
   have n0_ := Aside0.mk (Kd.S_drew HO2_0.out)
   have n1_ := Aside0.mk (Kd.R_drew HO3_0.out)
   have n2_ := Aside0.mk (blk_drew BK134.out)
   have n3_ := Aside0.mk (blk_drew BK135.out)
   have n4_ := Aside0.mk (blk_drew BK136.out)
   have n5_ := Aside0.mk (blk_drew BK137.out)
   have n6_ := Aside0.mk (blk_drew BK138.out)
   have n7_ := Aside0.mk (blk_drew BK139.out)
   have n8_ := Aside0.mk (below_drew1 HB.out)
   clear HO2_0
   clear HO3_0
   clear BK134
   clear BK135
   clear BK136
   clear BK137
   clear BK138
   clear BK139
   clear HB
   have HO2_0 := n0_
   have HO3_0 := n1_
   have BK134 := n2_
   have BK135 := n3_
   have BK136 := n4_
   have BK137 := n5_
   have BK138 := n6_
   have BK139 := n7_
   have HB := n8_
   clear n0_ n1_ n2_ n3_ n4_ n5_ n6_ n7_ n8_
   obtain ⟨Ao18, co18, eo18⟩ := Kd.R_slice HO3_0.out
   (first | subst eo18 | (injection eo18 with f1_ f2_ f3_; have f4_ := f1_.symm; have f5_ := f3_.symm; clear f1_ f2_ f3_; subst f4_; subst f5_))
   refine start_ (n := 6) (S := fun w' => w'.cell? ⟨gp2_0, 0, none⟩ = some (u9101_) ∧ w'.cell? ⟨gp3_0, 0, none⟩ = some (.slice Ao18 l3_0.length co18)) (ds := [5]) #[false, false, false, false, false, false] zK rfl rfl ⟨(blk_cell BK135.out 0).trans rfl, (blk_cell BK136.out 0).trans rfl⟩ (fun hHeld => ?_)
   generalize w.drew = w17 at HO2_0 HO3_0 BK134 BK135 BK136 BK137 BK138 BK139 HB hHeld ⊢
   refine take_ (i := 0) (N := some 16) (v := ?_) (a' := ?_) #[true, false, false, false, false, false] rfl rfl zK (fun _ _ _ h => h) (Or.inl ⟨by rfl, ?_⟩) hHeld ?_ ?_
   rotate_left
   ·rintro w' ⟨s0, s1⟩
    go_simp
    with_reducible rfl
   rotate_left
   ·simp only [Act.put, List.setIfInBounds_toArray, List.set_cons_zero, List.set_cons_succ, i64_w, i32_w]
    rfl
   refine take_ (i := 1) (N := some 17) (v := ?_) (a' := ?_) #[true, true, false, false, false, false] rfl rfl zK (fun _ _ _ h => h) (Or.inl ⟨by rfl, ?_⟩) hHeld ?_ ?_
   rotate_left
   ·rintro w' ⟨s0, s1⟩
    go_simp
    with_reducible rfl
   rotate_left
   ·simp only [Act.put, List.setIfInBounds_toArray, List.set_cons_zero, List.set_cons_succ, i64_w, i32_w]
    rfl
   refine one_ (i := 2) (N := some 18) #[true, true, true, false, false, false] rfl rfl zK (by decide) (fun K hK => ?_)
   refine goes_ Try.func60 zK rfl #[.slice Ao18 l3_0.length co18] (by rfl) rfl rfl zM ?_
   with_reducible refine (slices_Clone_int_int.calls _ _ l3_0 t140 _ ?side1 ?side2 A9.out).mono ?_
   (case side1 => repeat (first | exact (Kd.R_reads' HO3_0.out).2.2 | (with_reducible refine Kd.C_alloc ?_ _) | (with_reducible refine Kd.C_drewN ?_ _) | (with_reducible refine Kd.C_drew ?_)))
   (case side2 => exact (Kd.R_reads' HO3_0.out).2.1)
   rintro e w19 ⟨v141, rfl, ho0, hb⟩
   refine ⟨_, rfl, ?_⟩
   have n0_ := Aside0.mk (Kd.S_elder' (zS HO2_0) (Kd.R_base ho0) hb)
   have n1_ := Aside0.mk (Kd.R_elder' (zR HO3_0) (Kd.R_base ho0) hb)
   have n2_ := Aside0.mk (Kd.R_lower (Kd.R_new' ho0 (Kd.R_lt (zR HO3_0))) (below_size zB))
   have n3_ := Aside0.mk (blk_below (g := gp1_0) (o := .cells #[.int .i64 a1_0, .slice A1_1 l1_1.length c1_1] 24 (0, 0)) (zk BK134) hb)
   have n4_ := Aside0.mk (blk_below (g := gp2_0) (o := .cells #[u9101_] 34 (0, 0)) (zk BK135) hb)
   have n5_ := Aside0.mk (blk_below (g := gp3_0) (o := .cells #[.slice Ao18 l3_0.length co18] 25 (0, 0)) (zk BK136) hb)
   have n6_ := Aside0.mk (blk_below (g := gp4_0) (o := .cells #[.slice A4_0 l4_0.length c4_0] 34 (0, 0)) (zk BK137) hb)
   have n7_ := Aside0.mk (blk_below (g := gp5_0) (o := .cells #[.slice A5_0 l5_0.length c5_0] 71 (0, 0)) (zk BK138) hb)
   have n8_ := Aside0.mk (blk_below (g := gp6_0) (o := .cells #[.func (.func 59) #[] #[.pointer (some ⟨gp1_0, 0, none⟩), .pointer (some ⟨gp2_0, 0, none⟩), .pointer (some ⟨gp3_0, 0, none⟩), .pointer (some ⟨gp4_0, 0, none⟩), .pointer (some ⟨gp5_0, 0, none⟩), .pointer (some ⟨gp6_0, 0, none⟩)]] 74 (0, 0)) (zk BK139) hb)
   have n9_ := Aside0.mk (below_step zB hb)
   clear HO2_0
   clear HO3_0
   clear BK134
   clear BK135
   clear BK136
   clear BK137
   clear BK138
   clear BK139
   clear HB
   have HO2_0 := n0_
   have HO3_0 := n1_
   have HO142 := n2_
   have BK134 := n3_
   have BK135 := n4_
   have BK136 := n5_
   have BK137 := n6_
   have BK138 := n7_
   have BK139 := n8_
   have HB := n9_
   clear n0_ n1_ n2_ n3_ n4_ n5_ n6_ n7_ n8_ n9_
   (try clear hb)
   (try clear hb2)
   (try clear hk)
   (try clear hi)
   (try clear ho0)
   obtain ⟨Ao21, co21, eo21⟩ := Kd.R_slice HO142.out
   (first | subst eo21 | (injection eo21 with f1_ f2_ f3_; have f4_ := f1_.symm; have f5_ := f3_.symm; clear f1_ f2_ f3_; subst f4_; subst f5_))
   refine hK.out _ _ ⟨(blk_cell BK135.out 0).trans rfl, (blk_cell BK136.out 0).trans rfl⟩ (fun hHeld => ?_)
   clear hK K
   refine norm_ (a' := ?_) ?_ ?_
   rotate_left
   ·show Act.put _ (some 18) _ = _
    simp only [Act.put, List.setIfInBounds_toArray, List.set_cons_zero, List.set_cons_succ, i64_w, i32_w]
    rfl
   refine one_ (i := 3) (N := some 19) #[true, true, true, true, false, false] rfl rfl zK (by decide) (fun K hK => ?_)
   refine value_ (w1 := ?_) (v := ?_) (by rfl) rfl ?_ ?_
   rotate_left 2
   ·go_simp
    constructor
    ·rfl
    ·rfl
   refine hK.out _ _ ⟨(blk_cell (blk_alloc BK135.out _) 0).trans rfl, (blk_cell (blk_alloc BK136.out _) 0).trans rfl⟩ (fun hHeld => ?_)
   clear hK K
   refine norm_ (a' := ?_) ?_ ?_
   rotate_left
   ·show Act.put _ (some 19) _ = _
    simp only [Act.put, List.setIfInBounds_toArray, List.set_cons_zero, List.set_cons_succ, i64_w, i32_w]
    rfl
   refine one_ (i := 4) (N := some 20) #[true, true, true, true, true, false] rfl rfl zK (by decide) (fun K hK => ?_)
   refine Kd.S_append_step (Kd.slice 3 (Kd.int .i64)) (w0 := w0) w0.heap.size (by rfl) (.tmp 16) (.tmp 19) 34 25 (.slice none 0 0) 24 rfl Try.underlying34 info25 rfl (by decide) (by omega) u9101_ l2_0 t140 [.slice Ao21 t140.length co21] (fun k_ => some k_ ≠ (.slice Ao18 l3_0.length co18 : Value).ownBlock ∧ k_ ≠ gp3_0) (fun k_ => some k_ = (.slice Ao21 t140.length co21 : Value).ownBlock) rfl rfl ?aP (fun k_ hk_ => ((Kd.R_mono (ok' := fun k_ => ((fun k_ => some k_ ≠ (.slice Ao18 l3_0.length co18 : Value).ownBlock ∧ k_ ≠ gp3_0)) k_ ∧ some k_ ≠ (u9101_ : Value).ownBlock) (Kd.R_types (Kd.R_apart' (HO142.out) (Kd.S_typed HO2_0.out) (by decide)) BK136.out (by decide)) (fun k_ hk => ⟨⟨hk.1.1.2, hk.2⟩, hk.1.2⟩))).1 k_ hk_.symm) ?aF ?aO ?aB ?aS ?aL ?_
   (case aP => exact Kd.M_row (Kd.R_mono (Kd.R_tight rfl (Kd.R_mono (ok' := fun k_ => ((fun k_ => some k_ ≠ (.slice Ao18 l3_0.length co18 : Value).ownBlock ∧ k_ ≠ gp3_0)) k_ ∧ some k_ ≠ (u9101_ : Value).ownBlock) (Kd.R_types (Kd.R_apart' (HO142.out) (Kd.S_typed HO2_0.out) (by decide)) BK136.out (by decide)) (fun k_ hk => ⟨⟨hk.1.1.2, hk.2⟩, hk.1.2⟩))) (fun _ h_ => h_)))
   (case aB => exact zB)
   (case aF => exact (fun k_ hk => ⟨Kd.fresh' (Kd.R_lt (zR HO3_0)) k_ hk, Kd.freshB (g := gp3_0) (o := .cells #[.slice Ao18 l3_0.length co18] 25 (0, 0)) (zk BK136) k_ hk⟩))
   (case aO => exact (by (with_reducible repeat (first | apply Kd.S_alloc | apply Kd.S_drewN | apply Kd.S_drew)); exact Kd.S_mono HO2_0.out (fun k_ hk => ⟨⟨hk.1.1, hk.1.2⟩, fun e_ => hk.2 e_⟩)))
   (case aS => exact (below_size zB))
   (case aL => have := LMc10.out; omega)
   intro v144 w20 ho hb hg hat
   rw [← Ny143.out] at ho
   have n0_ := Aside0.mk (blk_grown (g := gp1_0) (o := .cells #[.int .i64 a1_0, .slice A1_1 l1_1.length c1_1] 24 (0, 0)) (zk BK134) hg (Kd.S_ne HO2_0.out BK134.out (by decide)))
   have n1_ := Aside0.mk (blk_grown (g := gp2_0) (o := .cells #[u9101_] 34 (0, 0)) (zk BK135) hg (Kd.S_ne HO2_0.out BK135.out (by decide)))
   have n2_ := Aside0.mk (blk_grown (g := gp3_0) (o := .cells #[.slice Ao18 l3_0.length co18] 25 (0, 0)) (zk BK136) hg (Kd.S_away HO2_0.out (fun _ hk => hk.1.2)))
   have n3_ := Aside0.mk (blk_grown (g := gp4_0) (o := .cells #[.slice A4_0 l4_0.length c4_0] 34 (0, 0)) (zk BK137) hg (Kd.S_ne HO2_0.out BK137.out (by decide)))
   have n4_ := Aside0.mk (blk_grown (g := gp5_0) (o := .cells #[.slice A5_0 l5_0.length c5_0] 71 (0, 0)) (zk BK138) hg (Kd.S_ne HO2_0.out BK138.out (by decide)))
   have n5_ := Aside0.mk (blk_grown (g := gp6_0) (o := .cells #[.func (.func 59) #[] #[.pointer (some ⟨gp1_0, 0, none⟩), .pointer (some ⟨gp2_0, 0, none⟩), .pointer (some ⟨gp3_0, 0, none⟩), .pointer (some ⟨gp4_0, 0, none⟩), .pointer (some ⟨gp5_0, 0, none⟩), .pointer (some ⟨gp6_0, 0, none⟩)]] 74 (0, 0)) (zk BK139) hg (Kd.S_ne HO2_0.out BK139.out (by decide)))
   have n6_ := Aside0.mk (Kd.R_over' (zR HO3_0) (Kd.S_typed (zS HO2_0)) (by decide) hg)
   have n7_ := Aside0.mk (hb)
   have n8_ := Aside0.mk (ho)
   clear BK134
   clear BK135
   clear BK136
   clear BK137
   clear BK138
   clear BK139
   clear HO3_0
   clear HB
   clear HO2_0
   clear HO142
   have BK134 := n0_
   have BK135 := n1_
   have BK136 := n2_
   have BK137 := n3_
   have BK138 := n4_
   have BK139 := n5_
   have HO3_0 := n6_
   have HB := n7_
   have HO145 := n8_
   clear n0_ n1_ n2_ n3_ n4_ n5_ n6_ n7_ n8_
   clear ho hb hg hat
   obtain ⟨Ao22, co22, eo22⟩ := Kd.S_slice HO145.out
   (first | subst eo22 | (injection eo22 with f1_ f2_ f3_; have f4_ := f1_.symm; have f5_ := f3_.symm; clear f1_ f2_ f3_; subst f4_; subst f5_))
   refine hK.out _ _ ⟨(blk_cell BK135.out 0).trans rfl, (blk_cell BK136.out 0).trans rfl⟩ (fun hHeld => ?_)
   clear hK K
   refine norm_ (a' := ?_) ?_ ?_
   rotate_left
   ·show Act.put _ (some 20) _ = _
    simp only [Act.put, List.setIfInBounds_toArray, List.set_cons_zero, List.set_cons_succ, i64_w, i32_w]
    rfl
   refine last_ (i := 5) (N := none) #[true, true, true, true, true, true] rfl rfl zK (by decide) (fun K hK => ?_)
   have hs23 : w20.cell? ⟨gp2_0, 0, none⟩ = some (u9101_) := (blk_cell BK135.out 0).trans rfl
   have hfs23 := blk_frozen BK135.out 0
   have hns23_0 := NB134_135.out
   have hns23_2 := NB136_135.out
   have hns23_3 := NB137_135.out
   have hns23_4 := NB138_135.out
   have hns23_5 := NB139_135.out
   have hms23_0 := NB135_134.out
   have hms23_2 := NB135_136.out
   have hms23_3 := NB135_137.out
   have hms23_4 := NB135_138.out
   have hms23_5 := NB135_139.out
   refine skip_ (w1 := ?_) (by rfl) rfl ?_ ?_
   rotate_left
   ·go_simp
    rfl
   refine hK.out _ _ ?_
   clear hK K
   refine done_ zK ?_
   try go_wp2
   first | go_end0 | ((try simp only [Exit.inBlock, Exit.then]); refine bodyPost_ret (results_none rfl _ _ _) rfl ?_)
   exact ⟨rfl, _, _, by (with_reducible repeat (first | apply Kd.S_alloc | apply Kd.S_drewN | apply Kd.S_drew)); exact Kd.S_mono (Kd.S_far (p := ⟨gp2_0, 0, none⟩) (Kd.S_types HO145.out BK135.out (by decide)) (fun _ hk => hk.2) (.slice Ao22 y143.length co22)) (fun _ hk => ⟨hk.1.1, hk.1.2⟩), by (with_reducible repeat (first | apply Kd.R_alloc | apply Kd.R_drewN | apply Kd.R_drew)); exact Kd.R_mono (Kd.R_far (p := ⟨gp2_0, 0, none⟩) (Kd.R_types HO3_0.out BK135.out (by decide)) (fun _ hk => hk.2) (.slice Ao22 y143.length co22)) (fun _ hk => trivial), by (with_reducible repeat (first | refine blk_drewN ?_ _ | refine blk_drew ?_ | refine blk_alloc ?_ _)); refine blk_far ?_ NB134_135.out _; (with_reducible repeat (first | refine blk_drewN ?_ _ | refine blk_drew ?_ | refine blk_alloc ?_ _)); exact BK134.out, by (with_reducible repeat (first | refine blk_drewN ?_ _ | refine blk_drew ?_ | refine blk_alloc ?_ _)); refine blk_put (cs := #[u9101_]) ?_ 0 _ rfl; (with_reducible repeat (first | refine blk_drewN ?_ _ | refine blk_drew ?_ | refine blk_alloc ?_ _)); exact BK135.out, by (with_reducible repeat (first | refine blk_drewN ?_ _ | refine blk_drew ?_ | refine blk_alloc ?_ _)); refine blk_far ?_ NB136_135.out _; (with_reducible repeat (first | refine blk_drewN ?_ _ | refine blk_drew ?_ | refine blk_alloc ?_ _)); exact BK136.out, by (with_reducible repeat (first | refine blk_drewN ?_ _ | refine blk_drew ?_ | refine blk_alloc ?_ _)); refine blk_far ?_ NB137_135.out _; (with_reducible repeat (first | refine blk_drewN ?_ _ | refine blk_drew ?_ | refine blk_alloc ?_ _)); exact BK137.out, by (with_reducible repeat (first | refine blk_drewN ?_ _ | refine blk_drew ?_ | refine blk_alloc ?_ _)); refine blk_far ?_ NB138_135.out _; (with_reducible repeat (first | refine blk_drewN ?_ _ | refine blk_drew ?_ | refine blk_alloc ?_ _)); exact BK138.out, by (with_reducible repeat (first | refine blk_drewN ?_ _ | refine blk_drew ?_ | refine blk_alloc ?_ _)); refine blk_far ?_ NB139_135.out _; (with_reducible repeat (first | refine blk_drewN ?_ _ | refine blk_drew ?_ | refine blk_alloc ?_ _)); exact BK139.out, by repeat (first | (with_reducible first | exact HB.out | apply below_alloc | apply pw_below_drewN | apply below_drew1 | refine below_set ?_ GE134.out | refine below_set ?_ GE135.out | refine below_set ?_ GE136.out | refine below_set ?_ GE137.out | refine below_set ?_ GE138.out | refine below_set ?_ GE139.out) | exact HB.out)⟩
  ·rw [if_neg c10] at H
   exact absurd H (by simp)
 ·rw [if_neg c8] at H
  have c8b0 : (a0 == (wrap64 (a1_0 - 1))) = false := beq_eq_false_iff_ne.mpr c8
  have c8b1 : (a0 != (wrap64 (a1_0 - 1))) = true := bne_iff_ne.mpr c8
  by_cases c24 : 0 ≤ a0
  ·rw [if_pos c24] at H
   have c24b0 : decide (0 ≤ a0) = true := decide_eq_true c24
   clear c24
   by_cases c25 : a0 < (l4_0.length : Int)
   ·rw [if_pos c25] at H
    have c25b0 : decide (a0 < (l4_0.length : Int)) = true := decide_eq_true c25
    clear c25
    have H' := Aside0.mk H
    clear H
    have hnb26 := NB134_135.out
    have hnc26 := NB135_134.out
    have hnb27 := NB134_136.out
    have hnc27 := NB136_134.out
    have hnb28 := NB134_137.out
    have hnc28 := NB137_134.out
    have hnb29 := NB134_138.out
    have hnc29 := NB138_134.out
    have hnb30 := NB134_139.out
    have hnc30 := NB139_134.out
    have hcz31_0 : w.cell? ⟨gp1_0, 0, none⟩ = some (.int .i64 a1_0) := (blk_cell BK134.out 0).trans rfl
    have hcz31_1 : w.cell? ⟨gp1_0, 1, none⟩ = some (.slice A1_1 l1_1.length c1_1) := (blk_cell BK134.out 1).trans rfl
    have hfz31_0 := blk_frozen BK134.out 0
    have hfz31_1 := blk_frozen BK134.out 1
    have hnb32 := NB137_135.out
    have hnc32 := NB135_137.out
    have hnb33 := NB137_136.out
    have hnc33 := NB136_137.out
    have hnb34 := NB137_138.out
    have hnc34 := NB138_137.out
    have hnb35 := NB137_139.out
    have hnc35 := NB139_137.out
    have hcz36_0 : w.cell? ⟨gp4_0, 0, none⟩ = some (.slice A4_0 l4_0.length c4_0) := (blk_cell BK137.out 0).trans rfl
    have hfz36_0 := blk_frozen BK137.out 0
    have p146 : 0 ≤ (a0 : Int) := of_decide_eq_true zh
    have q146 : a0 < (l4_0.length : Int) := of_decide_eq_true zh
    obtain ⟨ad146, A146_0, c146_0, e146, hx146_0, hl146_0, hi146_0⟩ := at_L2 HR4_0.out a0 p146 q146
    cases e146
    replace hx146_0 := (HB.out.cell (World.block_lt_of_cell? w0 _ hx146_0)).trans hx146_0
    have HR146_0 := Aside0.mk hi146_0
    have HC146_0 := Aside0.mk hl146_0
    clear hi146_0 hl146_0
    replace p146 := eq_true p146
    replace q146 := eq_true q146
    go_enter Try.func59, Try.ntmps59
    go_wp2
    go_loopg [26] k (fun kq v26 w' => ∃ (x26_1 : Int) (x136000_1 : List (List Int)) (x137000_1 : List Int) (u136000 : Value) (u137000 : Value), v26 = .int .i64 x26_1 ∧ Aside0 (dag_Paths_1_mc.l0 kq (rd_L2 l4_0 a0) ((rd_L2 l4_0 a0).length : Int) x26_1 a1_0 l1_1 x136000_1 x137000_1 l4_0 l5_0 = some (r1, r2)) ∧ Aside0 (kq ≤ k) ∧ Aside0 (Kd.S (Kd.slice 3 (Kd.int .i64)) 25 w' w0.heap.size (fun k_ => some k_ ≠ (u137000 : Value).ownBlock ∧ k_ ≠ gp3_0) u136000 x136000_1) ∧ Aside0 (Kd.R (Kd.int .i64) 3 w' w0.heap.size (fun _ => True) u137000 x137000_1) ∧ Aside0 (w'.heap[gp1_0]? = some (.cells #[.int .i64 a1_0, (.slice A1_1 l1_1.length c1_1)] 24 (0, 0))) ∧ Aside0 (w'.heap[gp2_0]? = some (.cells #[u136000] 34 (0, 0))) ∧ Aside0 (w'.heap[gp3_0]? = some (.cells #[u137000] 25 (0, 0))) ∧ Aside0 (w'.heap[gp4_0]? = some (.cells #[(.slice (some ad146) l4_0.length c4_0)] 34 (0, 0))) ∧ Aside0 (w'.heap[gp5_0]? = some (.cells #[(.slice A5_0 l5_0.length c5_0)] 71 (0, 0))) ∧ Aside0 (w'.heap[gp6_0]? = some (.cells #[.func (.func 59) #[] #[.pointer (some ⟨gp1_0, 0, none⟩), .pointer (some ⟨gp2_0, 0, none⟩), .pointer (some ⟨gp3_0, 0, none⟩), .pointer (some ⟨gp4_0, 0, none⟩), .pointer (some ⟨gp5_0, 0, none⟩), .pointer (some ⟨gp6_0, 0, none⟩)]] 74 (0, 0))) ∧ Aside0 (Below w0.heap.size w0 w'))
    case atStart => exact ⟨(0), (l2_0), (l3_0), (u9101_), (u9102_), zT, H', ⟨Nat.le_refl _⟩, ⟨by (with_reducible repeat (first | apply Kd.S_alloc | apply Kd.S_drewN | apply Kd.S_drew)); exact HO2_0.out⟩, ⟨by (with_reducible repeat (first | apply Kd.R_alloc | apply Kd.R_drewN | apply Kd.R_drew)); exact HO3_0.out⟩, ⟨by (with_reducible repeat (first | refine blk_drewN ?_ _ | refine blk_drew ?_ | refine blk_alloc ?_ _)); exact BK134.out⟩, ⟨by (with_reducible repeat (first | refine blk_drewN ?_ _ | refine blk_drew ?_ | refine blk_alloc ?_ _)); exact BK135.out⟩, ⟨by (with_reducible repeat (first | refine blk_drewN ?_ _ | refine blk_drew ?_ | refine blk_alloc ?_ _)); exact BK136.out⟩, ⟨by (with_reducible repeat (first | refine blk_drewN ?_ _ | refine blk_drew ?_ | refine blk_alloc ?_ _)); exact BK137.out⟩, ⟨by (with_reducible repeat (first | refine blk_drewN ?_ _ | refine blk_drew ?_ | refine blk_alloc ?_ _)); exact BK138.out⟩, ⟨by (with_reducible repeat (first | refine blk_drewN ?_ _ | refine blk_drew ?_ | refine blk_alloc ?_ _)); exact BK139.out⟩, ⟨by repeat (first | (with_reducible first | exact HB.out | apply below_alloc | apply pw_below_drewN | apply below_drew1 | refine below_set ?_ GE134.out | refine below_set ?_ GE135.out | refine below_set ?_ GE136.out | refine below_set ?_ GE137.out | refine below_set ?_ GE138.out | refine below_set ?_ GE139.out) | exact HB.out)⟩⟩
    case round =>
     clear H'
     try clear c8
     try clear c8b0
     try clear c8b1
     try clear c24
     try clear c24b0
     try clear c25
     try clear c25b0
     try clear hcz31_0
     try clear hcz31_1
     try clear hcz36_0
     try clear hfz31_0
     try clear hfz31_1
     try clear hfz36_0
     try clear hx146_0
     try clear p146
     try clear q146
     obtain ⟨x26_1, x136000_1, x137000_1, u136000, u137000, rfl, HA, HK1, HO_136000, HO_137000, BK134, BK135, BK136, BK137, BK138, BK139, HB⟩ := hrel
     cases gk with
     | zero => exact absurd HA.out (by simp [dag_Paths_1_mc.l0])
     | succ k1 =>
      have H := HA.out
      clear HA
      simp only [dag_Paths_1_mc.l0] at H
      by_cases c37 : x26_1 < ((rd_L2 l4_0 a0).length : Int)
      ·rw [if_pos c37] at H
       have c37b0 : decide (x26_1 < ((rd_L2 l4_0 a0).length : Int)) = true := decide_eq_true c37
       clear c37
       by_cases c38 : 0 ≤ x26_1
       ·rw [if_pos c38] at H
        have c38b0 : decide (0 ≤ x26_1) = true := decide_eq_true c38
        clear c38
        by_cases c39 : x26_1 < ((rd_L2 l4_0 a0).length : Int)
        ·rw [if_pos c39] at H
         have c39b0 : decide (x26_1 < ((rd_L2 l4_0 a0).length : Int)) = true := decide_eq_true c39
         clear c39
         by_cases c40 : 0 ≤ (rd (rd_L2 l4_0 a0) x26_1)
         ·rw [if_pos c40] at H
          have c40b0 : decide (0 ≤ (rd (rd_L2 l4_0 a0) x26_1)) = true := decide_eq_true c40
          clear c40
          by_cases c41 : (rd (rd_L2 l4_0 a0) x26_1) < (l1_1.length : Int)
          ·rw [if_pos c41] at H
           have c41b0 : decide ((rd (rd_L2 l4_0 a0) x26_1) < (l1_1.length : Int)) = true := decide_eq_true c41
           clear c41
           by_cases c42 : 0 ≤ ((rd_T69 l1_1 (rd (rd_L2 l4_0 a0) x26_1)).f1)
           ·rw [if_pos c42] at H
            have c42b0 : decide (0 ≤ ((rd_T69 l1_1 (rd (rd_L2 l4_0 a0) x26_1)).f1)) = true := decide_eq_true c42
            clear c42
            by_cases c43 : ((rd_T69 l1_1 (rd (rd_L2 l4_0 a0) x26_1)).f1) < (l5_0.length : Int)
            ·rw [if_pos c43] at H
             have c43b0 : decide (((rd_T69 l1_1 (rd (rd_L2 l4_0 a0) x26_1)).f1) < (l5_0.length : Int)) = true := decide_eq_true c43
             clear c43
             by_cases c44 : (rd l5_0 ((rd_T69 l1_1 (rd (rd_L2 l4_0 a0) x26_1)).f1)) > 0
             ·rw [if_pos c44] at H
              have c44b0 : decide (0 < (rd l5_0 ((rd_T69 l1_1 (rd (rd_L2 l4_0 a0) x26_1)).f1))) = true := decide_eq_true c44
              clear c44
              by_cases c45 : x137000_1.length < 17592186044416
              ·rw [if_pos c45] at H
               have LMc45 := Aside0.mk c45
               clear c45
               obtain ⟨y150, hy150⟩ : ∃ y_ : List Int, y_ = (x137000_1 ++ [rd (rd_L2 l4_0 a0) x26_1]) := ⟨_, rfl⟩
               replace H : ((dag_Paths_1_mc.f k1 ((rd_T69 l1_1 (rd (rd_L2 l4_0 a0) x26_1)).f1) a1_0 l1_1 x136000_1 y150 l4_0 l5_0).bind fun bt153 => (if 0 ≤ (wrap64 ((bt153.2.length : Int) - 1)) then (if (wrap64 ((bt153.2.length : Int) - 1)) ≤ (bt153.2.length : Int) then (dag_Paths_1_mc.l0 k1 (rd_L2 l4_0 a0) ((rd_L2 l4_0 a0).length : Int) (wrap64 (x26_1 + 1)) a1_0 l1_1 bt153.1 (bt153.2.take ((wrap64 ((bt153.2.length : Int) - 1)) : Int).toNat) l4_0 l5_0) else (none)) else (none))) = some (r1, r2) := by first | (rw [hy150]; with_reducible exact H) | (have H2_ := (Option.bind_some _ _).symm.trans H; rw [hy150]; with_reducible exact H2_) | (have H2_ := (Option.bind_some _ _).symm.trans H; with_reducible exact H2_) | with_reducible exact H | (rw [hy150]; exact H) | exact H
               have Ny150 := Aside0.mk hy150
               clear hy150
               replace H := Option.bind_eq_some_iff.mp H
               obtain ⟨⟨t153, t156⟩, A460, H⟩ := H
               replace H : (if 0 ≤ (wrap64 ((t156.length : Int) - 1)) then (if (wrap64 ((t156.length : Int) - 1)) ≤ (t156.length : Int) then (dag_Paths_1_mc.l0 k1 (rd_L2 l4_0 a0) ((rd_L2 l4_0 a0).length : Int) (wrap64 (x26_1 + 1)) a1_0 l1_1 t153 (t156.take ((wrap64 ((t156.length : Int) - 1)) : Int).toNat) l4_0 l5_0) else (none)) else (none)) = some (r1, r2) := H
               have A46 := Aside0.mk A460
               clear A460
               obtain ⟨ji47, hji47⟩ : ∃ j_ : Int, (wrap64 ((t156.length : Int) - 1)) = j_ := ⟨_, rfl⟩
               replace H : (if 0 ≤ (ji47) then (if (ji47) ≤ (t156.length : Int) then (dag_Paths_1_mc.l0 k1 (rd_L2 l4_0 a0) ((rd_L2 l4_0 a0).length : Int) (wrap64 (x26_1 + 1)) a1_0 l1_1 t153 (t156.take ((ji47) : Int).toNat) l4_0 l5_0) else (none)) else (none)) = some (r1, r2) := by first | (rw [hji47] at H; exact H) | (simp only [hji47] at H ⊢; exact H)
               (try rw [hji47] at A46)
               have hji47w : (IntKind.i64.wrap ((t156.length : Int) - 1)) = ji47 := (i64_w _).trans hji47
               by_cases c48 : 0 ≤ (ji47)
               ·rw [if_pos c48] at H
                have c48b0 := eq_true c48
                have c48b1 : decide (0 ≤ (ji47)) = true := decide_eq_true c48
                clear c48
                by_cases c49 : (ji47) ≤ (t156.length : Int)
                ·rw [if_pos c49] at H
                 have c49b0 := eq_true c49
                 have c49b1 : decide ((ji47) ≤ (t156.length : Int)) = true := decide_eq_true c49
                 clear c49
                 obtain ⟨y159, hy159⟩ : ∃ y_ : List Int, y_ = (t156.take ((ji47) : Int).toNat) := ⟨_, rfl⟩
                 replace H : (dag_Paths_1_mc.l0 k1 (rd_L2 l4_0 a0) ((rd_L2 l4_0 a0).length : Int) (wrap64 (x26_1 + 1)) a1_0 l1_1 t153 y159 l4_0 l5_0) = some (r1, r2) := by first | (rw [hy159]; with_reducible exact H) | (have H2_ := (Option.bind_some _ _).symm.trans H; rw [hy159]; with_reducible exact H2_) | (have H2_ := (Option.bind_some _ _).symm.trans H; with_reducible exact H2_) | with_reducible exact H | (rw [hy159]; exact H) | exact H
                 have Ny159 := Aside0.mk hy159
                 clear hy159
                 have H' := Aside0.mk H
                 clear H
                 have p147 : 0 ≤ (x26_1 : Int) := of_decide_eq_true zh
                 have q147 : x26_1 < ((rd_L2 l4_0 a0).length : Int) := of_decide_eq_true zh
                 obtain ⟨ad147, e147, hx147_0⟩ := Kd.at_int HR146_0.out x26_1 p147 q147
                 cases e147
                 replace hx147_0 := (HB.out.cell (World.block_lt_of_cell? w0 _ hx147_0)).trans hx147_0
                 replace p147 := eq_true p147
                 replace q147 := eq_true q147
                 have hnb50 := NB134_135.out
                 have hnc50 := NB135_134.out
                 have hnb51 := NB134_136.out
                 have hnc51 := NB136_134.out
                 have hnb52 := NB134_137.out
                 have hnc52 := NB137_134.out
                 have hnb53 := NB134_138.out
                 have hnc53 := NB138_134.out
                 have hnb54 := NB134_139.out
                 have hnc54 := NB139_134.out
                 have hcz55_0 : wr.cell? ⟨gp1_0, 0, none⟩ = some (.int .i64 a1_0) := (blk_cell BK134.out 0).trans rfl
                 have hcz55_1 : wr.cell? ⟨gp1_0, 1, none⟩ = some (.slice A1_1 l1_1.length c1_1) := (blk_cell BK134.out 1).trans rfl
                 have hfz55_0 := blk_frozen BK134.out 0
                 have hfz55_1 := blk_frozen BK134.out 1
                 have p148 : 0 ≤ ((rd (rd_L2 l4_0 a0) x26_1) : Int) := of_decide_eq_true zh
                 have q148 : (rd (rd_L2 l4_0 a0) x26_1) < (l1_1.length : Int) := of_decide_eq_true zh
                 obtain ⟨ad148, e148, hx148_0, hx148_1, hx148_2⟩ := at_T69 HR1_1.out (rd (rd_L2 l4_0 a0) x26_1) p148 q148
                 cases e148
                 replace hx148_0 := (HB.out.cell (World.block_lt_of_cell? w0 _ hx148_0)).trans hx148_0
                 replace hx148_1 := (HB.out.cell (World.block_lt_of_cell? w0 _ hx148_1)).trans hx148_1
                 replace hx148_2 := (HB.out.cell (World.block_lt_of_cell? w0 _ hx148_2)).trans hx148_2
                 replace p148 := eq_true p148
                 replace q148 := eq_true q148
                 have hnb56 := NB138_135.out
                 have hnc56 := NB135_138.out
                 have hnb57 := NB138_136.out
                 have hnc57 := NB136_138.out
                 have hnb58 := NB138_137.out
                 have hnc58 := NB137_138.out
                 have hnb59 := NB138_139.out
                 have hnc59 := NB139_138.out
                 have hcz60_0 : wr.cell? ⟨gp5_0, 0, none⟩ = some (.slice A5_0 l5_0.length c5_0) := (blk_cell BK138.out 0).trans rfl
                 have hfz60_0 := blk_frozen BK138.out 0
                 have p149 : 0 ≤ (((rd_T69 l1_1 (rd (rd_L2 l4_0 a0) x26_1)).f1) : Int) := of_decide_eq_true zh
                 have q149 : ((rd_T69 l1_1 (rd (rd_L2 l4_0 a0) x26_1)).f1) < (l5_0.length : Int) := of_decide_eq_true zh
                 obtain ⟨ad149, e149, hx149_0⟩ := Kd.at_int HR5_0.out ((rd_T69 l1_1 (rd (rd_L2 l4_0 a0) x26_1)).f1) p149 q149
                 cases e149
                 replace hx149_0 := (HB.out.cell (World.block_lt_of_cell? w0 _ hx149_0)).trans hx149_0
                 replace p149 := eq_true p149
                 replace q149 := eq_true q149
                 have hnb61 := NB136_135.out
                 have hnc61 := NB135_136.out
                 have hnb62 := NB136_137.out
                 have hnc62 := NB137_136.out
                 have hnb63 := NB136_139.out
                 have hnc63 := NB139_136.out
                 have hcz64_0 : wr.cell? ⟨gp3_0, 0, none⟩ = some (u137000) := (blk_cell BK136.out 0).trans rfl
                 have hfz64_0 := blk_frozen BK136.out 0
                 go_wp2_with (first | ((with_reducible refine gate_builtin (b := .append) (xs := #[.tmp 41, .tmp 43]) rfl ?_); at_builtin; refine Kd.R_append (Kd.int .i64) (w0 := w0) w0.heap.size rfl (.tmp 41) (.tmp 43) 25 3 (.int .i64 0) 8 rfl Try.underlying25 info3 rfl (by decide) (by omega) u137000 x137000_1 (rd (rd_L2 l4_0 a0) x26_1) [.int .i64 (rd (rd_L2 l4_0 a0) x26_1)] (fun _ => True) (fun _ => False) rfl rfl ?aP (fun _ hk => hk.elim) ?aF ?aO ?aB ?aS ?aL ?_; (case aP => exact rfl); (case aB => exact zB); (case aF => exact (fun _ _ => trivial)); (case aO => exact (zR HO_137000)); (case aS => exact (below_size zB)); (case aL => have := LMc45.out; omega); intro v151 w65 ho hb hg hat; rw [← Ny150.out] at ho; have n0_ := Aside0.mk (Kd.S_after (ok := (fun k_ => k_ ≠ gp3_0)) (by (with_reducible repeat (first | apply Kd.S_alloc | apply Kd.S_drewN | apply Kd.S_drew)); exact Kd.S_mono HO_136000.out (fun _ hk => ⟨hk.2, hk.1⟩)) hg hat); have n1_ := Aside0.mk (blk_grown (g := gp1_0) (o := .cells #[.int .i64 a1_0, .slice (some ad148) l1_1.length c1_1] 24 (0, 0)) (zk BK134) hg (Kd.R_ne HO_137000.out BK134.out (by decide))); have n2_ := Aside0.mk (blk_grown (g := gp2_0) (o := .cells #[u136000] 34 (0, 0)) (zk BK135) hg (Kd.R_ne HO_137000.out BK135.out (by decide))); have n3_ := Aside0.mk (blk_grown (g := gp3_0) (o := .cells #[u137000] 25 (0, 0)) (zk BK136) hg (Kd.R_ne HO_137000.out BK136.out (by decide))); have n4_ := Aside0.mk (blk_grown (g := gp4_0) (o := .cells #[.slice (some ad146) l4_0.length c4_0] 34 (0, 0)) (zk BK137) hg (Kd.R_ne HO_137000.out BK137.out (by decide))); have n5_ := Aside0.mk (blk_grown (g := gp5_0) (o := .cells #[.slice (some ad149) l5_0.length c5_0] 71 (0, 0)) (zk BK138) hg (Kd.R_ne HO_137000.out BK138.out (by decide))); have n6_ := Aside0.mk (blk_grown (g := gp6_0) (o := .cells #[.func (.func 59) #[] #[.pointer (some ⟨gp1_0, 0, none⟩), .pointer (some ⟨gp2_0, 0, none⟩), .pointer (some ⟨gp3_0, 0, none⟩), .pointer (some ⟨gp4_0, 0, none⟩), .pointer (some ⟨gp5_0, 0, none⟩), .pointer (some ⟨gp6_0, 0, none⟩)]] 74 (0, 0)) (zk BK139) hg (Kd.R_ne HO_137000.out BK139.out (by decide))); have n7_ := Aside0.mk (hb); have n8_ := Aside0.mk (ho); clear HO_136000; clear BK134; clear BK135; clear BK136; clear BK137; clear BK138; clear BK139; clear HB; clear HO_137000; have HO_136000 := n0_; have BK134 := n1_; have BK135 := n2_; have BK136 := n3_; have BK137 := n4_; have BK138 := n5_; have BK139 := n6_; have HB := n7_; have HO152 := n8_; clear n0_ n1_ n2_ n3_ n4_ n5_ n6_ n7_ n8_; clear ho hb hg hat; obtain ⟨Ao66, co66, eo66⟩ := Kd.R_slice HO152.out; subst eo66; have hcz67_0 : w65.cell? ⟨gp3_0, 0, none⟩ = some (u137000) := (blk_cell BK136.out 0).trans rfl; have hfz67_0 := blk_frozen BK136.out 0; have hnb68 := NB139_135.out; have hnc68 := NB135_139.out; have hnb69 := NB139_137.out; have hnc69 := NB137_139.out; have hcz70_0 : w65.cell? ⟨gp6_0, 0, none⟩ = some (.func (.func 59) #[] #[.pointer (some ⟨gp1_0, 0, none⟩), .pointer (some ⟨gp2_0, 0, none⟩), .pointer (some ⟨gp3_0, 0, none⟩), .pointer (some ⟨gp4_0, 0, none⟩), .pointer (some ⟨gp5_0, 0, none⟩), .pointer (some ⟨gp6_0, 0, none⟩)]) := (blk_cell BK139.out 0).trans rfl; have hfz70_0 := blk_frozen BK139.out 0; obtain ⟨Ao71, co71, eo71⟩ := Kd.S_slice HO_136000.out; subst eo71) | (go_at_call 59; (refine (ih k1 (by have := HK1.out; omega) ((rd_T69 l1_1 (rd (rd_L2 l4_0 a0) x26_1)).f1) gp1_0 a1_0 (some ad148) c1_1 l1_1 gp2_0 (.slice Ao71 x136000_1.length co71) x136000_1 gp3_0 (.slice Ao66 y150.length co66) y150 gp4_0 (some ad146) c4_0 l4_0 gp5_0 (some ad149) c5_0 l5_0 gp6_0 t153 t156 w0 _ ?side1 ?side2 ?side3 ?side4 ?side5 ?side6 ?side7 ?side8 ?side9 A46.out).mono ?_); (case side1 => exact HR1_1.out); (case side2 => exact HC1_1.out); (case side3 => exact HR4_0.out); (case side4 => exact HC4_0.out); (case side5 => exact HR5_0.out); (case side6 => exact HC5_0.out); (case side7 => exact ⟨GE135.out, GE136.out⟩); (case side8 => exact ⟨NB134_135.out, NB134_136.out, NB134_137.out, NB134_138.out, NB134_139.out, NB135_136.out, NB135_137.out, NB135_138.out, NB135_139.out, NB136_137.out, NB136_138.out, NB136_139.out, NB137_138.out, NB137_139.out, NB138_139.out⟩); (case side9 => exact ⟨by (with_reducible repeat (first | apply Kd.S_alloc | apply Kd.S_drewN | apply Kd.S_drew)); exact Kd.S_mono (Kd.S_far (p := ⟨gp3_0, 0, none⟩) (Kd.S_mono HO_136000.out (fun k_ hk => (⟨hk, hk.1⟩ : _ ∧ k_ ≠ gp3_0))) (fun _ hk => hk.2) (.slice Ao66 y150.length co66)) (fun _ hk => ⟨hk.1.2, hk.1.1⟩), by (with_reducible repeat (first | apply Kd.R_alloc | apply Kd.R_drewN | apply Kd.R_drew)); exact Kd.R_mono (Kd.R_far (p := ⟨gp3_0, 0, none⟩) (Kd.R_types HO152.out BK136.out (by decide)) (fun _ hk => hk.2) (.slice Ao66 y150.length co66)) (fun _ hk => trivial), by (with_reducible repeat (first | refine blk_drewN ?_ _ | refine blk_drew ?_ | refine blk_alloc ?_ _)); refine blk_far ?_ NB134_136.out _; (with_reducible repeat (first | refine blk_drewN ?_ _ | refine blk_drew ?_ | refine blk_alloc ?_ _)); exact BK134.out, by (with_reducible repeat (first | refine blk_drewN ?_ _ | refine blk_drew ?_ | refine blk_alloc ?_ _)); refine blk_far ?_ NB135_136.out _; (with_reducible repeat (first | refine blk_drewN ?_ _ | refine blk_drew ?_ | refine blk_alloc ?_ _)); exact BK135.out, by (with_reducible repeat (first | refine blk_drewN ?_ _ | refine blk_drew ?_ | refine blk_alloc ?_ _)); refine blk_put (cs := #[u137000]) ?_ 0 _ rfl; (with_reducible repeat (first | refine blk_drewN ?_ _ | refine blk_drew ?_ | refine blk_alloc ?_ _)); exact BK136.out, by (with_reducible repeat (first | refine blk_drewN ?_ _ | refine blk_drew ?_ | refine blk_alloc ?_ _)); refine blk_far ?_ NB137_136.out _; (with_reducible repeat (first | refine blk_drewN ?_ _ | refine blk_drew ?_ | refine blk_alloc ?_ _)); exact BK137.out, by (with_reducible repeat (first | refine blk_drewN ?_ _ | refine blk_drew ?_ | refine blk_alloc ?_ _)); refine blk_far ?_ NB138_136.out _; (with_reducible repeat (first | refine blk_drewN ?_ _ | refine blk_drew ?_ | refine blk_alloc ?_ _)); exact BK138.out, by (with_reducible repeat (first | refine blk_drewN ?_ _ | refine blk_drew ?_ | refine blk_alloc ?_ _)); refine blk_far ?_ NB139_136.out _; (with_reducible repeat (first | refine blk_drewN ?_ _ | refine blk_drew ?_ | refine blk_alloc ?_ _)); exact BK139.out, by repeat (first | (with_reducible first | exact HB.out | apply below_alloc | apply pw_below_drewN | apply below_drew1 | refine below_set ?_ GE134.out | refine below_set ?_ GE135.out | refine below_set ?_ GE136.out | refine below_set ?_ GE137.out | refine below_set ?_ GE138.out | refine below_set ?_ GE139.out) | exact HB.out)⟩); rintro e w72 ⟨rfl, v154, v157, ho1, ho2, hb0, hb1, hb2, hb3, hb4, hb5, hb⟩; have n0_ := Aside0.mk (ho1); have n1_ := Aside0.mk (ho2); have n2_ := Aside0.mk (hb0); have n3_ := Aside0.mk (hb1); have n4_ := Aside0.mk (hb2); have n5_ := Aside0.mk (hb3); have n6_ := Aside0.mk (hb4); have n7_ := Aside0.mk (hb5); have n8_ := Aside0.mk (hb); clear BK134; clear BK135; clear BK136; clear BK137; clear BK138; clear BK139; clear HB; clear HO_136000; clear HO152; have HO155 := n0_; have HO158 := n1_; have BK134 := n2_; have BK135 := n3_; have BK136 := n4_; have BK137 := n5_; have BK138 := n6_; have BK139 := n7_; have HB := n8_; clear n0_ n1_ n2_ n3_ n4_ n5_ n6_ n7_ n8_; clear ho1 ho2 hb0 hb1 hb2 hb3 hb4 hb5 hb; have hcz73_0 : w72.cell? ⟨gp3_0, 0, none⟩ = some (v157) := (blk_cell BK136.out 0).trans rfl; have hfz73_0 := blk_frozen BK136.out 0; obtain ⟨Ao74, co74, eo74⟩ := Kd.R_slice HO158.out; subst eo74; have q75 : ((ji47) : Int) ≤ ((t156.length : Int) : Int) := of_decide_eq_true zh; obtain ⟨i075, hi075, _, hsz75, _⟩ := info_parts info3; have hcut75 := cut_to (P := Try.prog) 25 3 .i64 Try.underlying25 hi075 Ao74 t156.length co74 (ji47) (of_decide_eq_true zh) q75 (Kd.R_reads' HO158.out).2.1; have hr75 := Kd.R_take (m := ((ji47) : Int).toNat) HO158.out (by omega); have hy75 : y159.length = ((ji47) : Int).toNat := (by rw [Ny159.out, List.length_take]; omega); rw [← Ny159.out] at hr75; rw [← hy75] at hr75 hcut75; clear hy75 hi075 hsz75 HO158; have HO161 := Aside0.mk hr75; clear hr75; replace q75 := eq_true q75; have n_ := Aside0.mk (Kd.S_mono (ok' := fun k_ => (some k_ ≠ (.slice Ao74 y159.length co74 : Value).ownBlock ∧ k_ ≠ gp3_0)) HO155.out (fun k_ hk => ⟨(fun e_ => hk.1 (e_.trans (own_len _ _ _ _))), hk.2⟩)); clear HO155; have HO155 := n_; clear n_))
                 go_roundg k1
                 case measure => have := HK1.out; omega
                 case rel => exact ⟨(wrap64 (x26_1 + 1)), (t153), (y159), (v154), (.slice Ao74 y159.length co74), zT, H', ⟨by have := HK1.out; omega⟩, ⟨by (with_reducible repeat (first | apply Kd.S_alloc | apply Kd.S_drewN | apply Kd.S_drew)); exact Kd.S_mono (Kd.S_far (p := ⟨gp3_0, 0, none⟩) (Kd.S_mono HO155.out (fun k_ hk => (⟨hk, hk.2⟩ : _ ∧ k_ ≠ gp3_0))) (fun _ hk => hk.2) (.slice Ao74 y159.length co74)) (fun _ hk => ⟨hk.1.1, hk.1.2⟩)⟩, ⟨by (with_reducible repeat (first | apply Kd.R_alloc | apply Kd.R_drewN | apply Kd.R_drew)); exact Kd.R_mono (Kd.R_far (p := ⟨gp3_0, 0, none⟩) (Kd.R_types HO161.out BK136.out (by decide)) (fun _ hk => hk.2) (.slice Ao74 y159.length co74)) (fun _ hk => trivial)⟩, ⟨by (with_reducible repeat (first | refine blk_drewN ?_ _ | refine blk_drew ?_ | refine blk_alloc ?_ _)); refine blk_far ?_ NB134_136.out _; (with_reducible repeat (first | refine blk_drewN ?_ _ | refine blk_drew ?_ | refine blk_alloc ?_ _)); exact BK134.out⟩, ⟨by (with_reducible repeat (first | refine blk_drewN ?_ _ | refine blk_drew ?_ | refine blk_alloc ?_ _)); refine blk_far ?_ NB135_136.out _; (with_reducible repeat (first | refine blk_drewN ?_ _ | refine blk_drew ?_ | refine blk_alloc ?_ _)); exact BK135.out⟩, ⟨by (with_reducible repeat (first | refine blk_drewN ?_ _ | refine blk_drew ?_ | refine blk_alloc ?_ _)); refine blk_put (cs := #[.slice Ao74 t156.length co74]) ?_ 0 _ rfl; (with_reducible repeat (first | refine blk_drewN ?_ _ | refine blk_drew ?_ | refine blk_alloc ?_ _)); exact BK136.out⟩, ⟨by (with_reducible repeat (first | refine blk_drewN ?_ _ | refine blk_drew ?_ | refine blk_alloc ?_ _)); refine blk_far ?_ NB137_136.out _; (with_reducible repeat (first | refine blk_drewN ?_ _ | refine blk_drew ?_ | refine blk_alloc ?_ _)); exact BK137.out⟩, ⟨by (with_reducible repeat (first | refine blk_drewN ?_ _ | refine blk_drew ?_ | refine blk_alloc ?_ _)); refine blk_far ?_ NB138_136.out _; (with_reducible repeat (first | refine blk_drewN ?_ _ | refine blk_drew ?_ | refine blk_alloc ?_ _)); exact BK138.out⟩, ⟨by (with_reducible repeat (first | refine blk_drewN ?_ _ | refine blk_drew ?_ | refine blk_alloc ?_ _)); refine blk_far ?_ NB139_136.out _; (with_reducible repeat (first | refine blk_drewN ?_ _ | refine blk_drew ?_ | refine blk_alloc ?_ _)); exact BK139.out⟩, ⟨by repeat (first | (with_reducible first | exact HB.out | apply below_alloc | apply pw_below_drewN | apply below_drew1 | refine below_set ?_ GE134.out | refine below_set ?_ GE135.out | refine below_set ?_ GE136.out | refine below_set ?_ GE137.out | refine below_set ?_ GE138.out | refine below_set ?_ GE139.out) | exact HB.out)⟩⟩
                ·rw [if_neg c49] at H
                 exact absurd H (by simp)
               ·rw [if_neg c48] at H
                exact absurd H (by simp)
              ·rw [if_neg c45] at H
               exact absurd H (by simp)
             ·rw [if_neg c44] at H
              have c44b0 : decide (0 < (rd l5_0 ((rd_T69 l1_1 (rd (rd_L2 l4_0 a0) x26_1)).f1))) = false := decide_eq_false c44
              clear c44
              have H' := Aside0.mk H
              clear H
              have p147 : 0 ≤ (x26_1 : Int) := of_decide_eq_true zh
              have q147 : x26_1 < ((rd_L2 l4_0 a0).length : Int) := of_decide_eq_true zh
              obtain ⟨ad147, e147, hx147_0⟩ := Kd.at_int HR146_0.out x26_1 p147 q147
              cases e147
              replace hx147_0 := (HB.out.cell (World.block_lt_of_cell? w0 _ hx147_0)).trans hx147_0
              replace p147 := eq_true p147
              replace q147 := eq_true q147
              have hnb76 := NB134_135.out
              have hnc76 := NB135_134.out
              have hnb77 := NB134_136.out
              have hnc77 := NB136_134.out
              have hnb78 := NB134_137.out
              have hnc78 := NB137_134.out
              have hnb79 := NB134_138.out
              have hnc79 := NB138_134.out
              have hnb80 := NB134_139.out
              have hnc80 := NB139_134.out
              have hcz81_0 : wr.cell? ⟨gp1_0, 0, none⟩ = some (.int .i64 a1_0) := (blk_cell BK134.out 0).trans rfl
              have hcz81_1 : wr.cell? ⟨gp1_0, 1, none⟩ = some (.slice A1_1 l1_1.length c1_1) := (blk_cell BK134.out 1).trans rfl
              have hfz81_0 := blk_frozen BK134.out 0
              have hfz81_1 := blk_frozen BK134.out 1
              have p148 : 0 ≤ ((rd (rd_L2 l4_0 a0) x26_1) : Int) := of_decide_eq_true zh
              have q148 : (rd (rd_L2 l4_0 a0) x26_1) < (l1_1.length : Int) := of_decide_eq_true zh
              obtain ⟨ad148, e148, hx148_0, hx148_1, hx148_2⟩ := at_T69 HR1_1.out (rd (rd_L2 l4_0 a0) x26_1) p148 q148
              cases e148
              replace hx148_0 := (HB.out.cell (World.block_lt_of_cell? w0 _ hx148_0)).trans hx148_0
              replace hx148_1 := (HB.out.cell (World.block_lt_of_cell? w0 _ hx148_1)).trans hx148_1
              replace hx148_2 := (HB.out.cell (World.block_lt_of_cell? w0 _ hx148_2)).trans hx148_2
              replace p148 := eq_true p148
              replace q148 := eq_true q148
              have hnb82 := NB138_135.out
              have hnc82 := NB135_138.out
              have hnb83 := NB138_136.out
              have hnc83 := NB136_138.out
              have hnb84 := NB138_137.out
              have hnc84 := NB137_138.out
              have hnb85 := NB138_139.out
              have hnc85 := NB139_138.out
              have hcz86_0 : wr.cell? ⟨gp5_0, 0, none⟩ = some (.slice A5_0 l5_0.length c5_0) := (blk_cell BK138.out 0).trans rfl
              have hfz86_0 := blk_frozen BK138.out 0
              have p149 : 0 ≤ (((rd_T69 l1_1 (rd (rd_L2 l4_0 a0) x26_1)).f1) : Int) := of_decide_eq_true zh
              have q149 : ((rd_T69 l1_1 (rd (rd_L2 l4_0 a0) x26_1)).f1) < (l5_0.length : Int) := of_decide_eq_true zh
              obtain ⟨ad149, e149, hx149_0⟩ := Kd.at_int HR5_0.out ((rd_T69 l1_1 (rd (rd_L2 l4_0 a0) x26_1)).f1) p149 q149
              cases e149
              replace hx149_0 := (HB.out.cell (World.block_lt_of_cell? w0 _ hx149_0)).trans hx149_0
              replace p149 := eq_true p149
              replace q149 := eq_true q149
              go_wp2
              go_roundg k1
              case measure => have := HK1.out; omega
              case rel => exact ⟨(wrap64 (x26_1 + 1)), (x136000_1), (x137000_1), (u136000), (u137000), zT, H', ⟨by have := HK1.out; omega⟩, ⟨by (with_reducible repeat (first | apply Kd.S_alloc | apply Kd.S_drewN | apply Kd.S_drew)); exact HO_136000.out⟩, ⟨by (with_reducible repeat (first | apply Kd.R_alloc | apply Kd.R_drewN | apply Kd.R_drew)); exact HO_137000.out⟩, ⟨by (with_reducible repeat (first | refine blk_drewN ?_ _ | refine blk_drew ?_ | refine blk_alloc ?_ _)); exact BK134.out⟩, ⟨by (with_reducible repeat (first | refine blk_drewN ?_ _ | refine blk_drew ?_ | refine blk_alloc ?_ _)); exact BK135.out⟩, ⟨by (with_reducible repeat (first | refine blk_drewN ?_ _ | refine blk_drew ?_ | refine blk_alloc ?_ _)); exact BK136.out⟩, ⟨by (with_reducible repeat (first | refine blk_drewN ?_ _ | refine blk_drew ?_ | refine blk_alloc ?_ _)); exact BK137.out⟩, ⟨by (with_reducible repeat (first | refine blk_drewN ?_ _ | refine blk_drew ?_ | refine blk_alloc ?_ _)); exact BK138.out⟩, ⟨by (with_reducible repeat (first | refine blk_drewN ?_ _ | refine blk_drew ?_ | refine blk_alloc ?_ _)); exact BK139.out⟩, ⟨by repeat (first | (with_reducible first | exact HB.out | apply below_alloc | apply pw_below_drewN | apply below_drew1 | refine below_set ?_ GE134.out | refine below_set ?_ GE135.out | refine below_set ?_ GE136.out | refine below_set ?_ GE137.out | refine below_set ?_ GE138.out | refine below_set ?_ GE139.out) | exact HB.out)⟩⟩
            ·rw [if_neg c43] at H
             exact absurd H (by simp)
           ·rw [if_neg c42] at H
            exact absurd H (by simp)
          ·rw [if_neg c41] at H
           exact absurd H (by simp)
         ·rw [if_neg c40] at H
          exact absurd H (by simp)
        ·rw [if_neg c39] at H
         exact absurd H (by simp)
       ·rw [if_neg c38] at H
        exact absurd H (by simp)
      ·rw [if_neg c37] at H
       have c37b0 : decide (x26_1 < ((rd_L2 l4_0 a0).length : Int)) = false := decide_eq_false c37
       clear c37
       simp only [Option.some.injEq, Prod.mk.injEq] at H
       obtain ⟨rfl, rfl⟩ := H
       go_wp2
       first | go_end0 | ((try simp only [Exit.inBlock, Exit.then]); refine bodyPost_ret (results_none rfl _ _ _) rfl ?_)
       exact ⟨rfl, _, _, by (with_reducible repeat (first | apply Kd.S_alloc | apply Kd.S_drewN | apply Kd.S_drew)); exact HO_136000.out, by (with_reducible repeat (first | apply Kd.R_alloc | apply Kd.R_drewN | apply Kd.R_drew)); exact HO_137000.out, by (with_reducible repeat (first | refine blk_drewN ?_ _ | refine blk_drew ?_ | refine blk_alloc ?_ _)); exact BK134.out, by (with_reducible repeat (first | refine blk_drewN ?_ _ | refine blk_drew ?_ | refine blk_alloc ?_ _)); exact BK135.out, by (with_reducible repeat (first | refine blk_drewN ?_ _ | refine blk_drew ?_ | refine blk_alloc ?_ _)); exact BK136.out, by (with_reducible repeat (first | refine blk_drewN ?_ _ | refine blk_drew ?_ | refine blk_alloc ?_ _)); exact BK137.out, by (with_reducible repeat (first | refine blk_drewN ?_ _ | refine blk_drew ?_ | refine blk_alloc ?_ _)); exact BK138.out, by (with_reducible repeat (first | refine blk_drewN ?_ _ | refine blk_drew ?_ | refine blk_alloc ?_ _)); exact BK139.out, by repeat (first | (with_reducible first | exact HB.out | apply below_alloc | apply pw_below_drewN | apply below_drew1 | refine below_set ?_ GE134.out | refine below_set ?_ GE135.out | refine below_set ?_ GE136.out | refine below_set ?_ GE137.out | refine below_set ?_ GE138.out | refine below_set ?_ GE139.out) | exact HB.out)⟩
   ·rw [if_neg c25] at H
    exact absurd H (by simp)
  ·rw [if_neg c24] at H
   exact absurd H (by simp)
end Go.Proofs.Ytanbffoilianhaa.F
