-- Written by wip/tools/myprint.py, a program of this session's.
import Derived.Test.YtbagnalcabdlhaaS0
namespace Go.Proofs.Ytbagnalcabdlhaa.S
open Go.RowKit Go.Proofs.YtbagnalcabdlhaaW.PrintWords Go.Proofs.YtbagnalcabdlhaaW.PrintLast Go.Proofs.YtbagnalcabdlhaaW.PrintMore
attribute [local go_sem] max2_int min2_int max_two min_two max_three min_three max_four min_four   -- for this text's walks alone
set_option linter.unusedVariables false
set_option linter.unusedSimpArgs false
/-! ### api_Branch: function 18 -/
def api_Branch.f (l0 : List (S35)) : Option ((List (S35))) := (some (([] : List (S35)) : List (S35))).bind fun y574 => (if y574.length + l0.length < 4398046511104 then (some (y574 ++ l0)) else (none))
set_option maxHeartbeats 8000000 in
set_option maxRecDepth 100000 in
theorem api_Branch.calls (A0 : Option Addr) (c0 : Nat) (l0 : List (S35)) (r : List (S35)) (w : World) (hr0 : Kd.C k35 w A0 l0.length l0) (hc0 : l0.length ≤ c0) (h : api_Branch.f l0 = some r) :
  Calls Try.prog 18 #[.slice A0 l0.length c0] w fun e w' => ∃ v0_ : Value, e = .returned (v0_) ∧ Kd.R k35 35 w' w.heap.size (fun _ => True) v0_ r ∧ Below w.heap.size w w' := by
 have HR0 := Aside0.mk hr0
 have HC0 := Aside0.mk hc0
 clear hr0 hc0
 have HB := Aside0.mk (Below.refl w.heap.size w)
 have H : ((some (([] : List (S35)) : List (S35))).bind fun y574 => (if y574.length + l0.length < 4398046511104 then (some (y574 ++ l0)) else (none))) = some r := h
 clear h
 have hnq_ : ∀ (w : World) (a : Option Addr) (n c n' c' : Nat), (binOp .eql 25 (.slice a n c) (.slice none n' c')).run Try.prog w = .ok (.bool a.isNone) w := fun w a n c n' c' => Lib.run_eql_slice_nil w _ _ a n c n' c' Try.underlying25
 rcases A0 with _ | adn0
 ·obtain rfl : l0 = [] := (by rcases l0 with _ | ⟨x_, xs_⟩; (· rfl); (· obtain ⟨_, _, e_, _⟩ := Kd.C_get HR0.out z35 0 (by omega) (by simp); cases e_))
  simp only [List.length_nil, List.nil_append] at H
  (first | rw [if_pos (by omega)] at H | simp at H)
  try simp only [Option.some.injEq] at H
  subst H
  go_enter Try.func18, Try.ntmps18
  go_wp2
  go_ret
  first | exact ⟨_, rfl, Kd.R_nil _ _ _ _ _, Below.refl _ _⟩ | exact ⟨_, rfl, Kd.S_nil _ _ _ _ _, Below.refl _ _⟩ | exact ⟨_, rfl, Kd.V_nil _ _ _ _ _, Below.refl _ _⟩ | exact ⟨_, rfl, Kd.N_nil _ _ _ _ _, Below.refl _ _⟩
 ·replace H := H
  obtain ⟨y574, hy574⟩ : ∃ y_ : List (S35), y_ = (([] : List (S35))) := ⟨_, rfl⟩
  replace H : (if y574.length + l0.length < 4398046511104 then (some (y574 ++ l0)) else (none)) = some r := by first | (rw [hy574]; with_reducible exact H) | (have H2_ := (Option.bind_some _ _).symm.trans H; rw [hy574]; with_reducible exact H2_) | (have H2_ := (Option.bind_some _ _).symm.trans H; with_reducible exact H2_) | with_reducible exact H | (rw [hy574]; exact H) | exact H
  have Ny574 := Aside0.mk hy574
  clear hy574
  by_cases c2 : y574.length + l0.length < 4398046511104
  ·rw [if_pos c2] at H
   have LMc2 := Aside0.mk c2
   clear c2
   obtain ⟨y577, hy577⟩ : ∃ y_ : List (S35), y_ = (y574 ++ l0) := ⟨_, rfl⟩
   replace H : (some y577) = some r := by first | (rw [hy577]; with_reducible exact H) | (have H2_ := (Option.bind_some _ _).symm.trans H; rw [hy577]; with_reducible exact H2_) | (have H2_ := (Option.bind_some _ _).symm.trans H; with_reducible exact H2_) | with_reducible exact H | (rw [hy577]; exact H) | exact H
   have Ny577 := Aside0.mk hy577
   clear hy577
   obtain rfl := Option.some.inj H
   go_enter Try.func18, Try.ntmps18
   go_wp2_with (first | ((with_reducible refine gate_dst (N := 5) rfl ?_); refine Kd.R_lit k35 _ 35 ?hg (N := 5) ?hd (xs := ([] : List (S35))) (inner := []) (ok := fun _ => True) (okp := fun _ => True) ?hr ?hp (fun _ hk => hk) trivial (Below.refl _ _) (Nat.le_refl _) (by simp) ?_; (case hd => rfl); (case hg => rfl); (case hr => first | (go_simp; done) | (go_simp; rfl)); (case hp => exact (Reps.none _ _)); intro v575 w3 ho4 hb hg_ hnew_; clear hg_ hnew_; (first | rw [← Ny574.out] at ho4 | (simp only [Int.reduceToNat] at ho4; rw [← Ny574.out] at ho4)); have n0_ := Aside0.mk (Kd.R_lower ho4 (below_size zB)); have n1_ := Aside0.mk (below_step zB hb); clear HB; have HO576 := n0_; have HB := n1_; clear n0_ n1_; clear hb ho4) | ((with_reducible refine gate_builtin (b := .append) (xs := #[.tmp 5, .tmp 6]) rfl ?_); at_builtin; refine Kd.R_append_rows k35 (w0 := w) w.heap.size rfl (.tmp 5) (.tmp 6) 25 35 (.agg #[(.int .i64 0), (.int .i64 0), (.int .i64 0), (.int .i64 0)]) 32 rfl Try.underlying25 info35 rfl (by decide) (by omega) v575 y574 l0 _ _ _ (fun _ => True) (fun _ => False) rfl rfl ?aO ?aR (fun _ _ h => h) (fun _ h => h.elim) ?aF ?aB ?aS ?aL ?_; (case aR => repeat (first | exact (Kd.C_below HR0.out HB.out) | (with_reducible refine Kd.C_alloc ?_ _) | (with_reducible refine Kd.C_drewN ?_ _) | (with_reducible refine Kd.C_drew ?_))); (case aB => exact zB); (case aF => exact (fun _ _ => trivial)); (case aO => exact (zR HO576)); (case aS => exact (below_size zB)); (case aL => have := LMc2.out; omega); intro v578 w5 ho hb hg hat; rw [← Ny577.out] at ho; have n0_ := Aside0.mk (hb); have n1_ := Aside0.mk (ho); clear HB; clear HO576; have HB := n0_; have HO579 := n1_; clear n0_ n1_; clear ho hb hg hat))
   go_ret
   exact ⟨_, by first | rfl | (simp [errW_none, errW_some] <;> rfl) | (simp [*, errW_none, errW_some] <;> rfl), by (with_reducible repeat (first | apply Kd.R_alloc | apply Kd.R_drewN | apply Kd.R_drew)); exact HO579.out, by repeat (first | (with_reducible first | exact HB.out | apply below_alloc | apply pw_below_drewN | apply below_drew1) | exact HB.out)⟩
  ·rw [if_neg c2] at H
   exact absurd H (by simp)
end Go.Proofs.Ytbagnalcabdlhaa.S
