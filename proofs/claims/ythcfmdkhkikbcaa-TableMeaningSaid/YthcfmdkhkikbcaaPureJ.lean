/- The plain law behind J: about the printed functions alone, no memory and no Go in it. -/
import Derived.Test.YthcfmdkhkikbcaaPureV
namespace Go.Proofs.Ythcfmdkhkikbcaa.Pure
open Go.RowKit Go.Proofs.YthcfmdkhkikbcaaW.PrintWords Go.Proofs.Ythcfmdkhkikbcaa.T
set_option linter.unusedVariables false
set_option linter.unusedSimpArgs false
/-! ### over -/
theorem o_jo_loop {vs : List Int} (hc : Chn 24 none vs) (hl : vs.length ≤ 10) (a0 a1 b0 b1 : List Int) (t : Nat → Bool) (ht : ∀ a : Nat, a < 2 ^ 24 → Ev (fun k => table_combine_1_table_Join_1.f k (a : Int) a0 a1 b0 b1) (t a)) (V : List Int) (N : Nat) (hN : N ≤ 1024) : ∀ (d r : Nat) (acc : List Int), r + d = N → acc.length ≤ r →
    Ev (fun k => table_over_table_combine_1_table_Join_1.l0 k vs (N : Int) (r : Int) a0 a1 b0 b1 V acc) (V, acc ++ flt (fun r => t (asg vs r)) d r)
  | 0, r, acc, h, ha => Ev.step (f := fun _ => some (V, acc)) (fun k => by rw [table_over_table_combine_1_table_Join_1.l0, if_neg (by omega)]) (by simpa [flt] using Ev.now _)
  | d + 1, r, acc, h, ha => by
    have hw : wrap64 ((r : Int) + 1) = ((r + 1 : Nat) : Int) := by rw [w64_in _ (by omega)]; omega
    have hr : r < 2 ^ 60 := Nat.lt_of_le_of_lt (show r ≤ 1024 by omega) (by decide)
    refine Ev.step (fun k => by rw [table_over_table_combine_1_table_Join_1.l0, if_pos (by omega)]) (Ev.bind (asg_ev hc (by omega) r hr) (Ev.bind (ht _ (asg_lt hc r)) ?_))
    rw [flt, hw]
    by_cases e : t (asg vs r) = true
    · have ih := o_jo_loop hc hl a0 a1 b0 b1 t ht V N hN d (r + 1) (acc ++ [(r : Int)]) (by omega) (by simp; omega)
      rw [if_pos e]
      rw [List.append_assoc, List.singleton_append] at ih
      exact ev_pos e (ev_pos (by omega) ih)
    · have ih := o_jo_loop hc hl a0 a1 b0 b1 t ht V N hN d (r + 1) acc (by omega) (by omega)
      rw [if_neg e]
      exact ev_neg e ih
theorem o_jo_ev {vs : List Int} (hc : Chn 24 none vs) (hl : vs.length ≤ 10) (a0 a1 b0 b1 : List Int) (t : Nat → Bool) (ht : ∀ a : Nat, a < 2 ^ 24 → Ev (fun k => table_combine_1_table_Join_1.f k (a : Int) a0 a1 b0 b1) (t a)) : Ev (fun k => table_over_table_combine_1_table_Join_1.f k vs a0 a1 b0 b1) (vs, ovr vs t) := by
  unfold table_over_table_combine_1_table_Join_1.f
  rw [clone_eq vs (by omega), shl1 vs.length (by omega)]
  exact o_jo_loop hc hl a0 a1 b0 b1 t ht vs (2 ^ vs.length) (pow10 hl) (2 ^ vs.length) 0 [] (by omega) (by simp)
/-! ### Join; awake -/
theorem jo_ev {a b c d : List Int} (h1 : VT a b) (h2 : VT c d) (x : Nat) (hx : x < 2 ^ 24) : Ev (fun k => table_combine_1_table_Join_1.f k (x : Int) a b c d) (hs a b x && hs c d x) := by
  have hx2 : x < 2 ^ 60 := Nat.lt_of_lt_of_le hx (by decide)
  refine Ev.bind (has_ev h1 x hx2) (Ev.bind (has_ev h2 x hx2) ?_)
  unfold table_Join_1.f
  cases hs a b x
  · exact Ev.now _
  · exact Ev.now _
def cmb (t : Bool → Bool → Bool) (a b c d : List Int) : List Int × List Int × Int :=
  if valid a b = 0 then if valid c d = 0 then if ((all2 a c).length : Int) > 10 then ([], [], 3) else (all2 a c, ovr (all2 a c) (fun x => t (hs a b x) (hs c d x)), 0) else ([], [], valid c d) else ([], [], valid a b)
theorem join_ev (a b c d : List Int) (ha : a.length ≤ 1000000) (hb : b.length ≤ 1000000) (hc : c.length ≤ 1000000) (hd : d.length ≤ 1000000) : Ev (fun k => table_Join.f k a b c d) (cmb (fun x y => x && y) a b c d) := by
  have key : Ev (fun k => table_combine_table_Join_1.f k a b c d) (cmb (fun x y => x && y) a b c d) := by
    refine Ev.bind (valid_ev a b (by omega) (by omega)) (ev_ite (fun h1 => Ev.bind (valid_ev c d (by omega) (by omega)) (ev_ite (fun h2 => ?_) (fun _ => Ev.now _))) (fun _ => Ev.now _))
    have v1 := (valid_VT a b).1 h1
    have v2 := (valid_VT c d).1 h2
    refine Ev.bind (all_ev a c ha hc) (ev_ite (fun _ => Ev.now _) (fun h3 => ?_))
    exact Ev.bind (o_jo_ev (all2_chn v1.vars v2.vars).1 (by omega) a b c d _ (jo_ev v1 v2)) (Ev.now _)
  exact Ev.bind key (Ev.now _)
theorem awake_ev : Ev (fun k => ancepslaw38_awake.f k) true := by
  have v1 : VT [0, 1] [1, 2] := (valid_VT _ _).1 (by decide)
  have v2 : VT [1] [1] := (valid_VT _ _).1 (by decide)
  have e : all2 [0, 1] [1] = [0, 1] := Chn.same (all2_chn v1.vars v2.vars).1 v1.vars (fun n => by rw [(all2_chn v1.vars v2.vars).2]; simp)
  have hj := join_ev [0, 1] [1, 2] [1] [1] (by decide) (by decide) (by decide) (by decide)
  have ej : cmb (fun x y => x && y) [0, 1] [1, 2] [1] [1] = ([0, 1], [2], 0) := by
    unfold cmb
    rw [e, if_pos (by decide), if_pos (by decide), if_neg (by decide)]
    refine congrArg (Prod.mk _) (congrArg (fun z => (z, (0 : Int))) ?_)
    kernel_rfl
  rw [ej] at hj
  have hv := dvital_ev (vs := [3, 5]) (rs := [0, 2]) (by decide) (by decide)
  have ev : (if valid [3, 5] [0, 2] = 0 then ((vit [3, 5] [0, 2]).1, (vit [3, 5] [0, 2]).2, 0) else ([], [], valid [3, 5] [0, 2])) = (([3], [0], 0) : List Int × List Int × Int) := by
    rw [if_pos (by decide)]
    kernel_rfl
  rw [ev] at hv
  exact Ev.bind hj (Ev.bind hv (ev_pos rfl (Ev.bind (equal_ev [0, 1] [2] (by decide) (by decide)) (ev_pos rfl (ev_pos rfl (Ev.bind (equal_ev [3] [0] (by decide) (by decide)) (Ev.now _)))))))
theorem awake_bind : Ev (fun k => (ancepslaw38_awake.f k).bind fun t => some t) true := Ev.bind awake_ev (Ev.now _)
end Go.Proofs.Ythcfmdkhkikbcaa.Pure
