/- The plain law behind Q: about the printed functions alone, no memory and no Go in it. -/
import Derived.Test.YthcfmdkhkikbcaaPureK
import Derived.Test.YthcfmdkhkikbcaaT8
import Derived.Test.YthcfmdkhkikbcaaT27
namespace Go.Proofs.Ythcfmdkhkikbcaa.Pure
open Go.RowKit Go.Proofs.YthcfmdkhkikbcaaW.PrintWords Go.Proofs.Ythcfmdkhkikbcaa.T
set_option linter.unusedVariables false
set_option linter.unusedSimpArgs false
/-! ### Has, Project -/
def hass (vs rs : List Int) (a : Int) : Bool × Int := if valid vs rs = 0 then if a < 0 then (false, 6) else if a ≥ 16777216 then (false, 6) else (hs vs rs a.toNat, 0) else (false, valid vs rs)
theorem dhas_ev (vs rs : List Int) (hl : (vs.length : Int) ≤ 9223372036854775807) (hr : (rs.length : Int) ≤ 9223372036854775807) (a : Int) : Ev (fun k => table_Has.f k vs rs a) (hass vs rs a) := by
  refine Ev.bind (valid_ev vs rs hl hr) (ev_ite (fun h => ev_ite (fun _ => Ev.now _) (fun h0 => ev_ite (fun _ => Ev.now _) (fun h1 => ?_))) (fun _ => Ev.now _))
  have hv := (valid_VT vs rs).1 h
  have h60 : (2 : Nat) ^ 60 = 1152921504606846976 := by decide
  have := has_ev hv a.toNat (by omega)
  rw [← nat_of (by omega)] at this
  exact Ev.bind this (Ev.now _)
def prjs (vs rs us : List Int) : List Int × List Int × Int := if valid vs rs = 0 then if asc us = 0 then if (us.any fun v => !decide (v ∈ vs)) = true then ([], [], 4) else (us, prj vs rs us, 0) else ([], [], asc us) else ([], [], valid vs rs)
theorem ifunc_loop (us vs rs : List Int) (hl : (us.length : Int) ≤ 9223372036854775807) (hv : (vs.length : Int) ≤ 9223372036854775807) : ∀ (d i : Nat), i + d = us.length → ∃ q : Int, Ev (fun k => slices_IndexFunc_int_int_table_Project_1.l0 k us us.length i vs rs) q ∧ decide (q ≥ 0) = (us.drop i).any fun v => !decide (v ∈ vs)
  | 0, i, h => by
    rw [List.drop_eq_nil_of_le (by omega)]
    exact ⟨-1, Ev.step (f := fun _ => some (-1)) (fun k => by rw [slices_IndexFunc_int_int_table_Project_1.l0, if_neg (by omega)]) (Ev.now _), rfl⟩
  | d + 1, i, h => by
    have hi : i < us.length := by omega
    have hw := wrap_succ i us.length hi hl
    obtain ⟨q, hq, hq2⟩ := ifunc_loop us vs rs hl hv d (i + 1) (by omega)
    have hc : Ev (fun k => table_Project_1_v1.f k (rd us i) vs rs) (!decide (rd us i ∈ vs)) := Ev.bind (contains_ev vs hv _) (Ev.now _)
    rw [rd_at us i hi, List.any_cons]
    by_cases e : rd us i ∈ vs
    · have hn : ¬ (!decide (rd us i ∈ vs)) = true := by rw [decide_eq_true e]; decide
      refine ⟨q, Ev.step (fun k => by rw [slices_IndexFunc_int_int_table_Project_1.l0, if_pos (by omega), if_pos (by omega), if_pos (by omega), hw]) (Ev.bind hc (ev_neg hn hq)), ?_⟩
      rw [hq2, decide_eq_true e]; rfl
    · have hn : (!decide (rd us i ∈ vs)) = true := by rw [decide_eq_false e]; rfl
      refine ⟨i, Ev.step (fun k => by rw [slices_IndexFunc_int_int_table_Project_1.l0, if_pos (by omega), if_pos (by omega), if_pos (by omega), hw]) (Ev.bind hc (ev_pos hn (Ev.now _))), ?_⟩
      rw [decide_eq_true (by omega), decide_eq_false e]; rfl
theorem cfunc_ev (us vs rs : List Int) (hl : (us.length : Int) ≤ 9223372036854775807) (hv : (vs.length : Int) ≤ 9223372036854775807) : Ev (fun k => slices_ContainsFunc_int_int_table_Project_1.f k us vs rs) (us.any fun v => !decide (v ∈ vs)) := by
  obtain ⟨q, hq, hq2⟩ := ifunc_loop us vs rs hl hv us.length 0 (by omega)
  rw [List.drop_zero] at hq2
  rw [← hq2]
  exact Ev.bind hq (Ev.now _)
theorem dproj_loop {vs rs : List Int} (h : VT vs rs) {us : List Int} (hu : ∀ v, v ∈ us → 0 ≤ v ∧ v < 24) (hul : us.length ≤ 10) (V : List Int) : ∀ (d i : Nat) (acc : List Int), i + d = rs.length → acc.length ≤ i →
    Ev (fun k => table_Project.l0 k us rs rs.length i vs rs V acc) (V, Lib.compact ((acc ++ (rs.drop i).map fun r => ((row us (asg vs r.toNat) : Nat) : Int)).mergeSort fun x y => decide (x ≤ y)), 0)
  | 0, i, acc, hd, ha => by
    have hr := h.rows_len
    rw [List.drop_eq_nil_of_le (by omega), List.map_nil, List.append_nil]
    have hs : slices_Sort_int_int.f acc = some (acc.mergeSort fun x y => decide (x ≤ y)) := by
      unfold slices_Sort_int_int.f
      rw [if_pos (by omega)]
    refine Ev.step (f := fun _ => some (V, Lib.compact (acc.mergeSort fun x y => decide (x ≤ y)), 0)) (fun k => by rw [table_Project.l0, if_neg (by omega), hs]; rfl) (Ev.now _)
  | d + 1, i, acc, hd, ha => by
    have hr := h.rows_len
    have hl := h.len
    have hi : i < rs.length := by omega
    have hw := wrap_succ i rs.length hi (by omega)
    have hro := h.row_of (rd_mem rs i hi)
    have hp := pow10 hl
    have h60 : (2 : Nat) ^ 60 = 1152921504606846976 := by decide
    have has := asg_ev h.vars (by omega) (rd rs i).toNat (by omega)
    rw [← nat_of hro.1] at has
    have hlt := asg_lt h.vars (rd rs i).toNat
    have ih := dproj_loop h hu hul V d (i + 1) (acc ++ [((row us (asg vs (rd rs i).toNat) : Nat) : Int)]) (by omega) (by simp; omega)
    rw [List.append_assoc, List.singleton_append] at ih
    rw [rd_at rs i hi, List.map_cons]
    have hal : acc.length < 17592186044416 := by omega
    exact Ev.step (fun k => by rw [table_Project.l0, if_pos (by omega), if_pos (by omega), if_pos (by omega), hw]) (Ev.bind has (Ev.bind (row_ev us hu (by omega) _ (Nat.lt_of_lt_of_le hlt (by decide))) (ev_pos hal ih)))
theorem prj_sort (vs rs us : List Int) : Lib.compact ((rs.map fun r => ((row us (asg vs r.toNat) : Nat) : Int)).mergeSort fun x y => decide (x ≤ y)) = prj vs rs us := by
  have := sorted_compact (hi := ((2 ^ us.length : Nat) : Int)) (rs.map fun r => ((row us (asg vs r.toNat) : Nat) : Int)) (fun x hx => by
    obtain ⟨r, _, rfl⟩ := List.mem_map.1 hx
    have := row_lt us (asg vs r.toNat)
    omega)
  refine Chn.same this.1 (prj_chn vs rs us) (fun n => ?_)
  rw [this.2, prj_mem, List.mem_map]
  exact ⟨fun ⟨r, h1, h2⟩ => ⟨r, h1, h2.symm⟩, fun ⟨r, h1, h2⟩ => ⟨r, h1, h2.symm⟩⟩
theorem dprj_ev (vs rs us : List Int) (hl : (vs.length : Int) ≤ 9223372036854775807) (hr : (rs.length : Int) ≤ 9223372036854775807) (hu : (us.length : Int) ≤ 9223372036854775807) : Ev (fun k => table_Project.f k vs rs us) (prjs vs rs us) := by
  refine Ev.bind (valid_ev vs rs hl hr) (ev_ite (fun h1 => Ev.bind (asc_ev us hu) (ev_ite (fun h2 => Ev.bind (cfunc_ev us vs rs hu hl) (ev_ite (fun _ => Ev.now _) (fun h3 => ?_))) (fun _ => Ev.now _))) (fun _ => Ev.now _))
  have v1 := (valid_VT vs rs).1 h1
  have v2 := (asc_iff us).1 h2
  have hlen := v2.1
  rw [clone_eq us (by omega)]
  have := dproj_loop v1 (fun v hv => by have := v2.2.mem v hv; omega) v2.1 us rs.length 0 [] (by omega) (by simp)
  rw [List.drop_zero, List.nil_append, prj_sort] at this
  exact this
end Go.Proofs.Ythcfmdkhkikbcaa.Pure
