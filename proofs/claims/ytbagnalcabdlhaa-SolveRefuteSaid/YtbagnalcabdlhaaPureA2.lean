/- The plain law behind A2: about the printed functions alone, no memory and no Go in it. -/
import Derived.Test.YtbagnalcabdlhaaPureP1
namespace Go.Proofs.Ytbagnalcabdlhaa.Pure
open Go.RowKit Go.Proofs.YtbagnalcabdlhaaW.PrintWords Go.Proofs.Ytbagnalcabdlhaa.S
set_option linter.unusedVariables false
set_option linter.unusedSimpArgs false
/-! ### solve: a table's bits, a system's error -/
theorem srow_loop (vs rs : List Int) (hv : ∀ v, v ∈ vs → 0 ≤ v ∧ v < 24) (hl : vs.length ≤ 24) (a : Nat) (ha : a < 2 ^ 60) : ∀ (d i out : Nat), i + d = vs.length → out < 2 ^ i →
    Ev (fun k => solve_row.l0 k (a : Int) (out : Int) vs vs.length i) ((rowF a (vs.drop i) i out : Nat) : Int)
  | 0, i, out, h, ho => by
    rw [List.drop_eq_nil_of_le (by omega)]
    exact Ev.step (f := fun _ => some (out : Int)) (fun k => by rw [solve_row.l0, if_neg (by omega)]) (Ev.now _)
  | d + 1, i, out, h, ho => by
    have hi : i < vs.length := by omega
    have hw := wrap_succ i vs.length hi (by omega)
    have hm := hv _ (rd_mem vs i hi)
    have ih := srow_loop vs rs hv hl a ha d (i + 1) _ (by omega) (add_lt (a.testBit (rd vs i).toNat) out i ho)
    rw [rd_at vs i hi, rowF]
    refine Ev.step (fun k => ?_) ih
    rw [solve_row.l0, if_pos (by omega), if_pos (by omega), if_pos (by omega), if_pos (by omega), hw]
    have hb := or_bit a (rd vs i).toNat i out ha (by omega) (by omega) ho
    rw [← nat_of hm.1] at hb
    rw [hb]
theorem srow_ev (vs rs : List Int) (hv : ∀ v, v ∈ vs → 0 ≤ v ∧ v < 24) (hl : vs.length ≤ 24) (a : Nat) (ha : a < 2 ^ 60) : Ev (fun k => solve_row.f k vs rs (a : Int)) ((row vs a : Nat) : Int) := by
  have := srow_loop vs rs hv hl a ha vs.length 0 0 (by omega) (by decide)
  exact this
theorem rdT_at (l : List S61) (i : Nat) (hi : i < l.length) : l.drop i = rd_T61 l i :: l.drop (i + 1) := getD_drop l i z61 hi
theorem rdT_mem (l : List S61) (i : Nat) (hi : i < l.length) : rd_T61 l i ∈ l := by
  unfold rd_T61
  simp only [Int.toNat_natCast, List.getD, List.getElem?_eq_getElem hi, Option.getD_some]
  exact List.getElem_mem hi
/-- The error of the first table that has one. -/
def fstErr : List S61 → Int
  | [] => 0
  | t :: ts => if valid t.f0 t.f1 = 0 then fstErr ts else valid t.f0 t.f1
def sysv (l : List S61) : Int := if (l.length : Int) > 16 then 3 else fstErr l
/-- Tables of few variables and rows. -/
def Sm (l : List S61) : Prop := ∀ t, t ∈ l → t.f0.length ≤ 1030 ∧ t.f1.length ≤ 1030
/-- A system without errors. -/
structure VS (l : List S61) : Prop where
  len : l.length ≤ 16
  tab : ∀ t, t ∈ l → VT t.f0 t.f1
theorem fstErr_VT : ∀ l : List S61, fstErr l = 0 ↔ ∀ t, t ∈ l → VT t.f0 t.f1
  | [] => by simp [fstErr]
  | t :: ts => by
    have ih := fstErr_VT ts
    unfold fstErr
    by_cases h : valid t.f0 t.f1 = 0
    · rw [if_pos h, ih]
      exact ⟨fun h2 x hx => by rcases List.mem_cons.1 hx with rfl | hx; exact (valid_VT _ _).1 h; exact h2 x hx, fun h2 x hx => h2 x (List.mem_cons_of_mem _ hx)⟩
    · rw [if_neg h]
      exact ⟨fun h2 => absurd h2 h, fun h2 => absurd ((valid_VT _ _).2 (h2 t List.mem_cons_self)) h⟩
theorem sysv_VS (l : List S61) : sysv l = 0 ↔ VS l := by
  unfold sysv
  by_cases h : (l.length : Int) > 16
  · rw [if_pos h]; exact ⟨fun h2 => by omega, fun h2 => by have := h2.len; omega⟩
  · rw [if_neg h, fstErr_VT]; exact ⟨fun h2 => ⟨by omega, h2⟩, fun h2 => h2.tab⟩
theorem svalid_loop (l : List S61) (hs : Sm l) (hl : l.length ≤ 1000) : ∀ (d i : Nat), i + d = l.length → Ev (fun k => solve_valid.l0 k l l.length i) (fstErr (l.drop i))
  | 0, i, h => by
    rw [List.drop_eq_nil_of_le (by omega)]
    exact Ev.step (f := fun _ => some 0) (fun k => by rw [solve_valid.l0, if_neg (by omega)]) (Ev.now _)
  | d + 1, i, h => by
    have hi : i < l.length := by omega
    have hw := wrap_succ i l.length hi (by omega)
    have hm := hs _ (rdT_mem l i hi)
    rw [rdT_at l i hi, fstErr]
    refine Ev.step (fun k => by rw [solve_valid.l0, if_pos (by omega), if_pos (by omega), if_pos (by omega), hw]) (Ev.bind (valid_ev _ _ (by omega) (by omega)) ?_)
    exact ev_ite (fun _ => svalid_loop l hs hl d (i + 1) (by omega)) (fun _ => Ev.now _)
theorem svalid_ev (l : List S61) (hs : Sm l) (hl : l.length ≤ 1000) : Ev (fun k => solve_valid.f k l) (sysv l) := by
  unfold sysv solve_valid.f
  exact ev_ite (fun _ => Ev.now _) (fun _ => by simpa using svalid_loop l hs hl l.length 0 (by omega))
theorem rsvalid_loop (l : List S61) (hs : Sm l) (hl : l.length ≤ 1000) : ∀ (d i : Nat), i + d = l.length → Ev (fun k => ancepsref40_Valid.l0 k l i) (fstErr (l.drop i))
  | 0, i, h => by
    rw [List.drop_eq_nil_of_le (by omega)]
    exact Ev.step (f := fun _ => some 0) (fun k => by rw [ancepsref40_Valid.l0, if_neg (by omega)]) (Ev.now _)
  | d + 1, i, h => by
    have hi : i < l.length := by omega
    have hw := wrap_succ i l.length hi (by omega)
    have hm := hs _ (rdT_mem l i hi)
    rw [rdT_at l i hi, fstErr]
    refine Ev.step (fun k => by rw [ancepsref40_Valid.l0, if_pos (by omega), if_pos (by omega), hw]) (Ev.bind (rvalid_ev _ _ (by omega) (by omega)) ?_)
    exact ev_ite (fun _ => rsvalid_loop l hs hl d (i + 1) (by omega)) (fun _ => Ev.now _)
theorem rsvalid_ev (l : List S61) (hs : Sm l) (hl : l.length ≤ 1000) : Ev (fun k => ancepsref40_Valid.f k l) (sysv l) := by
  unfold sysv ancepsref40_Valid.f
  exact ev_ite (fun _ => Ev.now _) (fun _ => by simpa using rsvalid_loop l hs hl l.length 0 (by omega))
/-! Few -/
theorem few_in (l : List S61) (Q : Prop) (rows : Int) (i : Nat) (hi : i < l.length) (hl : l.length ≤ 18) (hv : (rd_T61 l i).f0.length ≤ 1030)
    (H : ∀ (seen : List Bool) (n : Int), seen.length = 24 → ∃ b, Ev (fun k => ancepsref40_Few.l0 k l seen n rows ((i + 1 : Nat) : Int)) b ∧ (b = true → Q)) :
    ∀ (d j : Nat) (seen : List Bool) (n : Int), j + d = (rd_T61 l i).f0.length → seen.length = 24 → ∃ b, Ev (fun k => ancepsref40_Few.l1 k l seen n rows i j) b ∧ (b = true → Q)
  | 0, j, seen, n, h, hs => by
    obtain ⟨b, hb, hq⟩ := H seen n hs
    have hw := wrap_succ i l.length hi (by omega)
    exact ⟨b, Ev.step (fun k => by rw [ancepsref40_Few.l1, if_pos (by omega), if_pos (by omega), if_neg (by omega), hw]) hb, hq⟩
  | d + 1, j, seen, n, h, hs => by
    have hj : j < (rd_T61 l i).f0.length := by omega
    have hw := wrap_succ j _ hj (by omega)
    by_cases h0 : rd (rd_T61 l i).f0 j ≥ 0
    · by_cases h1 : rd (rd_T61 l i).f0 j < 24
      · by_cases hb : rdOf false seen (rd (rd_T61 l i).f0 j) = true
        · obtain ⟨b, e, hq⟩ := few_in l Q rows i hi hl hv H d (j + 1) seen n (by omega) hs
          exact ⟨b, Ev.step (fun k => by rw [ancepsref40_Few.l1, if_pos (by omega), if_pos (by omega), if_pos (by omega), if_pos (by omega), if_pos h0, if_pos h1, if_pos (by omega), if_pos (by omega), if_pos hb, hw]) e, hq⟩
        · obtain ⟨b, e, hq⟩ := few_in l Q rows i hi hl hv H d (j + 1) (seen.set (rd (rd_T61 l i).f0 j).toNat true) (wrap64 (n + 1)) (by omega) (by rw [List.length_set]; exact hs)
          exact ⟨b, Ev.step (fun k => by rw [ancepsref40_Few.l1, if_pos (by omega), if_pos (by omega), if_pos (by omega), if_pos (by omega), if_pos h0, if_pos h1, if_pos (by omega), if_pos (by omega), if_neg hb, hw]) e, hq⟩
      · obtain ⟨b, e, hq⟩ := few_in l Q rows i hi hl hv H d (j + 1) seen n (by omega) hs
        exact ⟨b, Ev.step (fun k => by rw [ancepsref40_Few.l1, if_pos (by omega), if_pos (by omega), if_pos (by omega), if_pos (by omega), if_pos h0, if_neg h1, hw]) e, hq⟩
    · obtain ⟨b, e, hq⟩ := few_in l Q rows i hi hl hv H d (j + 1) seen n (by omega) hs
      exact ⟨b, Ev.step (fun k => by rw [ancepsref40_Few.l1, if_pos (by omega), if_pos (by omega), if_pos (by omega), if_pos (by omega), if_neg h0, hw]) e, hq⟩
theorem few_out (l : List S61) (hl : l.length ≤ 18) : ∀ (d i : Nat) (seen : List Bool) (n rows : Int), i + d = l.length → seen.length = 24 → ∃ b, Ev (fun k => ancepsref40_Few.l0 k l seen n rows i) b ∧ (b = true → Sm (l.drop i))
  | 0, i, seen, n, rows, h, hs => by
    rw [List.drop_eq_nil_of_le (by omega)]
    have hq : Sm [] := fun t ht => by simp at ht
    by_cases hn : n ≤ 10
    · exact ⟨_, Ev.step (f := fun _ => some (decide (rows ≤ 2000))) (fun k => by rw [ancepsref40_Few.l0, if_neg (by omega), if_pos hn]) (Ev.now _), fun _ => hq⟩
    · exact ⟨false, Ev.step (f := fun _ => some false) (fun k => by rw [ancepsref40_Few.l0, if_neg (by omega), if_neg hn]) (Ev.now _), fun h => by cases h⟩
  | d + 1, i, seen, n, rows, h, hs => by
    have hi : i < l.length := by omega
    obtain ⟨b, hb, hf⟩ := few_some (rd_T61 l i).f0 (rd_T61 l i).f1
    cases b with
    | false => exact ⟨false, Ev.step (f := fun _ => some false) (fun k => by rw [ancepsref40_Few.l0, if_pos (by omega), if_pos (by omega), hb]; rfl) (Ev.now _), fun h => by cases h⟩
    | true =>
      obtain ⟨f1, f2⟩ := hf rfl
      obtain ⟨b, e, hq⟩ := few_in l (Sm (l.drop (i + 1))) (wrap64 (rows + ((rd_T61 l i).f1.length : Int))) i hi hl (by omega)
        (fun seen n hs => few_out l hl d (i + 1) seen n _ (by omega) hs) (rd_T61 l i).f0.length 0 seen n (by omega) hs
      refine ⟨b, Ev.step (fun k => by rw [ancepsref40_Few.l0, if_pos (by omega), if_pos (by omega), hb]; rfl) e, fun h => ?_⟩
      rw [rdT_at l i hi]
      intro t ht
      rcases List.mem_cons.1 ht with rfl | ht
      · omega
      · exact hq h t ht
theorem sfew_ev (l : List S61) : ∃ b, Ev (fun k => ancepsref40_Few.f k l) b ∧ (b = true → Sm l ∧ l.length ≤ 18) := by
  unfold ancepsref40_Few.f
  by_cases h : (l.length : Int) > 18
  · exact ⟨false, ev_pos h (Ev.now _), fun h => by cases h⟩
  · obtain ⟨b, e, hq⟩ := few_out l (by omega) l.length 0 (List.replicate 24 false) 0 0 (by omega) (by simp)
    exact ⟨b, ev_neg h (ev_pos (by decide) (by simpa using e)), fun h2 => ⟨by simpa using hq h2, by omega⟩⟩
/-! The variables of a system. -/
def flat (l : List S61) : List Int := l.flatMap (·.f0)
def occ (l : List S61) : List Int := Lib.compact ((flat l).mergeSort fun x y => decide (x ≤ y))
theorem VS.flat {l : List S61} (h : VS l) : ∀ v, v ∈ flat l → 0 ≤ v ∧ v < 24 := fun v hv => by
  obtain ⟨t, ht, hv⟩ := List.mem_flatMap.1 hv
  exact (h.tab t ht).vars' v hv
theorem VS.occ {l : List S61} (h : VS l) : Chn 24 none (occ l) ∧ ∀ v, v ∈ occ l ↔ v ∈ Pure.flat l := sorted_compact (Pure.flat l) h.flat
theorem flat_cons (t : S61) (l : List S61) : flat (t :: l) = t.f0 ++ flat l := by simp [flat]
theorem flat_len : ∀ l : List S61, (∀ t, t ∈ l → t.f0.length ≤ 1030) → (flat l).length ≤ 1030 * l.length
  | [], _ => by simp [flat]
  | t :: ts, h => by
    have := flat_len ts (fun x hx => h x (List.mem_cons_of_mem _ hx))
    have h1 := h t List.mem_cons_self
    rw [flat_cons, List.length_append, List.length_cons]; omega
theorem occ_loop (l : List S61) (hs : Sm l) (hl : l.length ≤ 1000) : ∀ (d i : Nat) (acc : List Int), i + d = l.length → acc.length ≤ 1030 * i → Ev (fun k => solve_occurring.l0 k acc l l.length i) (Lib.compact ((acc ++ flat (l.drop i)).mergeSort fun x y => decide (x ≤ y)))
  | 0, i, acc, h, ha => by
    rw [List.drop_eq_nil_of_le (by omega), show flat [] = [] from rfl, List.append_nil]
    refine Ev.step (fun k => by rw [solve_occurring.l0, if_neg (by omega)]) ?_
    have hs : slices_Sort_int_int.f acc = some (acc.mergeSort fun x y => decide (x ≤ y)) := by
      unfold slices_Sort_int_int.f
      rw [if_pos (by omega)]
    simp only [hs, Option.bind_some]
    exact Ev.now _
  | d + 1, i, acc, h, ha => by
    have hi : i < l.length := by omega
    have hw := wrap_succ i l.length hi (by omega)
    have hm := hs _ (rdT_mem l i hi)
    have ih := occ_loop l hs hl d (i + 1) (acc ++ (rd_T61 l i).f0) (by omega) (by rw [List.length_append]; omega)
    rw [rdT_at l i hi, flat_cons, ← List.append_assoc]
    exact Ev.step (fun k => by rw [solve_occurring.l0, if_pos (by omega), if_pos (by omega), if_pos (by omega), if_pos (by omega), hw]) ih
theorem occ_ev (l : List S61) (hs : Sm l) (hl : l.length ≤ 1000) : Ev (fun k => solve_occurring.f k l) (occ l) := by
  have := occ_loop l hs hl l.length 0 [] (by omega) (by simp)
  rw [List.nil_append, List.drop_zero] at this
  exact this
/-! The reference's variables. -/
def fillV : List Int → List Bool → List Bool
  | [], s => s
  | v :: vs, s => fillV vs (s.set v.toNat true)
theorem fillV_length : ∀ (vs : List Int) (s : List Bool), (fillV vs s).length = s.length
  | [], _ => rfl
  | v :: vs, s => by rw [fillV, fillV_length, List.length_set]
theorem fillV_at : ∀ (vs : List Int) (s : List Bool), (∀ v, v ∈ vs → 0 ≤ v ∧ v < (s.length : Int)) → ∀ m : Nat, rdOf false (fillV vs s) (m : Int) = (rdOf false s (m : Int) || decide ((m : Int) ∈ vs))
  | [], s, _, m => by simp [fillV]
  | v :: vs, s, h, m => by
    have hv := h v List.mem_cons_self
    rw [fillV, fillV_at vs _ (fun x hx => by rw [List.length_set]; exact h x (List.mem_cons_of_mem _ hx)), rdb_set s v.toNat m true (by omega)]
    by_cases e : v.toNat = m
    · rw [if_pos e, Bool.true_or]
      have : (m : Int) = v := by omega
      simp [this]
    · rw [if_neg e]
      have : (m : Int) ≠ v := by omega
      simp [this]
theorem vars_in (l : List S61) (i : Nat) (hi : i < l.length) (hl : l.length ≤ 16) (hv : (rd_T61 l i).f0.length ≤ 1030) (hr : ∀ v, v ∈ (rd_T61 l i).f0 → 0 ≤ v ∧ v < 24) (r : List Int) :
    ∀ (d j : Nat) (seen : List Bool), j + d = (rd_T61 l i).f0.length → seen.length = 24 → Ev (fun k => ancepsref40_Vars.l0 k l (fillV ((rd_T61 l i).f0.drop j) seen) ((i + 1 : Nat) : Int)) r → Ev (fun k => ancepsref40_Vars.l1 k l seen i j) r
  | 0, j, seen, h, hs, H => by
    rw [List.drop_eq_nil_of_le (by omega)] at H
    have hw := wrap_succ i l.length hi (by omega)
    exact Ev.step (fun k => by rw [ancepsref40_Vars.l1, if_pos (by omega), if_pos (by omega), if_neg (by omega), hw]; rfl) H
  | d + 1, j, seen, h, hs, H => by
    have hj : j < (rd_T61 l i).f0.length := by omega
    have hw := wrap_succ j _ hj (by omega)
    have hm := hr _ (rd_mem (rd_T61 l i).f0 j hj)
    rw [rd_at _ j hj, fillV] at H
    have ih := vars_in l i hi hl hv hr r d (j + 1) (seen.set (rd (rd_T61 l i).f0 j).toNat true) (by omega) (by rw [List.length_set]; exact hs) H
    exact Ev.step (fun k => by rw [ancepsref40_Vars.l1, if_pos (by omega), if_pos (by omega), if_pos (by omega), if_pos (by omega), if_pos (by omega), if_pos (by omega), hw]) ih
theorem vars_out (seen : List Bool) (hs : seen.length = 24) : ∀ (d v : Nat) (acc : List Int), v + d = 24 → acc.length ≤ v → Ev (fun k => ancepsref40_Vars.l2 k seen acc v) (acc ++ flt (fun m => rdOf false seen (m : Int)) d v)
  | 0, v, acc, h, ha => by
    exact Ev.step (f := fun _ => some acc) (fun k => by rw [ancepsref40_Vars.l2, if_neg (by omega)]) (by simpa [flt] using Ev.now _)
  | d + 1, v, acc, h, ha => by
    have hw : wrap64 ((v : Int) + 1) = ((v + 1 : Nat) : Int) := by rw [w64_in _ (by omega)]; omega
    rw [flt]
    by_cases e : rdOf false seen (v : Int) = true
    · have ih := vars_out seen hs d (v + 1) (acc ++ [(v : Int)]) (by omega) (by simp; omega)
      rw [if_pos e]
      rw [List.append_assoc, List.singleton_append] at ih
      exact Ev.step (fun k => by rw [ancepsref40_Vars.l2, if_pos (by omega), if_pos (by omega), if_pos (by omega), if_pos e, if_pos (by omega), hw]) ih
    · have ih := vars_out seen hs d (v + 1) acc (by omega) (by omega)
      rw [if_neg e]
      exact Ev.step (fun k => by rw [ancepsref40_Vars.l2, if_pos (by omega), if_pos (by omega), if_pos (by omega), if_neg e, hw]) ih
theorem vars_loop (l : List S61) (h : VS l) : ∀ (d i : Nat) (seen : List Bool), i + d = l.length → seen.length = 24 → Ev (fun k => ancepsref40_Vars.l0 k l seen i) (flt (fun m => rdOf false (fillV (flat (l.drop i)) seen) (m : Int)) 24 0)
  | 0, i, seen, hd, hs => by
    rw [List.drop_eq_nil_of_le (by omega)]
    have := vars_out seen hs 24 0 [] (by omega) (by simp)
    rw [List.nil_append] at this
    exact Ev.step (fun k => by rw [ancepsref40_Vars.l0, if_neg (by omega)]; rfl) this
  | d + 1, i, seen, hd, hs => by
    have hi : i < l.length := by omega
    have hm := h.tab _ (rdT_mem l i hi)
    have ih := vars_loop l h d (i + 1) (fillV (rd_T61 l i).f0 seen) (by omega) (by rw [fillV_length]; exact hs)
    have hap : ∀ (a b : List Int) (s : List Bool), fillV (a ++ b) s = fillV b (fillV a s) := by
      intro a
      induction a with
      | nil => intro b s; rfl
      | cons x xs ihx => intro b s; rw [List.cons_append, fillV, fillV, ihx]
    rw [rdT_at l i hi, flat_cons, hap]
    have key := vars_in l i hi h.len (by have := hm.len; omega) hm.vars' _ (rd_T61 l i).f0.length 0 seen (by omega) hs (by rw [List.drop_zero]; exact ih)
    exact Ev.step (fun k => by rw [ancepsref40_Vars.l0, if_pos (by omega)]; rfl) key
/-- Both come to the same variables. -/
theorem rvars_ev {l : List S61} (h : VS l) (hs : Sm l) : Ev (fun k => ancepsref40_Vars.f k l) (occ l) := by
  have hl := h.len
  refine Ev.bind (rsvalid_ev l hs (by omega)) (ev_pos ((sysv_VS l).2 h) (ev_pos (by decide) ?_))
  refine ev_eq (vars_loop l h l.length 0 (List.replicate 24 false) (by omega) (by simp)) ?_
  rw [List.drop_zero]
  have h24 := flt_chn (fun m => rdOf false (fillV (flat l) (List.replicate 24 false)) (m : Int)) 24 0 none (fun q hq => by cases hq)
  refine Chn.same h24 h.occ.1 (fun n => ?_)
  rw [h.occ.2, flt_mem]
  have hat := fillV_at (flat l) (List.replicate 24 false) (fun v hv => by have := h.flat v hv; simp; omega)
  have hz : ∀ m : Nat, rdOf false (List.replicate 24 false) (m : Int) = false := by
    intro m
    unfold rdOf
    simp only [Int.toNat_natCast, List.getD_eq_getElem?_getD, List.getElem?_replicate]
    split <;> rfl
  constructor
  · rintro ⟨m, _, hm, ht, rfl⟩
    rw [hat, hz, Bool.false_or, decide_eq_true_eq] at ht
    exact ht
  · intro hn
    have := h.flat n hn
    refine ⟨n.toNat, by omega, by omega, ?_, by omega⟩
    rw [hat, hz, Bool.false_or, decide_eq_true_eq, ← nat_of this.1]
    exact hn
end Go.Proofs.Ytbagnalcabdlhaa.Pure
