/- The plain law behind P: about the printed functions alone, no memory and no Go in it. -/
import Derived.Test.YtanbffoilianhaaPureC
import Derived.Test.YtanbffoilianhaaPureR
import Derived.Test.YtanbffoilianhaaE5
namespace Go.Proofs.Ytanbffoilianhaa.Pure
open Go.RowKit Go.Proofs.YtanbffoilianhaaW.PrintWords Go.Proofs.Ytanbffoilianhaa.E
set_option linter.unusedVariables false
set_option linter.unusedSimpArgs false
/-! ### The paths -/
def fr (l : List S69) (a : Int) : Nat → Int → List (List Int)
  | 0, _ => []
  | f + 1, n => if n = a - 1 then [[]] else (ix n l 0).flatMap fun i => (fr l a f (rd_T69 l i).f1).map (i :: ·)
def cmin (n : Nat) : Int := if (n : Int) ≤ cap then n else cap
theorem cmin_bd (n : Nat) : 0 ≤ cmin n ∧ cmin n ≤ cap := by unfold cmin cap; split <;> omega
theorem capV_cmin (m n : Nat) : capV (cmin m) (cmin n) = cmin (m + n) := by
  rw [capV_min _ _ (cmin_bd m).1 (cmin_bd m).2 (cmin_bd n).1 (cmin_bd n).2]
  unfold cmin cap
  split <;> split <;> split <;> (try split) <;> omega
theorem fold_cmin (g : Int → Int) (h : Int → List (List Int)) : ∀ (J : List Int) (c : Nat), (∀ j, j ∈ J → g j = cmin (h j).length) → J.foldl (fun s j => capV s (g j)) (cmin c) = cmin (c + (J.flatMap h).length)
  | [], c, _ => by simp
  | j :: J, c, hj => by
    rw [List.foldl_cons, hj j List.mem_cons_self, capV_cmin, fold_cmin g h J _ (fun i hi => hj i (List.mem_cons_of_mem _ hi)), List.flatMap_cons, List.length_append]
    congr 1; omega
theorem ix_arc {a : Int} {l : List S69} (hv : VG a l) {n j : Int} (h : j ∈ ix n l 0) : 0 ≤ j ∧ j < (l.length : Int) ∧ (rd_T69 l j).f0 = n ∧ n < (rd_T69 l j).f1 ∧ (rd_T69 l j).f1 < a := by
  obtain ⟨h1, h2, h3, h4⟩ := ix_mem n l 0 j h
  rw [show j - 0 = j by omega] at h3 h4
  have := hv.arc _ h4
  omega
theorem ways_len {a : Int} {l : List S69} (hv : VG a l) : ∀ (f : Nat) (n : Int), 0 ≤ n → n < a → a - n ≤ f → rd (ways a l) n = cmin (fr l a f n).length
  | 0, n, _, _, _ => by omega
  | f + 1, n, h0, h1, h2 => by
    rw [fr]
    by_cases e : n = a - 1
    · rw [if_pos e, e, ways_end hv]; unfold cmin cap; simp
    · rw [if_neg e, ways_rec hv n h0 (by omega)]
      have e1 := ix_foldl (fun s x => capV s (rd (ways a l) x.f1)) l n l 0 0 rfl
      unfold wfold
      rw [← e1]
      have e2 := fold_cmin (fun j => rd (ways a l) (rd_T69 l j).f1) (fun i => (fr l a f (rd_T69 l i).f1).map (i :: ·)) (ix n l 0) 0 (fun j hj => by
        have := ix_arc hv hj
        rw [List.length_map]
        exact ways_len hv f _ (by omega) (by omega) (by omega))
      rw [Nat.zero_add] at e2
      exact e2
theorem ways_none {a : Int} {l : List S69} (hv : VG a l) {f : Nat} {n : Int} (h0 : 0 ≤ n) (h1 : n < a) (h2 : a - n ≤ f) (h : ¬ 0 < rd (ways a l) n) : fr l a f n = [] := by
  rw [ways_len hv f n h0 h1 h2] at h
  have : (fr l a f n).length = 0 := by unfold cmin cap at h; split at h <;> omega
  exact List.eq_nil_of_length_eq_zero this
theorem fr_short (l : List S69) (a : Int) : ∀ (f : Nat) (n : Int) (p : List Int), p ∈ fr l a f n → p.length ≤ f
  | 0, _, _, h => by simp [fr] at h
  | f + 1, n, p, h => by
    rw [fr] at h
    by_cases e : n = a - 1
    · rw [if_pos e] at h; simp at h; simp [h]
    · rw [if_neg e] at h
      obtain ⟨i, _, h⟩ := List.mem_flatMap.1 h
      obtain ⟨q, hq, rfl⟩ := List.mem_map.1 h
      have := fr_short l a f _ q hq
      simp; omega
theorem fr_check {a : Int} {l : List S69} (hv : VG a l) : ∀ (f : Nat) (n : Int) (p : List Int), p ∈ fr l a f n → ck a l n p = true
  | 0, _, _, h => by simp [fr] at h
  | f + 1, n, p, h => by
    have h1 := hv.lo
    have h2 := hv.hi
    rw [fr] at h
    by_cases e : n = a - 1
    · rw [if_pos e] at h
      obtain rfl : p = [] := by simpa using h
      rw [ck, w64_in _ (by omega), e]; simp
    · rw [if_neg e] at h
      obtain ⟨i, hi, h⟩ := List.mem_flatMap.1 h
      obtain ⟨q, hq, rfl⟩ := List.mem_map.1 h
      have := ix_arc hv hi
      rw [ck, if_neg (by omega), if_pos (by omega)]
      exact fr_check hv f _ q hq
theorem flat_part {α β : Type} (h : α → List β) {J : List α} {j : α} (hj : j ∈ J) : (h j).length ≤ (J.flatMap h).length := by
  induction J with
  | nil => simp at hj
  | cons x xs ih =>
    rw [List.flatMap_cons, List.length_append]
    rcases List.mem_cons.1 hj with rfl | hj
    · omega
    · have := ih hj; omega
theorem fr_child {a : Int} {l : List S69} {f : Nat} {n j : Int} (hn : n ≠ a - 1) (hj : j ∈ ix n l 0) : (fr l a f (rd_T69 l j).f1).length ≤ (fr l a (f + 1) n).length := by
  have := flat_part (fun i => (fr l a f (rd_T69 l i).f1).map (i :: ·)) hj
  rw [fr, if_neg hn]
  simpa using this
/-! The program's walk. -/
theorem take_path (path : List Int) (i : Int) (h : path.length ≤ 10000) : ((path ++ [i]).take (wrap64 (((path ++ [i]).length : Int) - 1)).toNat) = path := by
  rw [w64_in _ (by simp; omega)]
  rw [show ((((path ++ [i]).length : Nat) : Int) - 1).toNat = path.length by rw [List.length_append]; simp]
  simp
theorem dwalk_loop {a : Int} {l : List S69} (hv : VG a l) (B : List (List Int)) (f : Nat) (path J : List Int) (hp : path.length ≤ 10000) (hJl : J.length ≤ 1000000)
    (hJ : ∀ j, j ∈ J → 0 ≤ j ∧ j < (l.length : Int) ∧ 0 ≤ (rd_T69 l j).f1 ∧ (rd_T69 l j).f1 < a ∧ a - (rd_T69 l j).f1 ≤ f)
    (ih : ∀ j, j ∈ J → ∀ out : List (List Int), out.length + (fr l a f (rd_T69 l j).f1).length ≤ 10000 → Ev (fun k => dag_Paths_1_mc.f k (rd_T69 l j).f1 a l out (path ++ [j]) B (ways a l)) (out ++ (fr l a f (rd_T69 l j).f1).map (fun q => (path ++ [j]) ++ q), path ++ [j])) :
    ∀ (d i : Nat) (out : List (List Int)), i + d = J.length → out.length + ((J.drop i).flatMap fun j => (fr l a f (rd_T69 l j).f1).map (j :: ·)).length ≤ 10000 →
    Ev (fun k => dag_Paths_1_mc.l0 k J J.length i a l out path B (ways a l)) (out ++ ((J.drop i).flatMap fun j => (fr l a f (rd_T69 l j).f1).map (j :: ·)).map (path ++ ·), path)
  | 0, i, out, h, ho => by
    rw [List.drop_eq_nil_of_le (by omega)]
    refine Ev.step (f := fun _ => some (out, path)) (fun k => ?_) (by simpa using Ev.now _)
    rw [dag_Paths_1_mc.l0, if_neg (by omega)]
  | d + 1, i, out, h, ho => by
    have hi : i < J.length := by omega
    have hw := wrap_succ i J.length hi (by omega)
    have hm := rd_mem J i hi
    have hj := hJ _ hm
    have hwl := ways_length a l
    rw [rd_at J i hi, List.flatMap_cons] at ho ⊢
    rw [List.length_append, List.length_map] at ho
    rw [List.map_append, List.map_map, ← List.append_assoc]
    have hfun : ((fun x => path ++ x) ∘ fun x => rd J ↑i :: x) = fun q => (path ++ [rd J i]) ++ q := by funext q; simp
    rw [hfun]
    by_cases e : rd (ways a l) (rd_T69 l (rd J i)).f1 > 0
    · have h1 := ih (rd J i) hm out (by omega)
      have h2 := dwalk_loop hv B f path J hp hJl hJ ih d (i + 1) (out ++ (fr l a f (rd_T69 l (rd J i)).f1).map (fun q => (path ++ [rd J i]) ++ q)) (by omega) (by rw [List.length_append, List.length_map]; omega)
      refine Ev.step (fun k => by rw [dag_Paths_1_mc.l0, if_pos (by omega), if_pos (by omega), if_pos (by omega), if_pos (by omega), if_pos (by omega), if_pos (by omega), if_pos (by omega), if_pos e, if_pos (by omega), hw]) (Ev.bind h1 ?_)
      dsimp only
      rw [take_path path _ hp]
      exact ev_pos (by rw [w64_in _ (by simp; omega)]; simp) (ev_pos (by rw [w64_in _ (by simp; omega)]; omega) h2)
    · have hnil := ways_none hv (f := f) hj.2.2.1 hj.2.2.2.1 hj.2.2.2.2 e
      have h2 := dwalk_loop hv B f path J hp hJl hJ ih d (i + 1) out (by omega) (by omega)
      rw [hnil]
      simp only [List.map_nil, List.append_nil]
      refine Ev.step (fun k => ?_) h2
      rw [dag_Paths_1_mc.l0, if_pos (by omega), if_pos (by omega), if_pos (by omega), if_pos (by omega), if_pos (by omega), if_pos (by omega), if_pos (by omega), if_neg e, hw]
theorem dwalk_ev {a : Int} {l : List S69} (hv : VG a l) (B : List (List Int)) (hB : (B.length : Int) = a) (hBn : ∀ n, 0 ≤ n → n < a → rd_L2 B n = ix n l 0) : ∀ (f : Nat) (n : Int) (out : List (List Int)) (path : List Int), 0 ≤ n → n < a → a - n ≤ f → path.length + f ≤ 10000 → out.length + (fr l a f n).length ≤ 10000 →
    Ev (fun k => dag_Paths_1_mc.f k n a l out path B (ways a l)) (out ++ (fr l a f n).map (path ++ ·), path)
  | 0, n, out, path, h0, h1, h2, _, _ => by omega
  | f + 1, n, out, path, h0, h1, h2, hp, ho => by
    have hlo := hv.lo
    have hhi := hv.hi
    by_cases e : n = a - 1
    · have ef : fr l a (f + 1) n = [[]] := by rw [fr, if_pos e]
      rw [ef] at ho ⊢
      simp only [List.map_cons, List.map_nil, List.append_nil]
      have hc : slices_Clone_int_int.f path = some path := by
        unfold slices_Clone_int_int.f
        simp only [Option.bind_some, List.length_nil, List.nil_append, if_pos (show 0 + path.length < 17592186044416 by omega)]
      refine Ev.step (f := fun _ => some (out ++ [path], path)) (fun k => ?_) (Ev.now _)
      rw [dag_Paths_1_mc.f, w64_in (a - 1) (by omega), if_pos e, hc, Option.bind_some, if_pos (by simp at ho; omega)]
    · have hJ : rd_L2 B n = ix n l 0 := hBn n h0 h1
      have hil := ix_length n l 0
      have hll := hv.len
      have key := dwalk_loop hv B f path (ix n l 0) (by omega) (by omega) (fun j hj => by have := ix_arc hv hj; omega)
        (fun j hj out ho => by
          have := ix_arc hv hj
          exact dwalk_ev hv B hB hBn f _ out (path ++ [j]) (by omega) (by omega) (by omega) (by simp; omega) ho)
        (ix n l 0).length 0 out (by omega) (by rw [fr, if_neg e] at ho; simpa using ho)
      rw [List.drop_zero] at key
      rw [fr, if_neg e]
      refine Ev.step (fun k => ?_) key
      rw [dag_Paths_1_mc.f, w64_in (a - 1) (by omega), if_neg e, if_pos h0, if_pos (by omega), hJ]; rfl
def paths (a : Int) (l : List S69) : List (List Int) × Int := if valid a l = 0 then (if rd (ways a l) 0 > 2000 then ([], 3) else (fr l a a.toNat 0, 0)) else ([], valid a l)
theorem fr_count {a : Int} {l : List S69} (hv : VG a l) (h : ¬ rd (ways a l) 0 > 2000) : rd (ways a l) 0 = (fr l a a.toNat 0).length := by
  have hlo := hv.lo
  have := ways_len hv a.toNat 0 (by omega) (by omega) (by omega)
  rw [this] at h ⊢
  unfold cmin cap at *
  split <;> rename_i h2
  · rfl
  · rw [if_neg h2] at h; omega
theorem dpaths_ev (a : Int) (l : List S69) : Ev (fun k => dag_Paths.f k a l) (paths a l) := by
  refine Ev.bind (valid_ev a l) ?_
  unfold paths
  by_cases h : valid a l = 0
  · have hv := (valid_VG a l).1 h
    have hlo := hv.lo
    have hhi := hv.hi
    have hwl := ways_length a l
    rw [if_pos h]
    refine ev_pos h (Ev.bind (dways_ev hv) (ev_pos (by omega) (ev_ite (fun _ => Ev.now _) (fun hw => ?_))))
    have hc := fr_count hv hw
    obtain ⟨B, hB, hl, hn⟩ := byFrom_ev hv
    refine Ev.bind hB ?_
    by_cases hp : rd (ways a l) 0 > 0
    · have := dwalk_ev hv B hl hn a.toNat 0 [] [] (by omega) (by omega) (by omega) (by simp; omega) (by simp; omega)
      refine ev_pos hp (Ev.bind this ?_)
      simp only [List.nil_append, List.map_id']
      exact Ev.now _
    · have : fr l a a.toNat 0 = [] := ways_none hv (by omega) (by omega) (by omega) hp
      rw [this]
      exact ev_neg hp (Ev.now _)
  · rw [if_neg h]; exact ev_neg h (Ev.now _)
end Go.Proofs.Ytanbffoilianhaa.Pure
