/- The plain law behind DagPaths: about the printed functions alone, no memory and no Go in it. -/
import Derived.Test.YtanbffoilianhaaPureP
import Derived.Test.YtanbffoilianhaaPureW
import Derived.Test.YtanbffoilianhaaE14
namespace Go.Proofs.Ytanbffoilianhaa.Pure
open Go.RowKit Go.Proofs.YtanbffoilianhaaW.PrintWords Go.Proofs.Ytanbffoilianhaa.E
set_option linter.unusedVariables false
set_option linter.unusedSimpArgs false
/-! The reference's paths. -/
theorem rfrom_in {a : Int} {l : List S69} (n : Int) (i : Nat) (hi : (i : Int) + 1 ≤ 9223372036854775807) (t : List (List Int)) (ht : (t.length : Int) ≤ 1000000) (hts : ∀ p, p ∈ t → p.length ≤ 10000) {r : List (List Int)} : ∀ (d j : Nat) (acc : List (List Int)), j + d = t.length → acc.length + d ≤ 1000000 →
    Ev (fun k => ancepsref09_from.l0 k (ways a l) n (acc ++ (t.drop j).map ((i : Int) :: ·)) ((i + 1 : Nat) : Int) a l) r → Ev (fun k => ancepsref09_from.l1 k (ways a l) n acc i t j a l) r
  | 0, j, acc, h, _, hr => by
    rw [List.drop_eq_nil_of_le (by omega)] at hr
    refine Ev.step (fun k => ?_) hr
    rw [ancepsref09_from.l1, if_neg (by omega), w64_in _ (by omega)]; simp
  | d + 1, j, acc, h, ha, hr => by
    have hj : j < t.length := by omega
    have hw := wrap_succ j t.length hj (by omega)
    have e1 : t.drop j = rd_L2 t j :: t.drop (j + 1) := getD_drop t j [] hj
    have hm : rd_L2 t j ∈ t := by
      have h2 : rd_L2 t j ∈ t.drop j := by rw [e1]; exact List.mem_cons_self
      exact List.mem_of_mem_drop h2
    have hs := hts _ hm
    rw [e1, List.map_cons] at hr
    have ih := rfrom_in n i hi t ht hts d (j + 1) (acc ++ [(i : Int) :: rd_L2 t j]) (by omega) (by simp; omega) (by rw [List.append_assoc, List.singleton_append]; exact hr)
    refine Ev.step (fun k => ?_) ih
    rw [ancepsref09_from.l1, if_pos (by omega), Option.bind_some, if_pos (by omega), if_pos (by simp; omega), if_pos (by omega), hw]; rfl
theorem rfrom_loop {a : Int} {l : List S69} (hv : VG a l) (f : Nat) (n : Int) (hf : f ≤ 9000) (hfn : a - n ≤ f + 1)
    (ih : ∀ m, n < m → m < a → (fr l a f m).length ≤ 10000 → Ev (fun k => ancepsref09_from.f k a l (ways a l) m) (fr l a f m)) : ∀ (d i : Nat) (acc : List (List Int)), i + d = l.length → acc.length + ((ix n (l.drop i) i).flatMap fun j => (fr l a f (rd_T69 l j).f1).map (j :: ·)).length ≤ 10000 →
    Ev (fun k => ancepsref09_from.l0 k (ways a l) n acc i a l) (acc ++ (ix n (l.drop i) i).flatMap fun j => (fr l a f (rd_T69 l j).f1).map (j :: ·))
  | 0, i, acc, h, _ => by
    rw [List.drop_eq_nil_of_le (by omega)]
    refine Ev.step (f := fun _ => some acc) (fun k => ?_) (by simpa [ix] using Ev.now _)
    rw [ancepsref09_from.l0, if_neg (by omega)]
  | d + 1, i, acc, h, hb => by
    have hi : i < l.length := by omega
    have hlen := hv.len
    have hw := wrap_succ i l.length hi (by omega)
    have hwl := ways_length a l
    have hx := hv.arc _ (rdT_mem l i hi)
    rw [rdT_at l i hi, ix] at hb ⊢
    rw [show (i : Int) + 1 = ((i + 1 : Nat) : Int) by omega] at hb ⊢
    by_cases e : (rd_T69 l i).f0 = n
    · rw [if_pos e, List.flatMap_cons] at hb ⊢
      rw [List.length_append, List.length_map] at hb
      by_cases ew : rd (ways a l) (rd_T69 l i).f1 = 0
      · have hnil : fr l a f (rd_T69 l i).f1 = [] := ways_none hv (by omega) (by omega) (by omega) (by omega)
        have ih2 := rfrom_loop hv f n hf hfn ih d (i + 1) acc (by omega) (by omega)
        rw [hnil]
        simp only [List.map_nil, List.nil_append]
        refine Ev.step (fun k => by rw [ancepsref09_from.l0, if_pos (by omega), if_pos (by omega), if_pos e, if_pos (by omega), if_pos (by omega)]) (Ev.step (fun k => ?_) ih2)
        rw [ancepsref09_from.j1, if_pos (by simp [ew]), hw]
      · have ih1 := ih (rd_T69 l i).f1 (by omega) (by omega) (by omega)
        have ih2 := rfrom_loop hv f n hf hfn ih d (i + 1) (acc ++ (fr l a f (rd_T69 l i).f1).map ((i : Int) :: ·)) (by omega) (by rw [List.length_append, List.length_map]; omega)
        rw [← List.append_assoc]
        refine Ev.step (fun k => by rw [ancepsref09_from.l0, if_pos (by omega), if_pos (by omega), if_pos e, if_pos (by omega), if_pos (by omega)]) (Ev.step (fun k => by rw [ancepsref09_from.j1, if_neg (by simp [ew]), if_pos (by omega), if_pos (by omega)]) (Ev.bind ih1 ?_))
        have hsh : ∀ p, p ∈ fr l a f (rd_T69 l i).f1 → p.length ≤ 10000 := fun p hp => by have := fr_short l a f _ p hp; omega
        have := rfrom_in (a := a) (l := l) n i (by omega) (fr l a f (rd_T69 l i).f1) (by omega) hsh (fr l a f (rd_T69 l i).f1).length 0 acc (by omega) (by omega) (by rw [List.drop_zero]; exact ih2)
        exact this
    · rw [if_neg e] at hb ⊢
      have ih2 := rfrom_loop hv f n hf hfn ih d (i + 1) acc (by omega) hb
      refine Ev.step (fun k => by rw [ancepsref09_from.l0, if_pos (by omega), if_pos (by omega), if_neg e]) (Ev.step (fun k => ?_) ih2)
      rw [ancepsref09_from.j1, if_pos rfl, hw]
theorem rfrom_ev {a : Int} {l : List S69} (hv : VG a l) : ∀ (f : Nat) (n : Int), f ≤ 9000 → 0 ≤ n → n < a → a - n ≤ f → (fr l a f n).length ≤ 10000 → Ev (fun k => ancepsref09_from.f k a l (ways a l) n) (fr l a f n)
  | 0, n, _, _, _, _, _ => by omega
  | f + 1, n, hf, h0, h1, h2, hb => by
    have hlo := hv.lo
    have hhi := hv.hi
    by_cases e : n = a - 1
    · have ef : fr l a (f + 1) n = [[]] := by rw [fr, if_pos e]
      rw [ef]
      refine Ev.step (f := fun _ => some [[]]) (fun k => ?_) (Ev.now _)
      rw [ancepsref09_from.f, w64_in (a - 1) (by omega), if_pos e]
    · rw [fr, if_neg e] at hb ⊢
      have key := rfrom_loop hv f n (by omega) (by omega) (fun m hm hm2 hb2 => rfrom_ev hv f m (by omega) (by omega) hm2 (by omega) hb2) l.length 0 [] (by omega) (by simpa using hb)
      refine Ev.step (fun k => ?_) (by simpa using key)
      rw [ancepsref09_from.f, w64_in (a - 1) (by omega), if_neg e]
theorem rpaths_ev (a : Int) (l : List S69) : Ev (fun k => ancepsref09_Paths.f k a l) (paths a l) := by
  refine Ev.bind (rvalid_ev a l) ?_
  unfold paths
  by_cases h : valid a l = 0
  · have hv := (valid_VG a l).1 h
    have hlo := hv.lo
    have hhi := hv.hi
    have hwl := ways_length a l
    rw [if_pos h]
    refine ev_pos h (Ev.bind (rways_ev hv) (ev_pos (by omega) (ev_ite (fun _ => Ev.now _) (fun hw => ?_))))
    have hc := fr_count hv hw
    by_cases hp : rd (ways a l) 0 = 0
    · have : fr l a a.toNat 0 = [] := ways_none hv (by omega) (by omega) (by omega) (by omega)
      rw [this]
      exact ev_pos hp (Ev.now _)
    · exact ev_neg hp (Ev.bind (rfrom_ev hv a.toNat 0 (by omega) (by omega) (by omega) (by omega) (by omega)) (Ev.now _))
  · rw [if_neg h]; exact ev_neg h (Ev.now _)
theorem ints_loop (l : List Int) (hl : (l.length : Int) ≤ 9223372036854775807) : ∀ (d i : Nat), i + d = l.length → Ev (fun k => ancepsref09_Ints.l0 k l l i) true
  | 0, i, h => Ev.step (f := fun _ => some true) (fun k => by rw [ancepsref09_Ints.l0, if_neg (by omega)]) (Ev.now _)
  | d + 1, i, h => by
    have hw := wrap_succ i l.length (by omega) hl
    refine Ev.step (fun k => ?_) (ints_loop l hl d (i + 1) (by omega))
    rw [ancepsref09_Ints.l0, if_pos (by omega), if_pos (by omega), if_pos (by omega), if_pos rfl, hw]
theorem ints_ev (l : List Int) (hl : (l.length : Int) ≤ 9223372036854775807) : Ev (fun k => ancepsref09_Ints.f k l l) true :=
  ev_pos rfl (ints_loop l hl l.length 0 (by omega))
theorem lists_loop (l : List (List Int)) (hl : (l.length : Int) ≤ 9223372036854775807) (hs : ∀ p, p ∈ l → p.length ≤ 10000) : ∀ (d i : Nat), i + d = l.length → Ev (fun k => ancepsref09_Lists.l0 k l l i) true
  | 0, i, h => Ev.step (f := fun _ => some true) (fun k => by rw [ancepsref09_Lists.l0, if_neg (by omega)]) (Ev.now _)
  | d + 1, i, h => by
    have hi : i < l.length := by omega
    have hw := wrap_succ i l.length hi hl
    have hm : rd_L2 l i ∈ l := by
      have h2 : rd_L2 l i ∈ l.drop i := by rw [show l.drop i = rd_L2 l i :: l.drop (i + 1) from getD_drop l i [] hi]; exact List.mem_cons_self
      exact List.mem_of_mem_drop h2
    have := hs _ hm
    refine Ev.step (fun k => by rw [ancepsref09_Lists.l0, if_pos (by omega), if_pos (by omega), if_pos (by omega), hw]) (Ev.bind (ints_ev _ (by omega)) (ev_pos rfl (lists_loop l hl hs d (i + 1) (by omega))))
theorem lists_ev (l : List (List Int)) (hl : (l.length : Int) ≤ 9223372036854775807) (hs : ∀ p, p ∈ l → p.length ≤ 10000) : Ev (fun k => ancepsref09_Lists.f k l l) true :=
  ev_pos rfl (lists_loop l hl hs l.length 0 (by omega))
theorem paths_small (a : Int) (l : List S69) : ((paths a l).1.length : Int) ≤ 2000 ∧ ∀ p, p ∈ (paths a l).1 → p.length ≤ 10000 := by
  unfold paths
  by_cases h : valid a l = 0
  · have hv := (valid_VG a l).1 h
    have hhi := hv.hi
    rw [if_pos h]
    by_cases hw : rd (ways a l) 0 > 2000
    · rw [if_pos hw]; simp
    · rw [if_neg hw]
      have hc := fr_count hv hw
      refine ⟨by show ((fr l a a.toNat 0).length : Int) ≤ 2000; omega, fun p hp => ?_⟩
      have := fr_short l a a.toNat 0 p hp
      omega
  · rw [if_neg h]; simp
theorem dpl_loop {a : Int} {l : List S69} (hv : VG a l) (hw : ¬ rd (ways a l) 0 > 2000) (L : List (List Int)) (hL : L = fr l a a.toNat 0) (hl : (L.length : Int) ≤ 2000) : ∀ (d i : Nat), i + d = L.length → Ev (fun k => ancepslaw09_DagPaths.l0 k L L L.length i a l) true
  | 0, i, h => by
    have hct : count a l = (rd (ways a l) 0, 0) := by unfold count; rw [if_pos ((valid_VG a l).2 hv), if_neg (by omega)]
    have hc := fr_count hv hw
    refine Ev.step (fun k => by rw [ancepslaw09_DagPaths.l0, if_neg (by omega)]) (Ev.bind (dcount_ev a l) ?_)
    rw [hct, hc, ← hL]
    refine ev_pos rfl ?_
    simp only [beq_self_eq_true]
    exact Ev.now _
  | d + 1, i, h => by
    have hi : i < L.length := by omega
    have hhi := hv.hi
    have hw2 := wrap_succ i L.length hi (by omega)
    have hm : rd_L2 L i ∈ L := by
      have h2 : rd_L2 L i ∈ L.drop i := by rw [show L.drop i = rd_L2 L i :: L.drop (i + 1) from getD_drop L i [] hi]; exact List.mem_cons_self
      exact List.mem_of_mem_drop h2
    have hm2 : rd_L2 L i ∈ fr l a a.toNat 0 := hL ▸ hm
    have hsh := fr_short l a a.toNat 0 _ hm2
    have hck : check a l (rd_L2 L i) = true := by unfold check; rw [if_pos ((valid_VG a l).2 hv)]; exact fr_check hv _ _ _ hm2
    have hce := check_ev a l (rd_L2 L i) (by omega)
    rw [hck] at hce
    refine Ev.step (fun k => by rw [ancepslaw09_DagPaths.l0, if_pos (by omega), if_pos (by omega), if_pos (by omega), hw2]) (Ev.bind hce (ev_pos rfl (dpl_loop hv hw L hL hl d (i + 1) (by omega))))
theorem dagPaths_ev (a : Int) (l : List S69) : Ev (fun k => ancepslaw09_DagPaths.f k a l) true := by
  refine Ev.bind awake_ev (ev_pos rfl ?_)
  have hj1 : Ev (fun k => ancepslaw09_DagPaths.j0 k true a l) true :=
    Ev.step (fun k => by rw [ancepslaw09_DagPaths.j0, if_pos rfl]) awake_bind
  have hj : Ev (fun k => ancepslaw09_DagPaths.j0 k false a l) true := by
    obtain ⟨hs1, hs2⟩ := paths_small a l
    have hle := lists_ev (paths a l).1 (by omega) hs2
    refine Ev.step (fun k => by rw [ancepslaw09_DagPaths.j0, if_neg (by simp)]) ?_
    refine Ev.bind (dpaths_ev a l) (Ev.bind (rpaths_ev a l) (ev_pos rfl (Ev.bind hle (ev_pos rfl ?_))))
    by_cases he : (paths a l).2 = 0
    · have hb : ((paths a l).2 != 0) = false := by simp [he]
      rw [hb]
      refine Ev.step (fun k => by rw [ancepslaw09_DagPaths.j1, if_neg (by simp)]) ?_
      by_cases h : valid a l = 0
      · have hv := (valid_VG a l).1 h
        by_cases hw : rd (ways a l) 0 > 2000
        · exfalso; unfold paths at he; rw [if_pos h, if_pos hw] at he; simp at he
        · have hp : (paths a l).1 = fr l a a.toNat 0 := by unfold paths; rw [if_pos h, if_neg hw]
          have := dpl_loop hv hw (paths a l).1 hp (by omega) (paths a l).1.length 0 (by omega)
          exact this
      · exfalso; unfold paths at he; rw [if_neg h] at he; exact h he
    · have hb : ((paths a l).2 != 0) = true := by simp [he]
      rw [hb]
      exact Ev.step (fun k => by rw [ancepslaw09_DagPaths.j1, if_pos rfl]) (ev_pos rfl (Ev.bind hle (Ev.now _)))
  obtain ⟨b, hb, -⟩ := few_some a l
  simp only [hb, Option.bind_some]
  cases b <;> assumption
theorem DagPaths (a0_0 : Int) (l0_1 : List (S69)) (w_a0_0 : (Lit.int .i64 a0_0).wf = true) (w_l0_1 : ∀ x, x ∈ l0_1 → (Lit.int .i64 x.f0).wf = true ∧ (Lit.int .i64 x.f1).wf = true ∧ (Lit.int .i64 x.f2).wf = true) : ∃ k, E.ancepslaw09_DagPaths.f k a0_0 l0_1 = some true := ev_rounds (dagPaths_ev a0_0 l0_1)
end Go.Proofs.Ytanbffoilianhaa.Pure
