/- The plain law behind Q3: about the printed functions alone, no memory and no Go in it. -/
import Derived.Test.YtanbffoilianhaaPureQ2
namespace Go.Proofs.Ytanbffoilianhaa.Pure
open Go.RowKit Go.Proofs.YtanbffoilianhaaW.PrintWords Go.Proofs.Ytanbffoilianhaa.F
set_option linter.unusedVariables false
set_option linter.unusedSimpArgs false
/-! ### The costs of all paths -/
def wk (l : List S69) : Int → Int → List Int → Prop
  | n, m, [] => n = m
  | n, m, p :: ps => 0 ≤ p ∧ p < (l.length : Int) ∧ (rd_T69 l p).f0 = n ∧ wk l (rd_T69 l p).f1 m ps
theorem ck_wk {a : Int} (h1 : 1 ≤ a) (h2 : a ≤ 2000) (l : List S69) : ∀ (ps : List Int) (n : Int), ck a l n ps = true ↔ wk l n (a - 1) ps
  | [], n => by rw [ck, w64_in _ (by omega)]; simp [wk]
  | p :: ps, n => by
    have ih := ck_wk h1 h2 l ps (rd_T69 l p).f1
    rw [ck, wk]
    by_cases h0 : p < 0 ∨ (l.length : Int) ≤ p
    · rw [if_pos h0]; exact ⟨fun h => by simp at h, fun h => by omega⟩
    · rw [if_neg h0]
      by_cases e : (rd_T69 l p).f0 = n
      · rw [if_pos e, ih]; exact ⟨fun h => ⟨by omega, by omega, e, h⟩, fun h => h.2.2.2⟩
      · rw [if_neg e]; exact ⟨fun h => by simp at h, fun h => absurd h.2.2.1 e⟩
theorem wk_in (l : List S69) : ∀ (ps : List Int) (n m : Int), wk l n m ps → ∀ p, p ∈ ps → 0 ≤ p ∧ p < (l.length : Int)
  | [], _, _, _, p, hp => by simp at hp
  | q :: ps, n, m, h, p, hp => by
    rcases List.mem_cons.1 hp with rfl | hp
    · exact ⟨h.1, h.2.1⟩
    · exact wk_in l ps _ m h.2.2.2 p hp
theorem wk_snoc (l : List S69) (p : Int) : ∀ (ps : List Int) (n m : Int), 0 ≤ p → p < (l.length : Int) → (rd_T69 l p).f1 = m → wk l n (rd_T69 l p).f0 ps → wk l n m (ps ++ [p])
  | [], n, m, h0, h1, h2, h3 => ⟨h0, h1, h3.symm, h2⟩
  | q :: ps, n, m, h0, h1, h2, h3 => ⟨h3.1, h3.2.1, h3.2.2.1, wk_snoc l p ps _ m h0 h1 h2 h3.2.2.2⟩
theorem rd_map (a : Int) (l : List S69) (p : Int) (h0 : 0 ≤ p) (h1 : p < (l.length : Int)) : rd_T69 (l.map (rvx a)) p = rvx a (rd_T69 l p) := by
  have h : p.toNat < l.length := by omega
  unfold rd_T69
  simp [List.getD, h]
theorem wk_rev (a : Int) (l : List S69) : ∀ (ps : List Int) (n m : Int), wk l n m ps → wk (l.map (rvx a)) (a - 1 - m) (a - 1 - n) ps.reverse
  | [], n, m, h => by
    have : n = m := h
    show a - 1 - m = a - 1 - n
    omega
  | p :: ps, n, m, h => by
    have ih := wk_rev a l ps _ m h.2.2.2
    have e := rd_map a l p h.1 h.2.1
    rw [List.reverse_cons]
    refine wk_snoc _ p _ _ _ h.1 (by simpa using h.2.1) ?_ ?_
    · rw [e]; show a - 1 - (rd_T69 l p).f0 = _; rw [h.2.2.1]
    · rw [e]; exact ih
theorem ix_in (n : Int) : ∀ (l : List S69) (i j : Int), i ≤ j → j < i + l.length → (rd_T69 l (j - i)).f0 = n → j ∈ ix n l i
  | [], i, j, h1, h2, _ => by simp at h2; omega
  | x :: xs, i, j, h1, h2, h3 => by
    rw [ix]
    by_cases e : j = i
    · subst e
      have : rd_T69 (x :: xs) (j - j) = x := by rw [Int.sub_self]; rfl
      rw [this] at h3
      rw [if_pos h3]; exact List.mem_cons_self
    · have e2 : rd_T69 (x :: xs) (j - i) = rd_T69 xs (j - (i + 1)) := by
        unfold rd_T69
        rw [show (j - i).toNat = (j - (i + 1)).toNat + 1 by omega]
        rfl
      rw [e2] at h3
      have ih := ix_in n xs (i + 1) j (by omega) (by simp only [List.length_cons] at h2; omega) h3
      split
      · exact List.mem_cons_of_mem _ ih
      · exact ih
theorem ix_up (n : Int) : ∀ (l : List S69) (i : Int), (ix n l i).Pairwise (· < ·)
  | [], _ => by rw [ix]; exact List.Pairwise.nil
  | x :: xs, i => by
    have ih := ix_up n xs (i + 1)
    rw [ix]
    split
    · exact List.Pairwise.cons (fun j hj => by have := ix_mem n xs (i + 1) j hj; omega) ih
    · exact ih
theorem fr_in {a : Int} {l : List S69} (hv : VG a l) : ∀ (ps : List Int) (f : Nat) (n : Int), 0 ≤ n → n < a → a - n ≤ f → wk l n (a - 1) ps → ps ∈ fr l a f n
  | [], 0, n, h0, h1, h2, h => by omega
  | [], f + 1, n, h0, h1, h2, h => by
    have : n = a - 1 := h
    rw [fr, if_pos this]; simp
  | p :: ps, 0, n, h0, h1, h2, h => by omega
  | p :: ps, f + 1, n, h0, h1, h2, h => by
    have hm : rd_T69 l p ∈ l := by
      have := rdT_mem l p.toNat (by have := h.1; have := h.2.1; omega)
      rwa [show ((p.toNat : Nat) : Int) = p by have := h.1; omega] at this
    have hx := hv.arc _ hm
    have h3 := h.2.2.1
    rw [fr, if_neg (by omega)]
    refine List.mem_flatMap.2 ⟨p, ix_in n l 0 p h.1 (by have := h.2.1; omega) (by rw [Int.sub_zero]; exact h3), List.mem_map.2 ⟨ps, fr_in hv ps f _ (by omega) (by omega) (by omega) h.2.2.2, rfl⟩⟩
theorem fr_wk {a : Int} {l : List S69} (hv : VG a l) {f : Nat} {n : Int} {p : List Int} (h : p ∈ fr l a f n) : wk l n (a - 1) p := (ck_wk hv.lo hv.hi l p n).1 (fr_check hv f n p h)
theorem flat_nodup {h : Int → List (List Int)} : ∀ {J : List Int}, J.Pairwise (· < ·) → (∀ j, j ∈ J → (h j).Nodup ∧ ∀ p, p ∈ h j → p.head? = some j) → (J.flatMap h).Nodup
  | [], _, _ => by simp
  | j :: J, hJ, hh => by
    obtain ⟨h1, h2⟩ := List.pairwise_cons.1 hJ
    have ih := flat_nodup h2 (fun k hk => hh k (List.mem_cons_of_mem _ hk))
    have hj := hh j List.mem_cons_self
    rw [List.flatMap_cons, List.nodup_append]
    refine ⟨hj.1, ih, fun p hp q hq e => ?_⟩
    obtain ⟨k, hk, hq2⟩ := List.mem_flatMap.1 hq
    have e1 := hj.2 p hp
    have e2 := (hh k (List.mem_cons_of_mem _ hk)).2 q hq2
    rw [e, e2] at e1
    injection e1 with e1
    have := h1 k hk
    omega
theorem fr_nodup (l : List S69) (a : Int) : ∀ (f : Nat) (n : Int), (fr l a f n).Nodup
  | 0, _ => by simp [fr]
  | f + 1, n => by
    rw [fr]
    split
    · simp
    · refine flat_nodup (ix_up n l 0) (fun j _ => ⟨?_, fun p hp => ?_⟩)
      · have := fr_nodup l a f (rd_T69 l j).f1
        unfold List.Nodup at this ⊢
        rw [List.pairwise_map]
        exact this.imp (fun h e => h (by injection e))
      · obtain ⟨q, _, rfl⟩ := List.mem_map.1 hp
        rfl
def tot (l : List S69) : List Int → Int
  | [] => 0
  | p :: ps => (rd_T69 l p).f2 + tot l ps
theorem sm_tot (l : List S69) : ∀ (ps : List Int) (s : Int), wrap64 s = s → sm l s ps = wrap64 (s + tot l ps)
  | [], s, h => by rw [sm, tot, Int.add_zero, h]
  | p :: ps, s, h => by
    rw [sm, tot, sm_tot l ps _ (by unfold wrap64; omega)]
    unfold wrap64
    omega
theorem tot_append (l : List S69) : ∀ ps qs : List Int, tot l (ps ++ qs) = tot l ps + tot l qs
  | [], qs => by simp [tot]
  | p :: ps, qs => by rw [List.cons_append, tot, tot, tot_append l ps qs]; omega
theorem tot_rev (a : Int) (l : List S69) : ∀ ps : List Int, (∀ p, p ∈ ps → 0 ≤ p ∧ p < (l.length : Int)) → tot (l.map (rvx a)) ps.reverse = tot l ps
  | [], _ => rfl
  | p :: ps, h => by
    have hp := h p List.mem_cons_self
    rw [List.reverse_cons, tot_append, tot_rev a l ps (fun q hq => h q (List.mem_cons_of_mem _ hq)), tot, tot, tot, rd_map a l p hp.1 hp.2]
    show tot l ps + ((rd_T69 l p).f2 + 0) = _
    omega
def cs (a : Int) (l : List S69) : List Int := (fr l a a.toNat 0).map (sm l 0)
theorem fr_rev {a : Int} {l : List S69} (hv : VG a l) : (fr (l.map (rvx a)) a a.toNat 0).Perm ((fr l a a.toNat 0).map List.reverse) := by
  have hlo := hv.lo
  refine (List.perm_ext_iff_of_nodup (fr_nodup _ _ _ _) ?_).2 (fun q => ?_)
  · have := fr_nodup l a a.toNat 0
    unfold List.Nodup at this ⊢
    rw [List.pairwise_map]
    exact this.imp (fun h e => h (List.reverse_inj.1 e))
  · rw [List.mem_map]
    constructor
    · intro h
      have h1 := wk_rev a _ q _ _ (fr_wk hv.rev h)
      rw [map_rvx_two, show a - 1 - (a - 1) = 0 by omega, show a - 1 - 0 = a - 1 by omega] at h1
      exact ⟨q.reverse, fr_in hv _ _ 0 (by omega) (by omega) (by omega) h1, List.reverse_reverse q⟩
    · rintro ⟨p, hp, rfl⟩
      have h1 := wk_rev a l p _ _ (fr_wk hv hp)
      rw [show a - 1 - (a - 1) = 0 by omega, show a - 1 - 0 = a - 1 by omega] at h1
      exact fr_in hv.rev _ _ 0 (by omega) (by omega) (by omega) h1
theorem cs_rev {a : Int} {l : List S69} (hv : VG a l) : (cs a (l.map (rvx a))).Perm (cs a l) := by
  have h := (fr_rev hv).map (sm (l.map (rvx a)) 0)
  have e : ((fr l a a.toNat 0).map List.reverse).map (sm (l.map (rvx a)) 0) = cs a l := by
    rw [List.map_map]
    refine List.map_congr_left (fun p hp => ?_)
    show sm (l.map (rvx a)) 0 p.reverse = sm l 0 p
    rw [sm_tot _ _ 0 (w64_in 0 (by omega)), sm_tot _ _ 0 (w64_in 0 (by omega)), tot_rev a l p (wk_in l p _ _ (fr_wk hv hp))]
  rw [e] at h
  exact h
theorem sorted_eq : ∀ {xs ys : List Int}, xs.Pairwise (· ≤ ·) → ys.Pairwise (· ≤ ·) → xs.Perm ys → xs = ys
  | [], ys, _, _, h => by rw [List.nil_perm.1 h]
  | x :: xs, [], _, _, h => by have := h.length_eq; simp at this
  | x :: xs, y :: ys, h1, h2, h => by
    obtain ⟨a1, a2⟩ := List.pairwise_cons.1 h1
    obtain ⟨b1, b2⟩ := List.pairwise_cons.1 h2
    have e : x = y := by
      rcases List.mem_cons.1 (h.mem_iff.1 List.mem_cons_self) with h3 | h3
      · exact h3
      · rcases List.mem_cons.1 (h.mem_iff.2 List.mem_cons_self) with h4 | h4
        · exact h4.symm
        · have := b1 x h3; have := a1 y h4; omega
    subst e
    rw [sorted_eq a2 b2 ((List.perm_cons x).1 h)]
theorem sort_perm {xs ys : List Int} (h : xs.Perm ys) : (xs.mergeSort fun x y => decide (x ≤ y)) = ys.mergeSort fun x y => decide (x ≤ y) := by
  have s : ∀ zs : List Int, (zs.mergeSort fun x y => decide (x ≤ y)).Pairwise (· ≤ ·) := fun zs =>
    (List.pairwise_mergeSort (le := fun x y : Int => decide (x ≤ y)) (fun a b c h1 h2 => by simp at *; omega) (fun a b => by simp; omega) zs).imp (fun h => of_decide_eq_true h)
  exact sorted_eq (s xs) (s ys) ((List.mergeSort_perm xs _).trans (h.trans (List.mergeSort_perm ys _).symm))
/-! Trim. -/
def fcs (l : List S69) (a : Int) : Nat → Int → List Int
  | 0, _ => []
  | f + 1, n => if n = a - 1 then [0] else l.flatMap fun x => if x.f0 = n then (fcs l a f x.f1).map (x.f2 + ·) else []
theorem ix_flat (l : List S69) (n : Int) (G : S69 → List Int) : ∀ (s : List S69) (i : Nat), l.drop i = s → ((ix n s i).flatMap fun j => G (rd_T69 l j)) = s.flatMap fun x => if x.f0 = n then G x else []
  | [], i, _ => by simp [ix]
  | x :: s, i, h => by
    have hi : i < l.length := by
      rcases Nat.lt_or_ge i l.length with h1 | h1
      · exact h1
      · rw [List.drop_eq_nil_of_le h1] at h; simp at h
    rw [rdT_at l i hi] at h
    injection h with h1 h2
    have ih := ix_flat l n G s (i + 1) h2
    rw [ix, List.flatMap_cons]
    rw [show ((i + 1 : Nat) : Int) = (i : Int) + 1 by omega] at ih
    by_cases e : x.f0 = n
    · rw [if_pos e, if_pos e, List.flatMap_cons, ih, h1]
    · rw [if_neg e, if_neg e, ih, List.nil_append]
theorem fr_fcs (l : List S69) (a : Int) : ∀ (f : Nat) (n : Int), (fr l a f n).map (tot l) = fcs l a f n
  | 0, _ => rfl
  | f + 1, n => by
    rw [fr, fcs]
    split
    · rfl
    · have := ix_flat l n (fun x => (fcs l a f x.f1).map (x.f2 + ·)) l 0 (List.drop_zero ..)
      rw [← this, List.map_flatMap]
      congr 1
      funext j
      show ((fr l a f (rd_T69 l j).f1).map (j :: ·)).map (tot l) = (fcs l a f (rd_T69 l j).f1).map ((rd_T69 l j).f2 + ·)
      rw [← fr_fcs l a f, List.map_map, List.map_map]
      rfl
theorem fcs_fuel {a : Int} {l : List S69} (hv : VG a l) : ∀ (f : Nat) (n : Int), n < a → a - n ≤ f → fcs l a (f + 1) n = fcs l a f n
  | 0, n, h1, h2 => by omega
  | f + 1, n, h1, h2 => by
    rw [fcs, fcs]
    split
    · rfl
    · rw [List.flatMap_def, List.flatMap_def]
      congr 1
      refine List.map_congr_left (fun x hx => ?_)
      have hxa := hv.arc x hx
      by_cases e : x.f0 = n
      · rw [if_pos e, if_pos e, fcs_fuel hv f x.f1 (by omega) (by omega)]
      · rw [if_neg e, if_neg e]
theorem fcs_more {a : Int} {l : List S69} (hv : VG a l) (f : Nat) (n : Int) (h1 : n < a) (h2 : a - n ≤ f) : ∀ d, fcs l a (f + d) n = fcs l a f n
  | 0 => rfl
  | d + 1 => by rw [← Nat.add_assoc, fcs_fuel hv (f + d) n h1 (by omega), fcs_more hv f n h1 h2 d]
theorem cs_fcs (a : Int) (l : List S69) : cs a l = (fcs l a a.toNat 0).map fun t => wrap64 (0 + t) := by
  rw [← fr_fcs, List.map_map]
  unfold cs
  refine List.map_congr_left (fun p _ => ?_)
  exact sm_tot l p 0 (w64_in 0 (by omega))
/-! Trim keeps the costs. -/
theorem fcs_none {a : Int} {l : List S69} (hv : VG a l) {f : Nat} {n : Int} (h0 : 0 ≤ n) (h1 : n < a) (h2 : a - n ≤ f) (h : ¬ 0 < rd (ways a l) n) : fcs l a f n = [] := by
  rw [← fr_fcs, ways_none hv h0 h1 h2 h]; rfl
structure TR (a : Int) (l : List S69) (N : List Int) (m : Int) : Prop where
  at_ : ∀ t : Int, 0 ≤ t → t < a → rd N t = if us (reach a l) (ways a l) t = true then (cu (us (reach a l) (ways a l)) t.toNat : Int) else -1
  m_ : m = cu (us (reach a l) (ways a l)) a.toNat
  s_ : us (reach a l) (ways a l) 0 = true
  e_ : us (reach a l) (ways a l) (a - 1) = true
theorem TR.lt {a : Int} {l : List S69} {N : List Int} {m : Int} (h : TR a l N m) {s t : Int} (hs : 0 ≤ s) (hst : s < t) (ht : t < a) (us_ : us (reach a l) (ways a l) s = true) (ut : us (reach a l) (ways a l) t = true) : rd N s < rd N t := by
  have h1 := h.at_ s hs (by omega)
  have h2 := h.at_ t (by omega) ht
  rw [if_pos us_] at h1
  rw [if_pos ut] at h2
  have h3 : us (reach a l) (ways a l) ((s.toNat : Nat) : Int) = true := by rw [show ((s.toNat : Nat) : Int) = s by omega]; exact us_
  have := cu_lt (us (reach a l) (ways a l)) h3 (show s.toNat < t.toNat by omega)
  omega
theorem TR.ge {a : Int} {l : List S69} {N : List Int} {m : Int} (h : TR a l N m) {t : Int} (h0 : 0 ≤ t) (h1 : t < a) : rd N t ≥ 0 ↔ us (reach a l) (ways a l) t = true := by
  have h2 := h.at_ t h0 h1
  by_cases e : us (reach a l) (ways a l) t = true
  · rw [if_pos e] at h2; exact ⟨fun _ => e, fun _ => by omega⟩
  · rw [if_neg e] at h2; exact ⟨fun h => by omega, fun h => absurd h e⟩
theorem TR.last {a : Int} {l : List S69} {N : List Int} {m : Int} (h : TR a l N m) (ha : 1 ≤ a) : rd N (a - 1) = m - 1 := by
  have h1 := h.at_ (a - 1) (by omega) (by omega)
  rw [if_pos h.e_] at h1
  have h2 := h.m_
  have e : a.toNat = (a - 1).toNat + 1 := by omega
  have e2 : us (reach a l) (ways a l) (((a - 1).toNat : Nat) : Int) = true := by rw [show (((a - 1).toNat : Nat) : Int) = a - 1 by omega]; exact h.e_
  rw [e, cu, if_pos e2] at h2
  omega
theorem fcs_trim {a : Int} {l : List S69} (hv : VG a l) {N : List Int} {m : Int} (h : TR a l N m) : ∀ (f : Nat) (n : Int), 0 ≤ n → n < a → a - n ≤ f → us (reach a l) (ways a l) n = true → fcs (ta N l) m f (rd N n) = fcs l a f n
  | 0, n, h0, h1, h2, _ => by omega
  | f + 1, n, h0, h1, h2, hu => by
    have hlast := h.last hv.lo
    rw [fcs, fcs]
    by_cases e : n = a - 1
    · rw [if_pos (by rw [e]; exact hlast), if_pos e]
    · have hlt := h.lt h0 (show n < a - 1 by omega) (by omega) hu h.e_
      rw [if_neg (by omega), if_neg e]
      have key : ∀ s : List S69, (∀ x, x ∈ s → x ∈ l) → ((ta N s).flatMap fun x => if x.f0 = rd N n then (fcs (ta N l) m f x.f1).map (x.f2 + ·) else []) = s.flatMap fun x => if x.f0 = n then (fcs l a f x.f1).map (x.f2 + ·) else [] := by
        intro s
        induction s with
        | nil => intro _; simp [ta]
        | cons x s ih =>
          intro hs
          have ih2 := ih (fun y hy => hs y (List.mem_cons_of_mem _ hy))
          have hxl := hs x List.mem_cons_self
          have hx := hv.arc x hxl
          have g0 := h.ge hx.1 (show x.f0 < a by omega)
          have g1 := h.ge (show 0 ≤ x.f1 by omega) hx.2.2.1
          rw [ta, List.flatMap_cons]
          by_cases c : rd N x.f0 ≥ 0 ∧ rd N x.f1 ≥ 0
          · rw [if_pos c, List.flatMap_cons, ih2]
            congr 1
            have u0 := g0.1 c.1
            have u1 := g1.1 c.2
            show (if rd N x.f0 = rd N n then (fcs (ta N l) m f (rd N x.f1)).map (x.f2 + ·) else []) = _
            by_cases e0 : x.f0 = n
            · rw [if_pos (by rw [e0]), if_pos e0, fcs_trim hv h f x.f1 (by omega) hx.2.2.1 (by omega) u1]
            · rw [if_neg e0, if_neg]
              intro e1
              rcases Int.lt_or_gt_of_ne e0 with h3 | h3
              · have := h.lt hx.1 h3 h1 u0 hu; omega
              · have := h.lt h0 h3 (by omega) hu u0; omega
          · rw [if_neg c, ih2]
            by_cases e0 : x.f0 = n
            · have u0 : us (reach a l) (ways a l) x.f0 = true := by rw [e0]; exact hu
              have n1 : ¬ us (reach a l) (ways a l) x.f1 = true := fun u1 => c ⟨g0.2 u0, g1.2 u1⟩
              have r0 := ((us_iff hv hx.1 (show x.f0 < a by omega)).1 u0).1
              have r1 : Rch l x.f1 0 := r0.snoc x hxl rfl
              have n2 : ¬ 0 < rd (ways a l) x.f1 := fun hw => n1 ((us_iff hv (by omega) hx.2.2.1).2 ⟨r1, (ways_iff hv (by omega) hx.2.2.1).1 hw⟩)
              rw [if_pos e0, fcs_none hv (show 0 ≤ x.f1 by omega) hx.2.2.1 (by omega) n2]
              rfl
            · rw [if_neg e0, List.nil_append]
      exact key l (fun x hx => hx)
theorem cu_le (u : Int → Bool) : ∀ n, cu u n ≤ n
  | 0 => by simp [cu]
  | n + 1 => by have := cu_le u n; rw [cu]; split <;> omega
theorem trim_val {a : Int} {l : List S69} (h : (trim a l).2.2.2 = 0) : VG a l ∧ 0 < rd (ways a l) 0 := by
  by_cases hv : valid a l = 0
  · refine ⟨(valid_VG a l).1 hv, ?_⟩
    by_cases hw : rd (ways a l) 0 = 0
    · unfold trim at h; rw [if_pos hv, if_pos hw] at h; simp at h
    · have := (ways_bd a l 0).1; omega
  · unfold trim at h; rw [if_neg hv] at h; exact absurd h hv
theorem trim_TR {a : Int} {l : List S69} (hv : VG a l) (hw : 0 < rd (ways a l) 0) : TR a l (tr a l).2 ((tr a l).1.length : Int) := by
  have hlo := hv.lo
  have hR : Rch l (a - 1) 0 := (ways_iff hv (by omega) (by omega)).1 hw
  obtain ⟨hF, hN⟩ := tr_spec hlo l
  refine ⟨fun t h0 h1 => ?_, by rw [hF], (us_iff hv (by omega) (by omega)).2 ⟨.refl, hR⟩, (us_iff hv (by omega) (by omega)).2 ⟨hR, .refl⟩⟩
  have := hN t.toNat (by omega)
  rw [show ((t.toNat : Nat) : Int) = t by omega] at this
  exact this
theorem trim_eq {a : Int} {l : List S69} (hv : VG a l) (hw : 0 < rd (ways a l) 0) : trim a l = (((tr a l).1.length : Int), ta (tr a l).2 l, (tr a l).1, 0) := by
  unfold trim
  rw [if_pos ((valid_VG a l).2 hv), if_neg (by omega)]
theorem trim_VG {a : Int} {l : List S69} (hv : VG a l) (hw : 0 < rd (ways a l) 0) : VG ((tr a l).1.length : Int) (ta (tr a l).2 l) := by
  have e := trim_eq hv hw
  obtain ⟨F, hF, _⟩ := trim_two (a := a) (l := l) (by rw [e])
  rw [e] at hF
  exact (trim_val (by rw [hF])).1
theorem cs_trim {a : Int} {l : List S69} (hv : VG a l) (hw : 0 < rd (ways a l) 0) : cs ((tr a l).1.length : Int) (ta (tr a l).2 l) = cs a l := by
  have ht := trim_TR hv hw
  have hv2 := trim_VG hv hw
  have hlo := hv.lo
  have hlo2 := hv2.lo
  have h0 : rd (tr a l).2 0 = 0 := by
    have := ht.at_ 0 (by omega) (by omega)
    rw [if_pos ht.s_] at this
    exact this
  have hle : ((tr a l).1.length : Int) ≤ a := by
    have := ht.m_
    have h2 := cu_le (us (reach a l) (ways a l)) a.toNat
    omega
  have key := fcs_trim hv ht a.toNat 0 (by omega) (by omega) (by omega) ht.s_
  rw [h0] at key
  have more := fcs_more hv2 ((tr a l).1.length : Int).toNat 0 (by omega) (by omega) (a.toNat - ((tr a l).1.length : Int).toNat)
  rw [show ((tr a l).1.length : Int).toNat + (a.toNat - ((tr a l).1.length : Int).toNat) = a.toNat by omega] at more
  rw [cs_fcs, cs_fcs, ← more, key]
theorem cs_len (a : Int) (l : List S69) : (cs a l).length = (fr l a a.toNat 0).length := by unfold cs; rw [List.length_map]
theorem ways_cs {a : Int} {l : List S69} (hv : VG a l) : rd (ways a l) 0 = cmin (cs a l).length := by
  have := hv.lo
  rw [cs_len]
  exact ways_len hv a.toNat 0 (by omega) (by omega) (by omega)
end Go.Proofs.Ytanbffoilianhaa.Pure
