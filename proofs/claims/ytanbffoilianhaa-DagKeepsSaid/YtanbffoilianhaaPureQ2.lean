/- The plain law behind Q2: about the printed functions alone, no memory and no Go in it. -/
import Derived.Test.YtanbffoilianhaaPureQ1
import Derived.Test.YtanbffoilianhaaF7
namespace Go.Proofs.Ytanbffoilianhaa.Pure
open Go.RowKit Go.Proofs.YtanbffoilianhaaW.PrintWords Go.Proofs.Ytanbffoilianhaa.F
set_option linter.unusedVariables false
set_option linter.unusedSimpArgs false
/-! ### What ways and reached nodes mean -/
/-- A way of arcs leads from one node to another one. -/
inductive Rch (l : List S69) (t : Int) : Int → Prop
  | refl : Rch l t t
  | cons (x : S69) : x ∈ l → Rch l t x.f1 → Rch l t x.f0
theorem Rch.snoc {l : List S69} {t n : Int} (h : Rch l t n) : ∀ x, x ∈ l → x.f0 = t → Rch l x.f1 n := by
  induction h with
  | refl => intro x hx e; rw [← e]; exact .cons x hx .refl
  | cons y hy _ ih => intro x hx e; exact .cons y hy (ih x hx e)
/-- What holds at a node, and is handed on along arcs, holds at all nodes that ways lead to. -/
theorem Rch.along {l : List S69} {t n : Int} (h : Rch l t n) (P : Int → Prop) (hs : ∀ x, x ∈ l → P x.f0 → P x.f1) : P n → P t := by
  induction h with
  | refl => exact id
  | cons x hx _ ih => intro hp; exact ih (hs x hx hp)
theorem Rch.head {l : List S69} {t n : Int} (h : Rch l t n) : n = t ∨ ∃ x, x ∈ l ∧ x.f0 = n ∧ Rch l t x.f1 := by
  cases h with
  | refl => exact .inl rfl
  | cons x hx h => exact .inr ⟨x, hx, rfl, h⟩
theorem Rch.ge {a : Int} {l : List S69} (hv : VG a l) {t n : Int} (h : Rch l t n) : n ≤ t := by
  induction h with
  | refl => exact Int.le_refl _
  | cons x hx _ ih => have := hv.arc x hx; omega
def wfold (n : Int) (g : Int → Int) (l : List S69) (c : Int) : Int := l.foldl (fun s x => if x.f0 = n then capV s (g x.f1) else s) c
theorem wfold_congr (n : Int) (g h : Int → Int) : ∀ (l : List S69) (c : Int), (∀ x, x ∈ l → x.f0 = n → g x.f1 = h x.f1) → wfold n g l c = wfold n h l c
  | [], _, _ => rfl
  | x :: l, c, e => by
    have ih := fun c => wfold_congr n g h l c (fun y hy => e y (List.mem_cons_of_mem _ hy))
    unfold wfold at ih ⊢
    simp only [List.foldl_cons]
    by_cases hx : x.f0 = n
    · rw [if_pos hx, if_pos hx, e x List.mem_cons_self hx]; exact ih _
    · rw [if_neg hx, if_neg hx]; exact ih _
theorem wst_at {a : Int} (n : Int) (hn : 0 ≤ n) (hn2 : n < a) : ∀ (l : List S69) (o : List Int), (∀ x, x ∈ l → 0 ≤ x.f0 ∧ x.f0 < x.f1) → (o.length : Int) = a → ∀ t, 0 ≤ t → rd (wst n l o) t = if t = n then wfold n (rd o) l (rd o n) else rd o t
  | [], o, _, _, t, _ => by simp only [wst, wfold, List.foldl_nil]; split <;> simp_all
  | x :: l, o, hl, ho, t, ht => by
    have hx := hl x List.mem_cons_self
    have hl' := fun y hy => hl y (List.mem_cons_of_mem x hy)
    rw [wst_cons]
    by_cases e : x.f0 = n
    · rw [if_pos e, wst_at n hn hn2 l _ hl' (by simpa using ho) t ht]
      have hnn : rd (o.set n.toNat (capV (rd o n) (rd o x.f1))) n = capV (rd o n) (rd o x.f1) := by rw [rd_set _ _ _ _ hn (by omega) hn, if_pos rfl]
      by_cases et : t = n
      · rw [if_pos et, if_pos et, hnn]
        rw [wfold_congr n _ (rd o) l _ (fun y hy ey => by
          have := hl' y hy
          rw [rd_set _ _ _ _ hn (by omega) (by omega), if_neg (by omega)])]
        simp only [wfold, List.foldl_cons, if_pos e]
      · rw [if_neg et, if_neg et, rd_set _ _ _ _ hn (by omega) ht, if_neg (by omega)]
    · rw [if_neg e, wst_at n hn hn2 l o hl' ho t ht]
      by_cases et : t = n
      · rw [if_pos et, if_pos et]; simp only [wfold, List.foldl_cons, if_neg e]
      · rw [if_neg et, if_neg et]
theorem wys_at {a : Int} {l : List S69} (hv : VG a l) : ∀ (m : Nat) (o : List Int), (m : Int) ≤ a → (o.length : Int) = a → ∀ t, 0 ≤ t →
    rd (wys l m o) t = if t < m then wfold t (rd (wys l m o)) l (rd o t) else rd o t
  | 0, o, _, _, t, ht => by rw [wys, if_neg (by omega)]
  | m + 1, o, hm, ho, t, ht => by
    have hal : ∀ x, x ∈ l → 0 ≤ x.f0 ∧ x.f0 < x.f1 := fun x hx => by have := hv.arc x hx; omega
    have ih := wys_at hv m (wst m l o) (by omega) (by rw [wst_length]; exact ho)
    have hw := wst_at (a := a) (m : Int) (by omega) (by omega) l o hal ho
    rw [wys]
    by_cases h1 : t < m
    · rw [ih t ht, if_pos h1, if_pos (by omega), hw t ht, if_neg (by omega)]
    · by_cases h2 : t = m
      · rw [ih t ht, if_neg h1, if_pos (by omega), hw t ht, if_pos h2, h2]
        exact wfold_congr _ _ _ l _ (fun x hx e => by
          have := hal x hx
          rw [ih x.f1 (by omega), if_neg (by omega), hw _ (by omega), if_neg (by omega)])
      · rw [ih t ht, if_neg h1, if_neg (by omega), hw t ht, if_neg h2]
theorem ways_end {a : Int} {l : List S69} (hv : VG a l) : rd (ways a l) (a - 1) = 1 := by
  have h1 := hv.lo
  unfold ways
  rw [wys_at hv _ _ (by omega) (by rw [ways0_length]; omega) _ (by omega), if_neg (by omega)]
  unfold ways0
  rw [rd_set _ _ _ _ (by omega) (by simp; omega) (by omega), if_pos rfl]
theorem ways_rec {a : Int} {l : List S69} (hv : VG a l) (t : Int) (h0 : 0 ≤ t) (h2 : t < a - 1) : rd (ways a l) t = wfold t (rd (ways a l)) l 0 := by
  have h1 := hv.lo
  have e : rd (ways0 a) t = 0 := by
    unfold ways0
    rw [rd_set _ _ _ _ (by omega) (by simp; omega) (by omega), if_neg (by omega)]
    unfold rd
    simp only [List.getD, List.getElem?_replicate]
    split <;> rfl
  have := wys_at hv (a - 1).toNat (ways0 a) (by omega) (by rw [ways0_length]; omega) t h0
  rw [if_pos (by omega), e] at this
  exact this
theorem wfold_pos (n : Int) (g : Int → Int) (hg : ∀ i, 0 ≤ g i ∧ g i ≤ cap) : ∀ (l : List S69) (c : Int), 0 ≤ c → c ≤ cap → (0 ≤ wfold n g l c ∧ wfold n g l c ≤ cap) ∧ (0 < wfold n g l c ↔ 0 < c ∨ ∃ x, x ∈ l ∧ x.f0 = n ∧ 0 < g x.f1)
  | [], c, h0, h1 => by simp [wfold]; omega
  | x :: l, c, h0, h1 => by
    by_cases e : x.f0 = n
    · have hc := capV_bd c (g x.f1) h0 h1 (hg _).1 (hg _).2
      have ih := wfold_pos n g hg l (capV c (g x.f1)) hc.1 hc.2
      have e2 : wfold n g (x :: l) c = wfold n g l (capV c (g x.f1)) := by simp only [wfold, List.foldl_cons, if_pos e]
      rw [e2]
      refine ⟨ih.1, ih.2.trans ?_⟩
      have hm := capV_min c (g x.f1) h0 h1 (hg _).1 (hg _).2
      have hgx := hg x.f1
      constructor
      · rintro (h | ⟨y, hy, h⟩)
        · by_cases hc0 : 0 < c
          · exact .inl hc0
          · refine .inr ⟨x, List.mem_cons_self, e, ?_⟩
            rw [hm] at h; split at h <;> omega
        · exact .inr ⟨y, List.mem_cons_of_mem _ hy, h⟩
      · rintro (h | ⟨y, hy, hy2, h⟩)
        · left; rw [hm]; unfold cap at *; split <;> omega
        · rcases List.mem_cons.1 hy with rfl | hy
          · left; rw [hm]; unfold cap at *; split <;> omega
          · exact .inr ⟨y, hy, hy2, h⟩
    · have ih := wfold_pos n g hg l c h0 h1
      have e2 : wfold n g (x :: l) c = wfold n g l c := by simp only [wfold, List.foldl_cons, if_neg e]
      rw [e2]
      refine ⟨ih.1, ih.2.trans ⟨?_, ?_⟩⟩
      · rintro (h | ⟨y, hy, h⟩)
        · exact .inl h
        · exact .inr ⟨y, List.mem_cons_of_mem _ hy, h⟩
      · rintro (h | ⟨y, hy, hy2, h⟩)
        · exact .inl h
        · rcases List.mem_cons.1 hy with rfl | hy
          · exact absurd hy2 e
          · exact .inr ⟨y, hy, hy2, h⟩
theorem ways_pos {a : Int} {l : List S69} (hv : VG a l) : ∀ (d : Nat) (n : Int), 0 ≤ n → n < a → a - n ≤ d → (0 < rd (ways a l) n ↔ Rch l (a - 1) n)
  | 0, n, _, h1, h2 => by omega
  | d + 1, n, h0, h1, h2 => by
    by_cases e : n = a - 1
    · rw [e, ways_end hv]; exact ⟨fun _ => .refl, fun _ => by omega⟩
    · rw [ways_rec hv n h0 (by omega), (wfold_pos n _ (ways_bd a l) l 0 (by omega) (by unfold cap; omega)).2]
      constructor
      · rintro (h | ⟨x, hx, rfl, hp⟩)
        · omega
        · have := hv.arc x hx
          exact .cons x hx ((ways_pos hv d x.f1 (by omega) (by omega) (by omega)).1 hp)
      · intro h
        rcases h.head with h | ⟨x, hx, hx2, hr⟩
        · exact absurd h e
        · have := hv.arc x hx
          exact .inr ⟨x, hx, hx2, (ways_pos hv d x.f1 (by omega) (by omega) (by omega)).2 hr⟩
theorem ways_iff {a : Int} {l : List S69} (hv : VG a l) {n : Int} (h0 : 0 ≤ n) (h1 : n < a) : 0 < rd (ways a l) n ↔ Rch l (a - 1) n :=
  ways_pos hv (a - n).toNat n h0 h1 (by omega)

/-! Reached nodes. -/
theorem rdb_set (o : List Bool) (m n : Int) (v : Bool) (hm : 0 ≤ m) (hl : m < (o.length : Int)) (hn : 0 ≤ n) : rdOf false (o.set m.toNat v) n = if m = n then v else rdOf false o n := by
  unfold rdOf
  by_cases h : m = n
  · subst h; rw [if_pos rfl, List.getD, List.getElem?_set_self (by omega)]; rfl
  · rw [if_neg h]; simp [List.getD, List.getElem?_set_ne (show m.toNat ≠ n.toNat by omega)]
def rst (n : Int) (l : List S69) (o : List Bool) : List Bool := l.foldl (fun o x => if x.f0 = n then (if rdOf false o n = true then o.set x.f1.toNat true else o) else o) o
theorem rst_cons (n : Int) (x : S69) (l : List S69) (o : List Bool) : rst n (x :: l) o = rst n l (if x.f0 = n then (if rdOf false o n = true then o.set x.f1.toNat true else o) else o) := rfl
def rys (l : List S69) : Nat → Int → List Bool → List Bool
  | 0, _, o => o
  | d + 1, n, o => rys l d (n + 1) (rst n l o)
theorem rst_length (n : Int) : ∀ (l : List S69) (o : List Bool), (rst n l o).length = o.length
  | [], _ => rfl
  | x :: l, o => by rw [rst_cons, rst_length n l]; split <;> (try split) <;> simp
theorem rys_length (l : List S69) : ∀ (d : Nat) (n : Int) (o : List Bool), (rys l d n o).length = o.length
  | 0, _, _ => rfl
  | d + 1, n, o => by rw [rys, rys_length l d, rst_length]
theorem rst_at {a : Int} (n : Int) (hn : 0 ≤ n) : ∀ (l : List S69) (o : List Bool), (∀ x, x ∈ l → 0 ≤ x.f0 ∧ x.f0 < x.f1 ∧ x.f1 < a) → (o.length : Int) = a → ∀ t, 0 ≤ t →
    (rdOf false (rst n l o) t = true ↔ rdOf false o t = true ∨ (rdOf false o n = true ∧ ∃ x, x ∈ l ∧ x.f0 = n ∧ x.f1 = t))
  | [], o, _, _, t, _ => by simp [rst]
  | x :: l, o, hl, ho, t, ht => by
    have hx := hl x List.mem_cons_self
    have hl' := fun y hy => hl y (List.mem_cons_of_mem x hy)
    rw [rst_cons]
    by_cases e : x.f0 = n
    · rw [if_pos e]
      by_cases eb : rdOf false o n = true
      · rw [if_pos eb, rst_at n hn l _ hl' (by simpa using ho) t ht, rdb_set o x.f1 t true (by omega) (by omega) ht, rdb_set o x.f1 n true (by omega) (by omega) hn, if_neg (show ¬ x.f1 = n by omega)]
        constructor
        · rintro (h | ⟨h, y, hy, hy2⟩)
          · by_cases et : x.f1 = t
            · exact .inr ⟨eb, x, List.mem_cons_self, e, et⟩
            · rw [if_neg et] at h; exact .inl h
          · exact .inr ⟨h, y, List.mem_cons_of_mem _ hy, hy2⟩
        · rintro (h | ⟨h, y, hy, hy2, hy3⟩)
          · left; split <;> first | rfl | exact h
          · rcases List.mem_cons.1 hy with rfl | hy
            · left; rw [if_pos hy3]
            · exact .inr ⟨h, y, hy, hy2, hy3⟩
      · rw [if_neg eb, rst_at n hn l o hl' ho t ht]
        constructor
        · rintro (h | ⟨h, _⟩)
          · exact .inl h
          · exact absurd h eb
        · rintro (h | ⟨h, _⟩)
          · exact .inl h
          · exact absurd h eb
    · rw [if_neg e, rst_at n hn l o hl' ho t ht]
      constructor
      · rintro (h | ⟨h, y, hy, hy2⟩)
        · exact .inl h
        · exact .inr ⟨h, y, List.mem_cons_of_mem _ hy, hy2⟩
      · rintro (h | ⟨h, y, hy, hy2, hy3⟩)
        · exact .inl h
        · rcases List.mem_cons.1 hy with rfl | hy
          · exact absurd hy2 e
          · exact .inr ⟨h, y, hy, hy2, hy3⟩
theorem rys_spec {a : Int} {l : List S69} (hv : VG a l) : ∀ (d : Nat) (n : Int) (o : List Bool), 0 ≤ n → n + d = a → (o.length : Int) = a → rdOf false o 0 = true →
    (∀ t, 0 ≤ t → rdOf false o t = true → Rch l t 0) → (∀ x, x ∈ l → x.f0 < n → rdOf false o x.f0 = true → rdOf false o x.f1 = true) →
    ∀ t, 0 ≤ t → (rdOf false (rys l d n o) t = true ↔ Rch l t 0)
  | 0, n, o, h0, h1, ho, hz, hs, hc, t, ht => by
    refine ⟨fun h => hs t ht h, fun h => ?_⟩
    exact h.along (fun n => rdOf false o n = true) (fun x hx hp => hc x hx (by have := hv.arc x hx; omega) hp) hz
  | d + 1, n, o, h0, h1, ho, hz, hs, hc, t, ht => by
    have hal : ∀ x, x ∈ l → 0 ≤ x.f0 ∧ x.f0 < x.f1 ∧ x.f1 < a := fun x hx => by have := hv.arc x hx; omega
    have hst := rst_at n h0 l o hal ho
    rw [rys]
    refine rys_spec hv d (n + 1) (rst n l o) (by omega) (by omega) (by rw [rst_length]; exact ho) ((hst 0 (by omega)).2 (.inl hz)) (fun t ht h => ?_) (fun x hx hlt hp => ?_) t ht
    · rcases (hst t ht).1 h with h | ⟨h, x, hx, hx2, hx3⟩
      · exact hs t ht h
      · rw [← hx3]; exact (hs n h0 h).snoc x hx hx2
    · have hxa := hal x hx
      rcases (hst x.f0 (by omega)).1 hp with h | ⟨h, y, hy, hy2, hy3⟩
      · rcases Int.lt_or_le x.f0 n with h2 | h2
        · exact (hst x.f1 (by omega)).2 (.inl (hc x hx h2 h))
        · have e : x.f0 = n := by omega
          exact (hst x.f1 (by omega)).2 (.inr ⟨by rw [← e]; exact h, x, hx, e, rfl⟩)
      · have := hal y hy; omega
def reach0 (a : Int) : List Bool := (List.replicate a.toNat false).set 0 true
def reach (a : Int) (l : List S69) : List Bool := rys l a.toNat 0 (reach0 a)
theorem reach0_length (a : Int) : (reach0 a).length = a.toNat := by simp [reach0]
theorem reach_length (a : Int) (l : List S69) : (reach a l).length = a.toNat := by unfold reach; rw [rys_length, reach0_length]
theorem reach_iff {a : Int} {l : List S69} (hv : VG a l) {t : Int} (ht : 0 ≤ t) : rdOf false (reach a l) t = true ↔ Rch l t 0 := by
  have h1 := hv.lo
  have e : ∀ t, 0 ≤ t → rdOf false (reach0 a) t = if 0 = t then true else false := by
    intro t ht
    have := rdb_set (List.replicate a.toNat false) 0 t true (by omega) (by simp; omega) ht
    unfold reach0
    rw [show (0 : Int).toNat = 0 from rfl] at this
    rw [this]
    congr 1
    unfold rdOf
    simp only [List.getD, List.getElem?_replicate]
    split <;> rfl
  refine rys_spec hv a.toNat 0 (reach0 a) (by omega) (by omega) (by rw [reach0_length]; omega) ?_ (fun t ht h => ?_) (fun x hx hlt _ => ?_) t ht
  · rw [e 0 (by omega)]; rfl
  · rw [e t ht] at h
    by_cases h0 : 0 = t
    · rw [← h0]; exact .refl
    · rw [if_neg h0] at h; exact absurd h (by simp)
  · have := hv.arc x hx; omega

/-! ### reached, Cut, CheckCut -/
theorem ix_foldl {σ : Type} (F : σ → S69 → σ) (l : List S69) (n : Int) : ∀ (s : List S69) (i : Nat) (o : σ), l.drop i = s → (ix n s i).foldl (fun o j => F o (rd_T69 l j)) o = s.foldl (fun o x => if x.f0 = n then F o x else o) o
  | [], _, _, _ => rfl
  | x :: s, i, o, h => by
    have hi : i < l.length := by
      rcases Nat.lt_or_ge i l.length with h1 | h1
      · exact h1
      · rw [List.drop_eq_nil_of_le h1] at h; cases h
    have h2 := rdT_at l i hi
    rw [h] at h2
    injection h2 with h3 h4
    have ih := fun o => ix_foldl F l n s (i + 1) o h4.symm
    rw [ix]
    by_cases hx : x.f0 = n
    · rw [if_pos hx, List.foldl_cons, List.foldl_cons, if_pos hx]
      have := ih (F o (rd_T69 l i))
      rw [show ((i + 1 : Nat) : Int) = (i : Int) + 1 by omega] at this
      rw [this, h3]
    · rw [if_neg hx, List.foldl_cons, if_neg hx]
      have := ih o
      rw [show ((i + 1 : Nat) : Int) = (i : Int) + 1 by omega] at this
      exact this
def rarc (l : List S69) (n : Int) (o : List Bool) (j : Int) : List Bool := if rdOf false o n = true then o.set (rd_T69 l j).f1.toNat true else o
theorem rarc_length (l : List S69) (n : Int) (o : List Bool) (j : Int) : (rarc l n o j).length = o.length := by unfold rarc; split <;> simp
theorem ix_rst (l : List S69) (n : Int) (o : List Bool) : (ix n l 0).foldl (rarc l n) o = rst n l o :=
  ix_foldl (fun o x => if rdOf false o n = true then o.set x.f1.toNat true else o) l n l 0 o rfl
theorem dreach_in {a : Int} {l : List S69} (n : Int) (hn : 0 ≤ n) (hn2 : n < a) (B : List (List Int)) (bl bi : Int) (J : List Int) (hJl : (J.length : Int) ≤ 9223372036854775807)
    (hJ : ∀ j, j ∈ J → 0 ≤ j ∧ j < (l.length : Int) ∧ 0 ≤ (rd_T69 l j).f1 ∧ (rd_T69 l j).f1 < a) {r : List Bool} : ∀ (d i : Nat) (o : List Bool), i + d = J.length → (o.length : Int) = a →
    Ev (fun k => dag_reached.l0 k ((J.drop i).foldl (rarc l n) o) B bl (wrap64 (bi + 1)) a l) r → Ev (fun k => dag_reached.l1 k o n B bl bi J J.length i a l) r
  | 0, i, o, h, ho, hr => by
    rw [List.drop_eq_nil_of_le (by omega)] at hr
    refine Ev.step (fun k => ?_) hr
    rw [dag_reached.l1, if_neg (by omega)]; rfl
  | d + 1, i, o, h, ho, hr => by
    have hi : i < J.length := by omega
    have hw := wrap_succ i J.length hi hJl
    have hj := hJ _ (rd_mem J i hi)
    rw [rd_at J i hi, List.foldl_cons] at hr
    have ih := dreach_in n hn hn2 B bl bi J hJl hJ d (i + 1) (rarc l n o (rd J i)) (by omega) (by rw [rarc_length]; exact ho) hr
    refine Ev.step (fun k => ?_) ih
    rw [dag_reached.l1, if_pos (by omega), if_pos (by omega), if_pos (by omega), if_pos (by omega), if_pos (by omega), hw]
    unfold rarc
    by_cases e : rdOf false o n = true
    · rw [if_pos e, if_pos e, if_pos (by omega), if_pos (by omega), if_pos (by omega), if_pos (by omega)]
    · rw [if_neg e, if_neg e]
theorem dreach_out {a : Int} {l : List S69} (hv : VG a l) (B : List (List Int)) (hB : (B.length : Int) = a) (hn : ∀ n, 0 ≤ n → n < a → rd_L2 B n = ix n l 0) : ∀ (d : Nat) (n : Nat) (o : List Bool), (n : Int) + d = a → (o.length : Int) = a →
    Ev (fun k => dag_reached.l0 k o B B.length n a l) (rys l d n o)
  | 0, n, o, h, ho => by
    refine Ev.step (f := fun _ => some o) (fun k => ?_) (Ev.now _)
    rw [dag_reached.l0, if_neg (by omega)]
  | d + 1, n, o, h, ho => by
    have hh := hv.hi
    have ih := dreach_out hv B hB hn d (n + 1) (rst n l o) (by omega) (by rw [rst_length]; exact ho)
    have hb := hn n (by omega) (by omega)
    have hl := hv.len
    have hil := ix_length (n : Int) l 0
    rw [rys]
    refine Ev.step (fun k => by rw [dag_reached.l0, if_pos (by omega), if_pos (by omega), if_pos (by omega), hb]) ?_
    refine dreach_in (n : Int) (by omega) (by omega) B B.length n (ix n l 0) (by omega) (fun j hj => ?_) (ix n l 0).length 0 o (by omega) ho ?_
    · obtain ⟨h1, h2, _, h3⟩ := ix_mem n l 0 j hj
      rw [show j - 0 = j by omega] at h3
      have := hv.arc _ h3
      omega
    · rw [List.drop_zero, ix_rst, w64_in _ (by omega)]
      rw [show ((n + 1 : Nat) : Int) = (n : Int) + 1 by omega] at ih
      exact ih
theorem dreach_ev {a : Int} {l : List S69} (hv : VG a l) : Ev (fun k => dag_reached.f k a l) (reach a l) := by
  have h1 := hv.lo
  have h2 := hv.hi
  obtain ⟨B, hB, hl, hn⟩ := byFrom_ev hv
  unfold dag_reached.f
  refine ev_pos (by omega) (ev_pos (by omega) (ev_some (ev_pos (by simp; omega) (Ev.bind hB ?_))))
  have := dreach_out hv B hl hn a.toNat 0 (reach0 a) (by omega) (by rw [reach0_length]; omega)
  exact this
/-- The places of the true ones, from i on. -/
def tix : List Bool → Int → List Int
  | [], _ => []
  | b :: bs, i => if b = true then i :: tix bs (i + 1) else tix bs (i + 1)
theorem tix_length : ∀ (o : List Bool) (i : Int), (tix o i).length ≤ o.length
  | [], _ => by simp [tix]
  | b :: bs, i => by have := tix_length bs (i + 1); rw [tix]; split <;> simp <;> omega
theorem rdb_at (l : List Bool) (i : Nat) (hi : i < l.length) : l.drop i = rdOf false l i :: l.drop (i + 1) := getD_drop l i false hi
theorem dcut_loop (o : List Bool) (ho : (o.length : Int) ≤ 1000000) : ∀ (d i : Nat) (acc : List Int), i + d = o.length → acc.length ≤ i → Ev (fun k => dag_Cut.l0 k acc o o.length i) (acc ++ tix (o.drop i) i, 0)
  | 0, i, acc, h, ha => by
    rw [List.drop_eq_nil_of_le (by omega)]
    refine Ev.step (f := fun _ => some (acc, 0)) (fun k => ?_) (by simpa [tix] using Ev.now _)
    rw [dag_Cut.l0, if_neg (by omega)]
  | d + 1, i, acc, h, ha => by
    have hi : i < o.length := by omega
    have hw := wrap_succ i o.length hi (by omega)
    rw [rdb_at o i hi, tix]
    by_cases e : rdOf false o i = true
    · have ih := dcut_loop o ho d (i + 1) (acc ++ [(i : Int)]) (by omega) (by simp; omega)
      rw [if_pos e]
      rw [List.append_assoc, List.singleton_append] at ih
      refine Ev.step (fun k => ?_) ih
      rw [dag_Cut.l0, if_pos (by omega), if_pos (by omega), if_pos (by omega), if_pos e, if_pos (by omega), hw]
    · have ih := dcut_loop o ho d (i + 1) acc (by omega) (by omega)
      rw [if_neg e]
      refine Ev.step (fun k => ?_) ih
      rw [dag_Cut.l0, if_pos (by omega), if_pos (by omega), if_pos (by omega), if_neg e, hw]
def cut (a : Int) (l : List S69) : List Int × Int := if valid a l = 0 then (if rdOf false (reach a l) (a - 1) = true then ([], 11) else (tix (reach a l) 0, 0)) else ([], valid a l)
theorem dcut_ev (a : Int) (l : List S69) : Ev (fun k => dag_Cut.f k a l) (cut a l) := by
  refine Ev.bind (valid_ev a l) ?_
  unfold cut
  by_cases h : valid a l = 0
  · have hv := (valid_VG a l).1 h
    have h1 := hv.lo
    have h2 := hv.hi
    have h3 := reach_length a l
    rw [if_pos h, w64_in _ (by omega)]
    refine ev_pos h (Ev.bind (dreach_ev hv) (ev_pos (by omega) (ev_pos (by omega) (ev_ite (fun _ => Ev.now _) (fun _ => ?_)))))
    have := dcut_loop (reach a l) (by omega) (reach a l).length 0 [] (by omega) (by simp)
    simpa using this
  · rw [if_neg h]; exact ev_neg h (Ev.now _)
theorem equal_loop (l : List Int) (hl : (l.length : Int) ≤ 9223372036854775807) : ∀ (d i : Nat), i + d = l.length → Ev (fun k => slices_Equal_int_int.l0 k l l l.length i) true
  | 0, i, h => Ev.step (f := fun _ => some true) (fun k => by rw [slices_Equal_int_int.l0, if_neg (by omega)]) (Ev.now _)
  | d + 1, i, h => by
    have hw := wrap_succ i l.length (by omega) hl
    refine Ev.step (fun k => ?_) (equal_loop l hl d (i + 1) (by omega))
    rw [slices_Equal_int_int.l0, if_pos (by omega), if_pos (by omega), if_pos (by omega), if_pos (by omega), if_pos rfl, hw]
theorem equal_ev (l : List Int) (hl : (l.length : Int) ≤ 9223372036854775807) : Ev (fun k => slices_Equal_int_int.f k l l) true :=
  ev_pos rfl (equal_loop l hl l.length 0 (by omega))

/-! CheckCut -/
def Chn (a : Int) : Option Int → List Int → Prop
  | _, [] => True
  | p, n :: ns => 0 ≤ n ∧ n < a ∧ (∀ q, p = some q → q < n) ∧ Chn a (some n) ns
theorem Chn.mem {a : Int} : ∀ {ns : List Int} {p : Option Int}, Chn a p ns → ∀ n, n ∈ ns → 0 ≤ n ∧ n < a ∧ ∀ q, p = some q → q < n
  | [], _, _, n, h => by simp at h
  | m :: ns, p, ⟨h0, h1, h2, h3⟩, n, h => by
    rcases List.mem_cons.1 h with rfl | h
    · exact ⟨h0, h1, h2⟩
    · have := Chn.mem h3 n h
      exact ⟨this.1, this.2.1, fun q hq => by have := this.2.2 m rfl; have := h2 q hq; omega⟩
def marks (ns : List Int) (o : List Bool) : List Bool := ns.foldl (fun o n => o.set n.toNat true) o
theorem marks_length : ∀ (ns : List Int) (o : List Bool), (marks ns o).length = o.length
  | [], _ => rfl
  | n :: ns, o => by unfold marks; rw [List.foldl_cons]; exact (marks_length ns _).trans (by simp)
theorem marks_at {a : Int} : ∀ (ns : List Int) (p : Option Int) (o : List Bool), (o.length : Int) = a → Chn a p ns → ∀ t, 0 ≤ t → (rdOf false (marks ns o) t = true ↔ rdOf false o t = true ∨ t ∈ ns)
  | [], _, _, _, _, t, _ => by simp [marks]
  | n :: ns, p, o, ho, ⟨h0, h1, _, h3⟩, t, ht => by
    have ih := marks_at ns (some n) (o.set n.toNat true) (by simpa using ho) h3 t ht
    have e : marks (n :: ns) o = marks ns (o.set n.toNat true) := rfl
    rw [e, ih, rdb_set _ _ _ _ h0 (by omega) ht, List.mem_cons]
    by_cases en : n = t
    · rw [if_pos en]; simp [en]
    · rw [if_neg en]
      constructor
      · rintro (h | h)
        · exact .inl h
        · exact .inr (.inr h)
      · rintro (h | h | h)
        · exact .inl h
        · exact absurd h.symm en
        · exact .inr h
def Shut (l : List S69) (o : List Bool) : Prop := ∀ x, x ∈ l → rdOf false o x.f0 = true → rdOf false o x.f1 = true
def Fin_ (a : Int) (l : List S69) (o : List Bool) : Prop := rdOf false o 0 = true ∧ ¬ rdOf false o (a - 1) = true ∧ Shut l o
def CC (a : Int) (l : List S69) (ns : List Int) : Prop := Chn a none ns ∧ Fin_ a l (marks ns (List.replicate a.toNat false))
theorem rdb_rep (n : Nat) (t : Int) : rdOf false (List.replicate n false) t = false := by
  unfold rdOf
  simp only [List.getD, List.getElem?_replicate]
  split <;> rfl
theorem marks_mem {a : Int} (h1 : 1 ≤ a) {ns : List Int} (h : Chn a none ns) (t : Int) (ht : 0 ≤ t) : rdOf false (marks ns (List.replicate a.toNat false)) t = true ↔ t ∈ ns := by
  rw [marks_at ns none _ (by simp; omega) h t ht, rdb_rep]; simp
/-- Where there is a cut, no way leads to the end. -/
theorem CC.none {a : Int} {l : List S69} {ns : List Int} (hv : VG a l) (h : CC a l ns) : ¬ Rch l (a - 1) 0 := by
  intro hr
  have h1 := hv.lo
  exact h.2.2.1 (hr.along (fun n => rdOf false (marks ns (List.replicate a.toNat false)) n = true) (fun x hx hp => h.2.2.2 x hx hp) h.2.1)

/-! ### The paths -/
def fr (l : List S69) (a : Int) : Nat → Int → List (List Int)
  | 0, _ => []
  | f + 1, n => if n = a - 1 then [[]] else (ix n l 0).flatMap fun i => (fr l a f (rd_T69 l i).f1).map (i :: ·)
def cmin (n : Nat) : Int := if (n : Int) ≤ cap then n else cap
theorem cmin_bd (n : Nat) : 0 ≤ cmin n ∧ cmin n ≤ cap := by unfold cmin cap; split <;> omega
theorem capV_cmin (m n : Nat) : capV (cmin m) (cmin n) = cmin (m + n) := by
  rw [capV_min _ _ (cmin_bd m).1 (cmin_bd m).2 (cmin_bd n).1 (cmin_bd n).2]
  unfold cmin cap
  split <;> split <;> split <;> (try split) <;> omega
theorem fold_cmin (g : Int → Int) (h : Int → List (List Int)) : ∀ (J : List Int) (c : Nat), (∀ j, j ∈ J → g j = cmin (h j).length) → J.foldl (fun s j => capV s (g j)) (cmin c) = cmin (c + (J.flatMap h).length)
  | [], c, _ => by simp
  | j :: J, c, hj => by
    rw [List.foldl_cons, hj j List.mem_cons_self, capV_cmin, fold_cmin g h J _ (fun i hi => hj i (List.mem_cons_of_mem _ hi)), List.flatMap_cons, List.length_append]
    congr 1; omega
theorem ix_arc {a : Int} {l : List S69} (hv : VG a l) {n j : Int} (h : j ∈ ix n l 0) : 0 ≤ j ∧ j < (l.length : Int) ∧ (rd_T69 l j).f0 = n ∧ n < (rd_T69 l j).f1 ∧ (rd_T69 l j).f1 < a := by
  obtain ⟨h1, h2, h3, h4⟩ := ix_mem n l 0 j h
  rw [show j - 0 = j by omega] at h3 h4
  have := hv.arc _ h4
  omega
theorem ways_len {a : Int} {l : List S69} (hv : VG a l) : ∀ (f : Nat) (n : Int), 0 ≤ n → n < a → a - n ≤ f → rd (ways a l) n = cmin (fr l a f n).length
  | 0, n, _, _, _ => by omega
  | f + 1, n, h0, h1, h2 => by
    rw [fr]
    by_cases e : n = a - 1
    · rw [if_pos e, e, ways_end hv]; unfold cmin cap; simp
    · rw [if_neg e, ways_rec hv n h0 (by omega)]
      have e1 := ix_foldl (fun s x => capV s (rd (ways a l) x.f1)) l n l 0 0 rfl
      unfold wfold
      rw [← e1]
      have e2 := fold_cmin (fun j => rd (ways a l) (rd_T69 l j).f1) (fun i => (fr l a f (rd_T69 l i).f1).map (i :: ·)) (ix n l 0) 0 (fun j hj => by
        have := ix_arc hv hj
        rw [List.length_map]
        exact ways_len hv f _ (by omega) (by omega) (by omega))
      rw [Nat.zero_add] at e2
      exact e2
theorem ways_none {a : Int} {l : List S69} (hv : VG a l) {f : Nat} {n : Int} (h0 : 0 ≤ n) (h1 : n < a) (h2 : a - n ≤ f) (h : ¬ 0 < rd (ways a l) n) : fr l a f n = [] := by
  rw [ways_len hv f n h0 h1 h2] at h
  have : (fr l a f n).length = 0 := by unfold cmin cap at h; split at h <;> omega
  exact List.eq_nil_of_length_eq_zero this
theorem fr_short (l : List S69) (a : Int) : ∀ (f : Nat) (n : Int) (p : List Int), p ∈ fr l a f n → p.length ≤ f
  | 0, _, _, h => by simp [fr] at h
  | f + 1, n, p, h => by
    rw [fr] at h
    by_cases e : n = a - 1
    · rw [if_pos e] at h; simp at h; simp [h]
    · rw [if_neg e] at h
      obtain ⟨i, _, h⟩ := List.mem_flatMap.1 h
      obtain ⟨q, hq, rfl⟩ := List.mem_map.1 h
      have := fr_short l a f _ q hq
      simp; omega
theorem fr_check {a : Int} {l : List S69} (hv : VG a l) : ∀ (f : Nat) (n : Int) (p : List Int), p ∈ fr l a f n → ck a l n p = true
  | 0, _, _, h => by simp [fr] at h
  | f + 1, n, p, h => by
    have h1 := hv.lo
    have h2 := hv.hi
    rw [fr] at h
    by_cases e : n = a - 1
    · rw [if_pos e] at h
      obtain rfl : p = [] := by simpa using h
      rw [ck, w64_in _ (by omega), e]; simp
    · rw [if_neg e] at h
      obtain ⟨i, hi, h⟩ := List.mem_flatMap.1 h
      obtain ⟨q, hq, rfl⟩ := List.mem_map.1 h
      have := ix_arc hv hi
      rw [ck, if_neg (by omega), if_pos (by omega)]
      exact fr_check hv f _ q hq
theorem flat_part {α β : Type} (h : α → List β) {J : List α} {j : α} (hj : j ∈ J) : (h j).length ≤ (J.flatMap h).length := by
  induction J with
  | nil => simp at hj
  | cons x xs ih =>
    rw [List.flatMap_cons, List.length_append]
    rcases List.mem_cons.1 hj with rfl | hj
    · omega
    · have := ih hj; omega
theorem fr_child {a : Int} {l : List S69} {f : Nat} {n j : Int} (hn : n ≠ a - 1) (hj : j ∈ ix n l 0) : (fr l a f (rd_T69 l j).f1).length ≤ (fr l a (f + 1) n).length := by
  have := flat_part (fun i => (fr l a f (rd_T69 l i).f1).map (i :: ·)) hj
  rw [fr, if_neg hn]
  simpa using this
/-! The program's walk. -/
theorem take_path (path : List Int) (i : Int) (h : path.length ≤ 10000) : ((path ++ [i]).take (wrap64 (((path ++ [i]).length : Int) - 1)).toNat) = path := by
  rw [w64_in _ (by simp; omega)]
  rw [show ((((path ++ [i]).length : Nat) : Int) - 1).toNat = path.length by rw [List.length_append]; simp]
  simp
theorem dwalk_loop {a : Int} {l : List S69} (hv : VG a l) (B : List (List Int)) (f : Nat) (path J : List Int) (hp : path.length ≤ 10000) (hJl : J.length ≤ 1000000)
    (hJ : ∀ j, j ∈ J → 0 ≤ j ∧ j < (l.length : Int) ∧ 0 ≤ (rd_T69 l j).f1 ∧ (rd_T69 l j).f1 < a ∧ a - (rd_T69 l j).f1 ≤ f)
    (ih : ∀ j, j ∈ J → ∀ out : List (List Int), out.length + (fr l a f (rd_T69 l j).f1).length ≤ 10000 → Ev (fun k => dag_Paths_1_mc.f k (rd_T69 l j).f1 a l out (path ++ [j]) B (ways a l)) (out ++ (fr l a f (rd_T69 l j).f1).map (fun q => (path ++ [j]) ++ q), path ++ [j])) :
    ∀ (d i : Nat) (out : List (List Int)), i + d = J.length → out.length + ((J.drop i).flatMap fun j => (fr l a f (rd_T69 l j).f1).map (j :: ·)).length ≤ 10000 →
    Ev (fun k => dag_Paths_1_mc.l0 k J J.length i a l out path B (ways a l)) (out ++ ((J.drop i).flatMap fun j => (fr l a f (rd_T69 l j).f1).map (j :: ·)).map (path ++ ·), path)
  | 0, i, out, h, ho => by
    rw [List.drop_eq_nil_of_le (by omega)]
    refine Ev.step (f := fun _ => some (out, path)) (fun k => ?_) (by simpa using Ev.now _)
    rw [dag_Paths_1_mc.l0, if_neg (by omega)]
  | d + 1, i, out, h, ho => by
    have hi : i < J.length := by omega
    have hw := wrap_succ i J.length hi (by omega)
    have hm := rd_mem J i hi
    have hj := hJ _ hm
    have hwl := ways_length a l
    rw [rd_at J i hi, List.flatMap_cons] at ho ⊢
    rw [List.length_append, List.length_map] at ho
    rw [List.map_append, List.map_map, ← List.append_assoc]
    have hfun : ((fun x => path ++ x) ∘ fun x => rd J ↑i :: x) = fun q => (path ++ [rd J i]) ++ q := by funext q; simp
    rw [hfun]
    by_cases e : rd (ways a l) (rd_T69 l (rd J i)).f1 > 0
    · have h1 := ih (rd J i) hm out (by omega)
      have h2 := dwalk_loop hv B f path J hp hJl hJ ih d (i + 1) (out ++ (fr l a f (rd_T69 l (rd J i)).f1).map (fun q => (path ++ [rd J i]) ++ q)) (by omega) (by rw [List.length_append, List.length_map]; omega)
      refine Ev.step (fun k => by rw [dag_Paths_1_mc.l0, if_pos (by omega), if_pos (by omega), if_pos (by omega), if_pos (by omega), if_pos (by omega), if_pos (by omega), if_pos (by omega), if_pos e, if_pos (by omega), hw]) (Ev.bind h1 ?_)
      dsimp only
      rw [take_path path _ hp]
      exact ev_pos (by rw [w64_in _ (by simp; omega)]; simp) (ev_pos (by rw [w64_in _ (by simp; omega)]; omega) h2)
    · have hnil := ways_none hv (f := f) hj.2.2.1 hj.2.2.2.1 hj.2.2.2.2 e
      have h2 := dwalk_loop hv B f path J hp hJl hJ ih d (i + 1) out (by omega) (by omega)
      rw [hnil]
      simp only [List.map_nil, List.append_nil]
      refine Ev.step (fun k => ?_) h2
      rw [dag_Paths_1_mc.l0, if_pos (by omega), if_pos (by omega), if_pos (by omega), if_pos (by omega), if_pos (by omega), if_pos (by omega), if_pos (by omega), if_neg e, hw]
theorem dwalk_ev {a : Int} {l : List S69} (hv : VG a l) (B : List (List Int)) (hB : (B.length : Int) = a) (hBn : ∀ n, 0 ≤ n → n < a → rd_L2 B n = ix n l 0) : ∀ (f : Nat) (n : Int) (out : List (List Int)) (path : List Int), 0 ≤ n → n < a → a - n ≤ f → path.length + f ≤ 10000 → out.length + (fr l a f n).length ≤ 10000 →
    Ev (fun k => dag_Paths_1_mc.f k n a l out path B (ways a l)) (out ++ (fr l a f n).map (path ++ ·), path)
  | 0, n, out, path, h0, h1, h2, _, _ => by omega
  | f + 1, n, out, path, h0, h1, h2, hp, ho => by
    have hlo := hv.lo
    have hhi := hv.hi
    by_cases e : n = a - 1
    · have ef : fr l a (f + 1) n = [[]] := by rw [fr, if_pos e]
      rw [ef] at ho ⊢
      simp only [List.map_cons, List.map_nil, List.append_nil]
      have hc : slices_Clone_int_int.f path = some path := by
        unfold slices_Clone_int_int.f
        simp only [Option.bind_some, List.length_nil, List.nil_append, if_pos (show 0 + path.length < 17592186044416 by omega)]
      refine Ev.step (f := fun _ => some (out ++ [path], path)) (fun k => ?_) (Ev.now _)
      rw [dag_Paths_1_mc.f, w64_in (a - 1) (by omega), if_pos e, hc, Option.bind_some, if_pos (by simp at ho; omega)]
    · have hJ : rd_L2 B n = ix n l 0 := hBn n h0 h1
      have hil := ix_length n l 0
      have hll := hv.len
      have key := dwalk_loop hv B f path (ix n l 0) (by omega) (by omega) (fun j hj => by have := ix_arc hv hj; omega)
        (fun j hj out ho => by
          have := ix_arc hv hj
          exact dwalk_ev hv B hB hBn f _ out (path ++ [j]) (by omega) (by omega) (by omega) (by simp; omega) ho)
        (ix n l 0).length 0 out (by omega) (by rw [fr, if_neg e] at ho; simpa using ho)
      rw [List.drop_zero] at key
      rw [fr, if_neg e]
      refine Ev.step (fun k => ?_) key
      rw [dag_Paths_1_mc.f, w64_in (a - 1) (by omega), if_neg e, if_pos h0, if_pos (by omega), hJ]; rfl
def paths (a : Int) (l : List S69) : List (List Int) × Int := if valid a l = 0 then (if rd (ways a l) 0 > 2000 then ([], 3) else (fr l a a.toNat 0, 0)) else ([], valid a l)
theorem fr_count {a : Int} {l : List S69} (hv : VG a l) (h : ¬ rd (ways a l) 0 > 2000) : rd (ways a l) 0 = (fr l a a.toNat 0).length := by
  have hlo := hv.lo
  have := ways_len hv a.toNat 0 (by omega) (by omega) (by omega)
  rw [this] at h ⊢
  unfold cmin cap at *
  split <;> rename_i h2
  · rfl
  · rw [if_neg h2] at h; omega
theorem dpaths_ev (a : Int) (l : List S69) : Ev (fun k => dag_Paths.f k a l) (paths a l) := by
  refine Ev.bind (valid_ev a l) ?_
  unfold paths
  by_cases h : valid a l = 0
  · have hv := (valid_VG a l).1 h
    have hlo := hv.lo
    have hhi := hv.hi
    have hwl := ways_length a l
    rw [if_pos h]
    refine ev_pos h (Ev.bind (dways_ev hv) (ev_pos (by omega) (ev_ite (fun _ => Ev.now _) (fun hw => ?_))))
    have hc := fr_count hv hw
    obtain ⟨B, hB, hl, hn⟩ := byFrom_ev hv
    refine Ev.bind hB ?_
    by_cases hp : rd (ways a l) 0 > 0
    · have := dwalk_ev hv B hl hn a.toNat 0 [] [] (by omega) (by omega) (by omega) (by simp; omega) (by simp; omega)
      refine ev_pos hp (Ev.bind this ?_)
      simp only [List.nil_append, List.map_id']
      exact Ev.now _
    · have : fr l a a.toNat 0 = [] := ways_none hv (by omega) (by omega) (by omega) hp
      rw [this]
      exact ev_neg hp (Ev.now _)
  · rw [if_neg h]; exact ev_neg h (Ev.now _)

/-! The reference's paths. -/
theorem rfrom_in {a : Int} {l : List S69} (n : Int) (i : Nat) (hi : (i : Int) + 1 ≤ 9223372036854775807) (t : List (List Int)) (ht : (t.length : Int) ≤ 1000000) (hts : ∀ p, p ∈ t → p.length ≤ 10000) {r : List (List Int)} : ∀ (d j : Nat) (acc : List (List Int)), j + d = t.length → acc.length + d ≤ 1000000 →
    Ev (fun k => ancepsref09_from.l0 k (ways a l) n (acc ++ (t.drop j).map ((i : Int) :: ·)) ((i + 1 : Nat) : Int) a l) r → Ev (fun k => ancepsref09_from.l1 k (ways a l) n acc i t j a l) r
  | 0, j, acc, h, _, hr => by
    rw [List.drop_eq_nil_of_le (by omega)] at hr
    refine Ev.step (fun k => ?_) hr
    rw [ancepsref09_from.l1, if_neg (by omega), w64_in _ (by omega)]; simp
  | d + 1, j, acc, h, ha, hr => by
    have hj : j < t.length := by omega
    have hw := wrap_succ j t.length hj (by omega)
    have e1 : t.drop j = rd_L2 t j :: t.drop (j + 1) := getD_drop t j [] hj
    have hm : rd_L2 t j ∈ t := by
      have h2 : rd_L2 t j ∈ t.drop j := by rw [e1]; exact List.mem_cons_self
      exact List.mem_of_mem_drop h2
    have hs := hts _ hm
    rw [e1, List.map_cons] at hr
    have ih := rfrom_in n i hi t ht hts d (j + 1) (acc ++ [(i : Int) :: rd_L2 t j]) (by omega) (by simp; omega) (by rw [List.append_assoc, List.singleton_append]; exact hr)
    refine Ev.step (fun k => ?_) ih
    rw [ancepsref09_from.l1, if_pos (by omega), Option.bind_some, if_pos (by omega), if_pos (by simp; omega), if_pos (by omega), hw]; rfl
theorem rfrom_loop {a : Int} {l : List S69} (hv : VG a l) (f : Nat) (n : Int) (hf : f ≤ 9000) (hfn : a - n ≤ f + 1)
    (ih : ∀ m, n < m → m < a → (fr l a f m).length ≤ 10000 → Ev (fun k => ancepsref09_from.f k a l (ways a l) m) (fr l a f m)) : ∀ (d i : Nat) (acc : List (List Int)), i + d = l.length → acc.length + ((ix n (l.drop i) i).flatMap fun j => (fr l a f (rd_T69 l j).f1).map (j :: ·)).length ≤ 10000 →
    Ev (fun k => ancepsref09_from.l0 k (ways a l) n acc i a l) (acc ++ (ix n (l.drop i) i).flatMap fun j => (fr l a f (rd_T69 l j).f1).map (j :: ·))
  | 0, i, acc, h, _ => by
    rw [List.drop_eq_nil_of_le (by omega)]
    refine Ev.step (f := fun _ => some acc) (fun k => ?_) (by simpa [ix] using Ev.now _)
    rw [ancepsref09_from.l0, if_neg (by omega)]
  | d + 1, i, acc, h, hb => by
    have hi : i < l.length := by omega
    have hlen := hv.len
    have hw := wrap_succ i l.length hi (by omega)
    have hwl := ways_length a l
    have hx := hv.arc _ (rdT_mem l i hi)
    rw [rdT_at l i hi, ix] at hb ⊢
    rw [show (i : Int) + 1 = ((i + 1 : Nat) : Int) by omega] at hb ⊢
    by_cases e : (rd_T69 l i).f0 = n
    · rw [if_pos e, List.flatMap_cons] at hb ⊢
      rw [List.length_append, List.length_map] at hb
      by_cases ew : rd (ways a l) (rd_T69 l i).f1 = 0
      · have hnil : fr l a f (rd_T69 l i).f1 = [] := ways_none hv (by omega) (by omega) (by omega) (by omega)
        have ih2 := rfrom_loop hv f n hf hfn ih d (i + 1) acc (by omega) (by omega)
        rw [hnil]
        simp only [List.map_nil, List.nil_append]
        refine Ev.step (fun k => by rw [ancepsref09_from.l0, if_pos (by omega), if_pos (by omega), if_pos e, if_pos (by omega), if_pos (by omega)]) (Ev.step (fun k => ?_) ih2)
        rw [ancepsref09_from.j1, if_pos (by simp [ew]), hw]
      · have ih1 := ih (rd_T69 l i).f1 (by omega) (by omega) (by omega)
        have ih2 := rfrom_loop hv f n hf hfn ih d (i + 1) (acc ++ (fr l a f (rd_T69 l i).f1).map ((i : Int) :: ·)) (by omega) (by rw [List.length_append, List.length_map]; omega)
        rw [← List.append_assoc]
        refine Ev.step (fun k => by rw [ancepsref09_from.l0, if_pos (by omega), if_pos (by omega), if_pos e, if_pos (by omega), if_pos (by omega)]) (Ev.step (fun k => by rw [ancepsref09_from.j1, if_neg (by simp [ew]), if_pos (by omega), if_pos (by omega)]) (Ev.bind ih1 ?_))
        have hsh : ∀ p, p ∈ fr l a f (rd_T69 l i).f1 → p.length ≤ 10000 := fun p hp => by have := fr_short l a f _ p hp; omega
        have := rfrom_in (a := a) (l := l) n i (by omega) (fr l a f (rd_T69 l i).f1) (by omega) hsh (fr l a f (rd_T69 l i).f1).length 0 acc (by omega) (by omega) (by rw [List.drop_zero]; exact ih2)
        exact this
    · rw [if_neg e] at hb ⊢
      have ih2 := rfrom_loop hv f n hf hfn ih d (i + 1) acc (by omega) hb
      refine Ev.step (fun k => by rw [ancepsref09_from.l0, if_pos (by omega), if_pos (by omega), if_neg e]) (Ev.step (fun k => ?_) ih2)
      rw [ancepsref09_from.j1, if_pos rfl, hw]
theorem rfrom_ev {a : Int} {l : List S69} (hv : VG a l) : ∀ (f : Nat) (n : Int), f ≤ 9000 → 0 ≤ n → n < a → a - n ≤ f → (fr l a f n).length ≤ 10000 → Ev (fun k => ancepsref09_from.f k a l (ways a l) n) (fr l a f n)
  | 0, n, _, _, _, _, _ => by omega
  | f + 1, n, hf, h0, h1, h2, hb => by
    have hlo := hv.lo
    have hhi := hv.hi
    by_cases e : n = a - 1
    · have ef : fr l a (f + 1) n = [[]] := by rw [fr, if_pos e]
      rw [ef]
      refine Ev.step (f := fun _ => some [[]]) (fun k => ?_) (Ev.now _)
      rw [ancepsref09_from.f, w64_in (a - 1) (by omega), if_pos e]
    · rw [fr, if_neg e] at hb ⊢
      have key := rfrom_loop hv f n (by omega) (by omega) (fun m hm hm2 hb2 => rfrom_ev hv f m (by omega) (by omega) hm2 (by omega) hb2) l.length 0 [] (by omega) (by simpa using hb)
      refine Ev.step (fun k => ?_) (by simpa using key)
      rw [ancepsref09_from.f, w64_in (a - 1) (by omega), if_neg e]
theorem rpaths_ev (a : Int) (l : List S69) : Ev (fun k => ancepsref09_Paths.f k a l) (paths a l) := by
  refine Ev.bind (rvalid_ev a l) ?_
  unfold paths
  by_cases h : valid a l = 0
  · have hv := (valid_VG a l).1 h
    have hlo := hv.lo
    have hhi := hv.hi
    have hwl := ways_length a l
    rw [if_pos h]
    refine ev_pos h (Ev.bind (rways_ev hv) (ev_pos (by omega) (ev_ite (fun _ => Ev.now _) (fun hw => ?_))))
    have hc := fr_count hv hw
    by_cases hp : rd (ways a l) 0 = 0
    · have : fr l a a.toNat 0 = [] := ways_none hv (by omega) (by omega) (by omega) (by omega)
      rw [this]
      exact ev_pos hp (Ev.now _)
    · exact ev_neg hp (Ev.bind (rfrom_ev hv a.toNat 0 (by omega) (by omega) (by omega) (by omega) (by omega)) (Ev.now _))
  · rw [if_neg h]; exact ev_neg h (Ev.now _)

/-! ### Trim -/
def us (is : List Bool) (left : List Int) (n : Int) : Bool := rdOf false is n && decide (rd left n > 0)
def tl (is : List Bool) (left : List Int) : Nat → Int → List Int → List Int → List Int × List Int
  | 0, _, F, N => (F, N)
  | d + 1, n, F, N => if us is left n = true then tl is left d (n + 1) (F ++ [n]) ((N.set n.toNat (-1)).set n.toNat F.length) else tl is left d (n + 1) F (N.set n.toNat (-1))
def tarc (N : List Int) (x : S69) : S69 := ⟨rd N x.f0, rd N x.f1, x.f2⟩
def ta (N : List Int) : List S69 → List S69
  | [] => []
  | x :: l => if rd N x.f0 ≥ 0 ∧ rd N x.f1 ≥ 0 then tarc N x :: ta N l else ta N l
def tr (a : Int) (l : List S69) : List Int × List Int := tl (reach a l) (ways a l) a.toNat 0 [] (List.replicate a.toNat 0)
def trim (a : Int) (l : List S69) : Int × List S69 × List Int × Int :=
  if valid a l = 0 then (if rd (ways a l) 0 = 0 then (0, [], [], 10) else (((tr a l).1.length : Int), ta (tr a l).2 l, (tr a l).1, 0)) else (0, [], [], valid a l)
theorem ta_length (N : List Int) : ∀ l : List S69, (ta N l).length ≤ l.length
  | [] => by simp [ta]
  | x :: l => by have := ta_length N l; rw [ta]; split <;> simp <;> omega
theorem ta_mem (N : List Int) : ∀ (l : List S69) (y : S69), y ∈ ta N l ↔ ∃ x, x ∈ l ∧ rd N x.f0 ≥ 0 ∧ rd N x.f1 ≥ 0 ∧ y = tarc N x
  | [], y => by simp [ta]
  | x :: l, y => by
    have ih := ta_mem N l y
    rw [ta]
    by_cases h : rd N x.f0 ≥ 0 ∧ rd N x.f1 ≥ 0
    · rw [if_pos h, List.mem_cons, ih]
      constructor
      · rintro (rfl | ⟨z, hz, hz2⟩)
        · exact ⟨x, List.mem_cons_self, h.1, h.2, rfl⟩
        · exact ⟨z, List.mem_cons_of_mem _ hz, hz2⟩
      · rintro ⟨z, hz, h1, h2, e⟩
        rcases List.mem_cons.1 hz with rfl | hz
        · exact .inl e
        · exact .inr ⟨z, hz, h1, h2, e⟩
    · rw [if_neg h, ih]
      constructor
      · rintro ⟨z, hz, hz2⟩; exact ⟨z, List.mem_cons_of_mem _ hz, hz2⟩
      · rintro ⟨z, hz, h1, h2, e⟩
        rcases List.mem_cons.1 hz with rfl | hz
        · exact absurd ⟨h1, h2⟩ h
        · exact ⟨z, hz, h1, h2, e⟩
theorem tl_length (is : List Bool) (left : List Int) : ∀ (d : Nat) (n : Int) (F N : List Int), (tl is left d n F N).1.length ≤ F.length + d ∧ (tl is left d n F N).2.length = N.length
  | 0, _, _, _ => by simp [tl]
  | d + 1, n, F, N => by
    rw [tl]
    split
    · have := tl_length is left d (n + 1) (F ++ [n]) ((N.set n.toNat (-1)).set n.toNat F.length)
      simp only [List.length_append, List.length_cons, List.length_nil, List.length_set] at this; omega
    · have := tl_length is left d (n + 1) F (N.set n.toNat (-1))
      simp only [List.length_set] at this; omega
/-! What both programs compute. -/
theorem dtrim_arcs {a : Int} {l : List S69} (hv : VG a l) (F N : List Int) (hN : (N.length : Int) = a) (m : Int) : ∀ (d i : Nat) (acc : List S69), i + d = l.length → acc.length ≤ i → Ev (fun k => dag_Trim.l1 k F N l l.length i m acc) (m, acc ++ ta N (l.drop i), F, 0)
  | 0, i, acc, h, ha => by
    rw [List.drop_eq_nil_of_le (by omega)]
    refine Ev.step (f := fun _ => some (m, acc, F, 0)) (fun k => ?_) (by simpa [ta] using Ev.now _)
    rw [dag_Trim.l1, if_neg (by omega)]
  | d + 1, i, acc, h, ha => by
    have hi : i < l.length := by omega
    have hlen := hv.len
    have hw := wrap_succ i l.length hi (by omega)
    have hx := hv.arc _ (rdT_mem l i hi)
    rw [rdT_at l i hi, ta]
    by_cases e0 : rd N (rd_T69 l i).f0 ≥ 0
    · by_cases e1 : rd N (rd_T69 l i).f1 ≥ 0
      · have ih := dtrim_arcs hv F N hN m d (i + 1) (acc ++ [tarc N (rd_T69 l i)]) (by omega) (by simp; omega)
        rw [if_pos ⟨e0, e1⟩]
        rw [List.append_assoc, List.singleton_append] at ih
        refine Ev.step (fun k => ?_) ih
        rw [dag_Trim.l1, if_pos (by omega), if_pos (by omega), if_pos (by omega), if_pos (by omega), if_pos (by omega), if_pos (by omega), if_pos (by omega), if_pos e0, if_pos e1, if_pos (by omega), hw]; rfl
      · have ih := dtrim_arcs hv F N hN m d (i + 1) acc (by omega) (by omega)
        rw [if_neg (by omega)]
        refine Ev.step (fun k => ?_) ih
        rw [dag_Trim.l1, if_pos (by omega), if_pos (by omega), if_pos (by omega), if_pos (by omega), if_pos (by omega), if_pos (by omega), if_pos (by omega), if_pos e0, if_neg e1, hw]
    · have ih := dtrim_arcs hv F N hN m d (i + 1) acc (by omega) (by omega)
      rw [if_neg (by omega)]
      refine Ev.step (fun k => ?_) ih
      rw [dag_Trim.l1, if_pos (by omega), if_pos (by omega), if_pos (by omega), if_pos (by omega), if_pos (by omega), if_pos (by omega), if_pos (by omega), if_neg e0, hw]
theorem dtrim_loop {a : Int} {l : List S69} (hv : VG a l) (is : List Bool) (left : List Int) (his : (is.length : Int) = a) (hle : (left.length : Int) = a) : ∀ (d n : Nat) (F N : List Int), (n : Int) + d = a → F.length ≤ n → (N.length : Int) = a →
    Ev (fun k => dag_Trim.l0 k is left F N a n a l) (((tl is left d n F N).1.length : Int), ta (tl is left d n F N).2 l, (tl is left d n F N).1, 0)
  | 0, n, F, N, h, hF, hN => by
    have := dtrim_arcs hv F N hN F.length l.length 0 [] (by omega) (by simp)
    rw [tl]
    refine Ev.step (fun k => by rw [dag_Trim.l0, if_neg (by omega)]) ?_
    simpa using this
  | d + 1, n, F, N, h, hF, hN => by
    have hhi := hv.hi
    have hw : wrap64 ((n : Int) + 1) = ((n + 1 : Nat) : Int) := by rw [w64_in _ (by omega)]; omega
    rw [tl]
    by_cases e : us is left n = true
    · have e2 : rdOf false is n = true ∧ rd left n > 0 := by simpa [us] using e
      have ih := dtrim_loop hv is left his hle d (n + 1) (F ++ [(n : Int)]) ((N.set (n : Int).toNat (-1)).set (n : Int).toNat F.length) (by omega) (by simp; omega) (by simpa using hN)
      rw [if_pos e]
      refine Ev.step (fun k => ?_) ih
      rw [dag_Trim.l0, if_pos (by omega), if_pos (by omega), if_pos (by omega), Option.bind_some, if_pos (by omega), if_pos e2.1, if_pos (by omega), if_pos e2.2, if_pos (by omega), hw]
    · have ih := dtrim_loop hv is left his hle d (n + 1) F (N.set (n : Int).toNat (-1)) (by omega) (by omega) (by simpa using hN)
      rw [if_neg e]
      refine Ev.step (fun k => ?_) ih
      rw [dag_Trim.l0, if_pos (by omega), if_pos (by omega), if_pos (by omega), Option.bind_some, if_pos (by omega), hw]
      by_cases e1 : rdOf false is n = true
      · rw [if_pos e1, if_pos (by omega), if_neg (fun h2 => e (by simp [us, e1]; exact h2))]
      · rw [if_neg e1]
theorem dtrim_ev (a : Int) (l : List S69) : Ev (fun k => dag_Trim.f k a l) (trim a l) := by
  refine Ev.bind (valid_ev a l) ?_
  unfold trim
  by_cases h : valid a l = 0
  · have hv := (valid_VG a l).1 h
    have hlo := hv.lo
    have hhi := hv.hi
    have hwl := ways_length a l
    have hrl := reach_length a l
    rw [if_pos h]
    refine ev_pos h (Ev.bind (dreach_ev hv) (Ev.bind (dways_ev hv) (ev_pos (by omega) (ev_ite (fun _ => Ev.now _) (fun _ => ev_pos (by omega) (ev_pos (by omega) ?_))))))
    exact dtrim_loop hv (reach a l) (ways a l) (by omega) (by omega) a.toNat 0 [] (List.replicate a.toNat 0) (by omega) (by simp) (by simp; omega)
  · rw [if_neg h]; exact ev_neg h (Ev.now _)
/-! Useful nodes and their new numbers. -/
def cu (u : Int → Bool) : Nat → Nat
  | 0 => 0
  | n + 1 => cu u n + (if u n = true then 1 else 0)
theorem cu_mono (u : Int → Bool) (m : Nat) : ∀ d, cu u m ≤ cu u (m + d)
  | 0 => Nat.le_refl _
  | d + 1 => by have := cu_mono u m d; rw [← Nat.add_assoc, cu]; omega
theorem cu_lt (u : Int → Bool) {m n : Nat} (h : u m = true) (hmn : m < n) : cu u m < cu u n := by
  have h1 := cu_mono u (m + 1) (n - (m + 1))
  rw [show m + 1 + (n - (m + 1)) = n by omega, cu, if_pos h] at h1
  omega
theorem cu_onto (u : Int → Bool) : ∀ (n m : Nat), m < cu u n → ∃ t, t < n ∧ u t = true ∧ cu u t = m
  | 0, m, h => by simp [cu] at h
  | n + 1, m, h => by
    by_cases h1 : m < cu u n
    · obtain ⟨t, h2, h3⟩ := cu_onto u n m h1
      exact ⟨t, by omega, h3⟩
    · rw [cu] at h
      by_cases hu : u n = true
      · rw [if_pos hu] at h
        exact ⟨n, by omega, hu, by omega⟩
      · rw [if_neg hu] at h; omega
theorem cu_all (u : Int → Bool) : ∀ n : Nat, (∀ t : Nat, t < n → u t = true) → cu u n = n
  | 0, _ => rfl
  | n + 1, h => by rw [cu, cu_all u n (fun t ht => h t (by omega)), if_pos (h n (by omega))]
theorem tl_spec (is : List Bool) (left : List Int) (a : Int) : ∀ (d n : Nat) (F N : List Int), (n : Int) + d = a → F.length = cu (us is left) n → (N.length : Int) = a → (∀ t : Nat, t < n → rd N t = if us is left t = true then (cu (us is left) t : Int) else -1) →
    (tl is left d n F N).1.length = cu (us is left) (n + d) ∧ ∀ t : Nat, t < n + d → rd (tl is left d n F N).2 t = if us is left t = true then (cu (us is left) t : Int) else -1
  | 0, n, F, N, h, hF, hN, ht => ⟨hF, ht⟩
  | d + 1, n, F, N, h, hF, hN, ht => by
    rw [tl, show n + (d + 1) = n + 1 + d by omega]
    by_cases e : us is left n = true
    · rw [if_pos e]
      refine tl_spec is left a d (n + 1) (F ++ [(n : Int)]) _ (by omega) (by rw [List.length_append, cu, if_pos e, hF]; rfl) (by simpa using hN) (fun t htn => ?_)
      rw [rd_set _ _ _ _ (by omega) (by simp; omega) (by omega), rd_set _ _ _ _ (by omega) (by omega) (by omega)]
      by_cases et : (n : Int) = t
      · have et' : n = t := by omega
        subst et'
        rw [if_pos rfl, if_pos e, hF]
      · rw [if_neg et, if_neg et]; exact ht t (by omega)
    · rw [if_neg e]
      refine tl_spec is left a d (n + 1) F _ (by omega) (by rw [cu, if_neg e, hF, Nat.add_zero]) (by simpa using hN) (fun t htn => ?_)
      rw [rd_set _ _ _ _ (by omega) (by omega) (by omega)]
      by_cases et : (n : Int) = t
      · have et' : n = t := by omega
        subst et'
        rw [if_pos rfl, if_neg e]
      · rw [if_neg et]; exact ht t (by omega)
theorem tr_spec {a : Int} (h0 : 1 ≤ a) (l : List S69) : (tr a l).1.length = cu (us (reach a l) (ways a l)) a.toNat ∧ ∀ t : Nat, (t : Int) < a → rd (tr a l).2 t = if us (reach a l) (ways a l) t = true then (cu (us (reach a l) (ways a l)) t : Int) else -1 := by
  have := tl_spec (reach a l) (ways a l) a a.toNat 0 [] (List.replicate a.toNat 0) (by omega) rfl (by simp; omega) (fun t ht => by omega)
  rw [Nat.zero_add] at this
  exact ⟨this.1, fun t ht => this.2 t (by omega)⟩
theorem Rch.trans {l : List S69} {t n m : Int} (h : Rch l m n) (k : Rch l t m) : Rch l t n := by
  induction h with
  | refl => exact k
  | cons x hx _ ih => exact .cons x hx ih
theorem us_iff {a : Int} {l : List S69} (hv : VG a l) {n : Int} (h0 : 0 ≤ n) (h1 : n < a) : us (reach a l) (ways a l) n = true ↔ Rch l n 0 ∧ Rch l (a - 1) n := by
  unfold us
  rw [Bool.and_eq_true, decide_eq_true_eq, reach_iff hv h0]
  exact and_congr_right fun _ => ways_iff hv h0 h1
/-- What Trim returns stays as it is under Trim. -/
theorem trim_two {a : Int} {l : List S69} (h : (trim a l).2.2.2 = 0) : ∃ F, trim (trim a l).1 (trim a l).2.1 = ((trim a l).1, (trim a l).2.1, F, 0) ∧ (F.length : Int) = (trim a l).1 := by
  have hval : valid a l = 0 := by
    by_cases hv : valid a l = 0
    · exact hv
    · unfold trim at h; rw [if_neg hv] at h; exact absurd h hv
  have hv := (valid_VG a l).1 hval
  have hlo := hv.lo
  have hhi := hv.hi
  have hw0 : ¬ rd (ways a l) 0 = 0 := by
    intro hw
    unfold trim at h; rw [if_pos hval, if_pos hw] at h; simp at h
  have hR : Rch l (a - 1) 0 := (ways_iff hv (by omega) (by omega)).1 (by have := (ways_bd a l 0).1; omega)
  obtain ⟨hF, hN⟩ := tr_spec hlo l
  have e1 : (trim a l).1 = ((tr a l).1.length : Int) := by unfold trim; rw [if_pos hval, if_neg hw0]
  have e2 : (trim a l).2.1 = ta (tr a l).2 l := by unfold trim; rw [if_pos hval, if_neg hw0]
  rw [e1, e2]
  generalize hu : us (reach a l) (ways a l) = u at hF hN
  have ui : ∀ n : Nat, (n : Int) < a → (u n = true ↔ Rch l n 0 ∧ Rch l (a - 1) n) := fun n hn => by rw [← hu]; exact us_iff hv (by omega) hn
  have u0 : u (0 : Nat) = true := (ui 0 (by omega)).2 ⟨.refl, hR⟩
  have ue : u (a - 1).toNat = true := (ui _ (by omega)).2 ⟨by rw [show (((a - 1).toNat : Nat) : Int) = a - 1 by omega]; exact hR, by rw [show (((a - 1).toNat : Nat) : Int) = a - 1 by omega]; exact .refl⟩
  have hpos : cu u 0 < cu u a.toNat := cu_lt u u0 (by omega)
  have hNu : ∀ n : Int, 0 ≤ n → n < a → Rch l n 0 → Rch l (a - 1) n → rd (tr a l).2 n = cu u n.toNat := by
    intro n h0 h1 h2 h3
    have := hN n.toNat (by omega)
    rw [show ((n.toNat : Nat) : Int) = n by omega, if_pos (by have := (ui n.toNat (by omega)).2; rw [show ((n.toNat : Nat) : Int) = n by omega] at this; exact this ⟨h2, h3⟩)] at this
    exact this
  have hNr : ∀ n : Int, 0 ≤ n → n < a → rd (tr a l).2 n ≥ 0 → (Rch l n 0 ∧ Rch l (a - 1) n) := by
    intro n h0 h1 h2
    have := hN n.toNat (by omega)
    rw [show ((n.toNat : Nat) : Int) = n by omega] at this
    by_cases hun : u n = true
    · have h3 := (ui n.toNat (by omega)).1
      rw [show ((n.toNat : Nat) : Int) = n by omega] at h3
      exact h3 hun
    · rw [if_neg hun] at this; omega
  have hlast : cu u (a - 1).toNat + 1 = cu u a.toNat := by
    have e : a.toNat = (a - 1).toNat + 1 := by omega
    rw [e, cu, if_pos ue]
  -- the trimmed graph has no error
  have hv' : VG ((tr a l).1.length : Int) (ta (tr a l).2 l) := by
    have hca : cu u a.toNat ≤ a.toNat := by
      have : ∀ n, cu u n ≤ n := fun n => by induction n with
        | zero => simp [cu]
        | succ n ih => rw [cu]; split <;> omega
      exact this _
    refine ⟨by omega, by omega, by have := ta_length (tr a l).2 l; have := hv.len; omega, fun y hy => ?_⟩
    obtain ⟨x, hx, h1, h2, rfl⟩ := (ta_mem _ _ _).1 hy
    have hxa := hv.arc x hx
    have k0 := hNr x.f0 (by omega) (by omega) h1
    have k1 := hNr x.f1 (by omega) (by omega) h2
    have n0 := hNu x.f0 (by omega) (by omega) k0.1 k0.2
    have n1 := hNu x.f1 (by omega) (by omega) k1.1 k1.2
    have m0 := (ui x.f0.toNat (by omega)).2 (by rw [show ((x.f0.toNat : Nat) : Int) = x.f0 by omega]; exact k0)
    have m1 := (ui x.f1.toNat (by omega)).2 (by rw [show ((x.f1.toNat : Nat) : Int) = x.f1 by omega]; exact k1)
    have l0 := cu_lt u m0 (show x.f0.toNat < x.f1.toNat by omega)
    have l1 := cu_lt u m1 (show x.f1.toNat < a.toNat by omega)
    show 0 ≤ rd (tr a l).2 x.f0 ∧ rd (tr a l).2 x.f0 < rd (tr a l).2 x.f1 ∧ rd (tr a l).2 x.f1 < _ ∧ 0 ≤ x.f2 ∧ x.f2 ≤ 1000000
    omega
  -- ways in it
  have arc' : ∀ x, x ∈ l → Rch l x.f0 0 → Rch l (a - 1) x.f1 → tarc (tr a l).2 x ∈ ta (tr a l).2 l := by
    intro x hx k0 k1
    have hxa := hv.arc x hx
    have n0 := hNu x.f0 (by omega) (by omega) k0 (.cons x hx k1)
    have n1 := hNu x.f1 (by omega) (by omega) (k0.snoc x hx rfl) k1
    exact (ta_mem _ _ _).2 ⟨x, hx, by omega, by omega, rfl⟩
  have toEnd : ∀ n, Rch l (a - 1) n → Rch l n 0 → Rch (ta (tr a l).2 l) (rd (tr a l).2 (a - 1)) (rd (tr a l).2 n) := by
    intro n hn
    induction hn with
    | refl => intro _; exact .refl
    | cons x hx hr ih => intro k0; exact .cons (tarc (tr a l).2 x) (arc' x hx k0 hr) (ih (k0.snoc x hx rfl))
  have fromStart : ∀ m n, Rch l m n → Rch l (a - 1) m → Rch l n 0 → Rch (ta (tr a l).2 l) (rd (tr a l).2 n) (rd (tr a l).2 0) → Rch (ta (tr a l).2 l) (rd (tr a l).2 m) (rd (tr a l).2 0) := by
    intro m n hmn hm
    induction hmn with
    | refl => intro _ h; exact h
    | cons x hx hr ih =>
      intro k0 k1
      exact ih (k0.snoc x hx rfl) (k1.snoc (tarc (tr a l).2 x) (arc' x hx k0 (hr.trans hm)) rfl)
  have N0 : rd (tr a l).2 0 = 0 := by have := hNu 0 (by omega) (by omega) .refl hR; rw [this]; rfl
  have Ne : rd (tr a l).2 (a - 1) = ((tr a l).1.length : Int) - 1 := by
    have := hNu (a - 1) (by omega) (by omega) hR .refl
    omega
  have all' : ∀ t : Nat, t < (tr a l).1.length → us (reach ((tr a l).1.length : Int) (ta (tr a l).2 l)) (ways ((tr a l).1.length : Int) (ta (tr a l).2 l)) t = true := by
    intro t ht
    obtain ⟨n, hn, hun, hcn⟩ := cu_onto u a.toNat t (by omega)
    have k := (ui n (by omega)).1 hun
    have nn := hNu n (by omega) (by omega) k.1 k.2
    rw [show ((n : Int)).toNat = n by omega, hcn] at nn
    refine (us_iff hv' (by omega) (by omega)).2 ⟨?_, ?_⟩
    · have := fromStart n 0 k.1 k.2 .refl .refl
      rw [nn, N0] at this
      exact this
    · have := toEnd n k.2 k.1
      rw [nn, Ne] at this
      exact this
  obtain ⟨hF', hN'⟩ := tr_spec (show (1 : Int) ≤ ((tr a l).1.length : Int) by omega) (ta (tr a l).2 l)
  rw [cu_all _ _ (fun t ht => all' t (by omega))] at hF'
  have id' : ∀ n : Int, 0 ≤ n → n < ((tr a l).1.length : Int) → rd (tr ((tr a l).1.length : Int) (ta (tr a l).2 l)).2 n = n := by
    intro n h0 h1
    have := hN' n.toNat (by omega)
    rw [show ((n.toNat : Nat) : Int) = n by omega] at this
    rw [this, if_pos (by have := all' n.toNat (by omega); rw [show ((n.toNat : Nat) : Int) = n by omega] at this; exact this), cu_all _ _ (fun t ht => all' t (by omega))]
    omega
  have taid : ∀ s : List S69, (∀ x, x ∈ s → 0 ≤ x.f0 ∧ x.f0 < x.f1 ∧ x.f1 < ((tr a l).1.length : Int)) → ta (tr ((tr a l).1.length : Int) (ta (tr a l).2 l)).2 s = s := by
    intro s hs
    induction s with
    | nil => rfl
    | cons x s ih =>
      have hx := hs x List.mem_cons_self
      have i0 := id' x.f0 (by omega) (by omega)
      have i1 := id' x.f1 (by omega) (by omega)
      rw [ta, if_pos (by rw [i0, i1]; omega), ih (fun y hy => hs y (List.mem_cons_of_mem _ hy))]
      congr 1
      unfold tarc
      rw [i0, i1]
  have hw0' : ¬ rd (ways ((tr a l).1.length : Int) (ta (tr a l).2 l)) 0 = 0 := by
    have h1 := all' 0 (by omega)
    have h2 := ((us_iff hv' (n := ((0 : Nat) : Int)) (by omega) (by omega)).1 h1).2
    have h3 := (ways_iff hv' (n := 0) (by omega) (by omega)).2 h2
    omega
  refine ⟨(tr ((tr a l).1.length : Int) (ta (tr a l).2 l)).1, ?_, by omega⟩
  have hl' : (((tr ((tr a l).1.length : Int) (ta (tr a l).2 l)).1.length : Nat) : Int) = ((tr a l).1.length : Int) := by omega
  unfold trim
  rw [if_pos ((valid_VG _ _).2 hv'), if_neg hw0', hl', taid _ (fun x hx => by have := hv'.arc x hx; omega)]

end Go.Proofs.Ytanbffoilianhaa.Pure
