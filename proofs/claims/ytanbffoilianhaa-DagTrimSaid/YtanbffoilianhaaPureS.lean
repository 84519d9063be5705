/- The plain law behind S: about the printed functions alone, no memory and no Go in it. -/
import Derived.Test.YtanbffoilianhaaPureB
namespace Go.Proofs.Ytanbffoilianhaa.Pure
open Go.RowKit Go.Proofs.YtanbffoilianhaaW.PrintWords Go.Proofs.Ytanbffoilianhaa.E
set_option linter.unusedVariables false
set_option linter.unusedSimpArgs false
/-! ### What ways and reached nodes mean -/
/-- A way of arcs leads from one node to another one. -/
inductive Rch (l : List S69) (t : Int) : Int → Prop
  | refl : Rch l t t
  | cons (x : S69) : x ∈ l → Rch l t x.f1 → Rch l t x.f0
theorem Rch.snoc {l : List S69} {t n : Int} (h : Rch l t n) : ∀ x, x ∈ l → x.f0 = t → Rch l x.f1 n := by
  induction h with
  | refl => intro x hx e; rw [← e]; exact .cons x hx .refl
  | cons y hy _ ih => intro x hx e; exact .cons y hy (ih x hx e)
/-- What holds at a node, and is handed on along arcs, holds at all nodes that ways lead to. -/
theorem Rch.along {l : List S69} {t n : Int} (h : Rch l t n) (P : Int → Prop) (hs : ∀ x, x ∈ l → P x.f0 → P x.f1) : P n → P t := by
  induction h with
  | refl => exact id
  | cons x hx _ ih => intro hp; exact ih (hs x hx hp)
theorem Rch.head {l : List S69} {t n : Int} (h : Rch l t n) : n = t ∨ ∃ x, x ∈ l ∧ x.f0 = n ∧ Rch l t x.f1 := by
  cases h with
  | refl => exact .inl rfl
  | cons x hx h => exact .inr ⟨x, hx, rfl, h⟩
theorem Rch.ge {a : Int} {l : List S69} (hv : VG a l) {t n : Int} (h : Rch l t n) : n ≤ t := by
  induction h with
  | refl => exact Int.le_refl _
  | cons x hx _ ih => have := hv.arc x hx; omega
def wfold (n : Int) (g : Int → Int) (l : List S69) (c : Int) : Int := l.foldl (fun s x => if x.f0 = n then capV s (g x.f1) else s) c
theorem wfold_congr (n : Int) (g h : Int → Int) : ∀ (l : List S69) (c : Int), (∀ x, x ∈ l → x.f0 = n → g x.f1 = h x.f1) → wfold n g l c = wfold n h l c
  | [], _, _ => rfl
  | x :: l, c, e => by
    have ih := fun c => wfold_congr n g h l c (fun y hy => e y (List.mem_cons_of_mem _ hy))
    unfold wfold at ih ⊢
    simp only [List.foldl_cons]
    by_cases hx : x.f0 = n
    · rw [if_pos hx, if_pos hx, e x List.mem_cons_self hx]; exact ih _
    · rw [if_neg hx, if_neg hx]; exact ih _
theorem wst_at {a : Int} (n : Int) (hn : 0 ≤ n) (hn2 : n < a) : ∀ (l : List S69) (o : List Int), (∀ x, x ∈ l → 0 ≤ x.f0 ∧ x.f0 < x.f1) → (o.length : Int) = a → ∀ t, 0 ≤ t → rd (wst n l o) t = if t = n then wfold n (rd o) l (rd o n) else rd o t
  | [], o, _, _, t, _ => by simp only [wst, wfold, List.foldl_nil]; split <;> simp_all
  | x :: l, o, hl, ho, t, ht => by
    have hx := hl x List.mem_cons_self
    have hl' := fun y hy => hl y (List.mem_cons_of_mem x hy)
    rw [wst_cons]
    by_cases e : x.f0 = n
    · rw [if_pos e, wst_at n hn hn2 l _ hl' (by simpa using ho) t ht]
      have hnn : rd (o.set n.toNat (capV (rd o n) (rd o x.f1))) n = capV (rd o n) (rd o x.f1) := by rw [rd_set _ _ _ _ hn (by omega) hn, if_pos rfl]
      by_cases et : t = n
      · rw [if_pos et, if_pos et, hnn]
        rw [wfold_congr n _ (rd o) l _ (fun y hy ey => by
          have := hl' y hy
          rw [rd_set _ _ _ _ hn (by omega) (by omega), if_neg (by omega)])]
        simp only [wfold, List.foldl_cons, if_pos e]
      · rw [if_neg et, if_neg et, rd_set _ _ _ _ hn (by omega) ht, if_neg (by omega)]
    · rw [if_neg e, wst_at n hn hn2 l o hl' ho t ht]
      by_cases et : t = n
      · rw [if_pos et, if_pos et]; simp only [wfold, List.foldl_cons, if_neg e]
      · rw [if_neg et, if_neg et]
theorem wys_at {a : Int} {l : List S69} (hv : VG a l) : ∀ (m : Nat) (o : List Int), (m : Int) ≤ a → (o.length : Int) = a → ∀ t, 0 ≤ t →
    rd (wys l m o) t = if t < m then wfold t (rd (wys l m o)) l (rd o t) else rd o t
  | 0, o, _, _, t, ht => by rw [wys, if_neg (by omega)]
  | m + 1, o, hm, ho, t, ht => by
    have hal : ∀ x, x ∈ l → 0 ≤ x.f0 ∧ x.f0 < x.f1 := fun x hx => by have := hv.arc x hx; omega
    have ih := wys_at hv m (wst m l o) (by omega) (by rw [wst_length]; exact ho)
    have hw := wst_at (a := a) (m : Int) (by omega) (by omega) l o hal ho
    rw [wys]
    by_cases h1 : t < m
    · rw [ih t ht, if_pos h1, if_pos (by omega), hw t ht, if_neg (by omega)]
    · by_cases h2 : t = m
      · rw [ih t ht, if_neg h1, if_pos (by omega), hw t ht, if_pos h2, h2]
        exact wfold_congr _ _ _ l _ (fun x hx e => by
          have := hal x hx
          rw [ih x.f1 (by omega), if_neg (by omega), hw _ (by omega), if_neg (by omega)])
      · rw [ih t ht, if_neg h1, if_neg (by omega), hw t ht, if_neg h2]
theorem ways_end {a : Int} {l : List S69} (hv : VG a l) : rd (ways a l) (a - 1) = 1 := by
  have h1 := hv.lo
  unfold ways
  rw [wys_at hv _ _ (by omega) (by rw [ways0_length]; omega) _ (by omega), if_neg (by omega)]
  unfold ways0
  rw [rd_set _ _ _ _ (by omega) (by simp; omega) (by omega), if_pos rfl]
theorem ways_rec {a : Int} {l : List S69} (hv : VG a l) (t : Int) (h0 : 0 ≤ t) (h2 : t < a - 1) : rd (ways a l) t = wfold t (rd (ways a l)) l 0 := by
  have h1 := hv.lo
  have e : rd (ways0 a) t = 0 := by
    unfold ways0
    rw [rd_set _ _ _ _ (by omega) (by simp; omega) (by omega), if_neg (by omega)]
    unfold rd
    simp only [List.getD, List.getElem?_replicate]
    split <;> rfl
  have := wys_at hv (a - 1).toNat (ways0 a) (by omega) (by rw [ways0_length]; omega) t h0
  rw [if_pos (by omega), e] at this
  exact this
theorem wfold_pos (n : Int) (g : Int → Int) (hg : ∀ i, 0 ≤ g i ∧ g i ≤ cap) : ∀ (l : List S69) (c : Int), 0 ≤ c → c ≤ cap → (0 ≤ wfold n g l c ∧ wfold n g l c ≤ cap) ∧ (0 < wfold n g l c ↔ 0 < c ∨ ∃ x, x ∈ l ∧ x.f0 = n ∧ 0 < g x.f1)
  | [], c, h0, h1 => by simp [wfold]; omega
  | x :: l, c, h0, h1 => by
    by_cases e : x.f0 = n
    · have hc := capV_bd c (g x.f1) h0 h1 (hg _).1 (hg _).2
      have ih := wfold_pos n g hg l (capV c (g x.f1)) hc.1 hc.2
      have e2 : wfold n g (x :: l) c = wfold n g l (capV c (g x.f1)) := by simp only [wfold, List.foldl_cons, if_pos e]
      rw [e2]
      refine ⟨ih.1, ih.2.trans ?_⟩
      have hm := capV_min c (g x.f1) h0 h1 (hg _).1 (hg _).2
      have hgx := hg x.f1
      constructor
      · rintro (h | ⟨y, hy, h⟩)
        · by_cases hc0 : 0 < c
          · exact .inl hc0
          · refine .inr ⟨x, List.mem_cons_self, e, ?_⟩
            rw [hm] at h; split at h <;> omega
        · exact .inr ⟨y, List.mem_cons_of_mem _ hy, h⟩
      · rintro (h | ⟨y, hy, hy2, h⟩)
        · left; rw [hm]; unfold cap at *; split <;> omega
        · rcases List.mem_cons.1 hy with rfl | hy
          · left; rw [hm]; unfold cap at *; split <;> omega
          · exact .inr ⟨y, hy, hy2, h⟩
    · have ih := wfold_pos n g hg l c h0 h1
      have e2 : wfold n g (x :: l) c = wfold n g l c := by simp only [wfold, List.foldl_cons, if_neg e]
      rw [e2]
      refine ⟨ih.1, ih.2.trans ⟨?_, ?_⟩⟩
      · rintro (h | ⟨y, hy, h⟩)
        · exact .inl h
        · exact .inr ⟨y, List.mem_cons_of_mem _ hy, h⟩
      · rintro (h | ⟨y, hy, hy2, h⟩)
        · exact .inl h
        · rcases List.mem_cons.1 hy with rfl | hy
          · exact absurd hy2 e
          · exact .inr ⟨y, hy, hy2, h⟩
theorem ways_pos {a : Int} {l : List S69} (hv : VG a l) : ∀ (d : Nat) (n : Int), 0 ≤ n → n < a → a - n ≤ d → (0 < rd (ways a l) n ↔ Rch l (a - 1) n)
  | 0, n, _, h1, h2 => by omega
  | d + 1, n, h0, h1, h2 => by
    by_cases e : n = a - 1
    · rw [e, ways_end hv]; exact ⟨fun _ => .refl, fun _ => by omega⟩
    · rw [ways_rec hv n h0 (by omega), (wfold_pos n _ (ways_bd a l) l 0 (by omega) (by unfold cap; omega)).2]
      constructor
      · rintro (h | ⟨x, hx, rfl, hp⟩)
        · omega
        · have := hv.arc x hx
          exact .cons x hx ((ways_pos hv d x.f1 (by omega) (by omega) (by omega)).1 hp)
      · intro h
        rcases h.head with h | ⟨x, hx, hx2, hr⟩
        · exact absurd h e
        · have := hv.arc x hx
          exact .inr ⟨x, hx, hx2, (ways_pos hv d x.f1 (by omega) (by omega) (by omega)).2 hr⟩
theorem ways_iff {a : Int} {l : List S69} (hv : VG a l) {n : Int} (h0 : 0 ≤ n) (h1 : n < a) : 0 < rd (ways a l) n ↔ Rch l (a - 1) n :=
  ways_pos hv (a - n).toNat n h0 h1 (by omega)

/-! Reached nodes. -/
theorem rdb_set (o : List Bool) (m n : Int) (v : Bool) (hm : 0 ≤ m) (hl : m < (o.length : Int)) (hn : 0 ≤ n) : rdOf false (o.set m.toNat v) n = if m = n then v else rdOf false o n := by
  unfold rdOf
  by_cases h : m = n
  · subst h; rw [if_pos rfl, List.getD, List.getElem?_set_self (by omega)]; rfl
  · rw [if_neg h]; simp [List.getD, List.getElem?_set_ne (show m.toNat ≠ n.toNat by omega)]
def rst (n : Int) (l : List S69) (o : List Bool) : List Bool := l.foldl (fun o x => if x.f0 = n then (if rdOf false o n = true then o.set x.f1.toNat true else o) else o) o
theorem rst_cons (n : Int) (x : S69) (l : List S69) (o : List Bool) : rst n (x :: l) o = rst n l (if x.f0 = n then (if rdOf false o n = true then o.set x.f1.toNat true else o) else o) := rfl
def rys (l : List S69) : Nat → Int → List Bool → List Bool
  | 0, _, o => o
  | d + 1, n, o => rys l d (n + 1) (rst n l o)
theorem rst_length (n : Int) : ∀ (l : List S69) (o : List Bool), (rst n l o).length = o.length
  | [], _ => rfl
  | x :: l, o => by rw [rst_cons, rst_length n l]; split <;> (try split) <;> simp
theorem rys_length (l : List S69) : ∀ (d : Nat) (n : Int) (o : List Bool), (rys l d n o).length = o.length
  | 0, _, _ => rfl
  | d + 1, n, o => by rw [rys, rys_length l d, rst_length]
theorem rst_at {a : Int} (n : Int) (hn : 0 ≤ n) : ∀ (l : List S69) (o : List Bool), (∀ x, x ∈ l → 0 ≤ x.f0 ∧ x.f0 < x.f1 ∧ x.f1 < a) → (o.length : Int) = a → ∀ t, 0 ≤ t →
    (rdOf false (rst n l o) t = true ↔ rdOf false o t = true ∨ (rdOf false o n = true ∧ ∃ x, x ∈ l ∧ x.f0 = n ∧ x.f1 = t))
  | [], o, _, _, t, _ => by simp [rst]
  | x :: l, o, hl, ho, t, ht => by
    have hx := hl x List.mem_cons_self
    have hl' := fun y hy => hl y (List.mem_cons_of_mem x hy)
    rw [rst_cons]
    by_cases e : x.f0 = n
    · rw [if_pos e]
      by_cases eb : rdOf false o n = true
      · rw [if_pos eb, rst_at n hn l _ hl' (by simpa using ho) t ht, rdb_set o x.f1 t true (by omega) (by omega) ht, rdb_set o x.f1 n true (by omega) (by omega) hn, if_neg (show ¬ x.f1 = n by omega)]
        constructor
        · rintro (h | ⟨h, y, hy, hy2⟩)
          · by_cases et : x.f1 = t
            · exact .inr ⟨eb, x, List.mem_cons_self, e, et⟩
            · rw [if_neg et] at h; exact .inl h
          · exact .inr ⟨h, y, List.mem_cons_of_mem _ hy, hy2⟩
        · rintro (h | ⟨h, y, hy, hy2, hy3⟩)
          · left; split <;> first | rfl | exact h
          · rcases List.mem_cons.1 hy with rfl | hy
            · left; rw [if_pos hy3]
            · exact .inr ⟨h, y, hy, hy2, hy3⟩
      · rw [if_neg eb, rst_at n hn l o hl' ho t ht]
        constructor
        · rintro (h | ⟨h, _⟩)
          · exact .inl h
          · exact absurd h eb
        · rintro (h | ⟨h, _⟩)
          · exact .inl h
          · exact absurd h eb
    · rw [if_neg e, rst_at n hn l o hl' ho t ht]
      constructor
      · rintro (h | ⟨h, y, hy, hy2⟩)
        · exact .inl h
        · exact .inr ⟨h, y, List.mem_cons_of_mem _ hy, hy2⟩
      · rintro (h | ⟨h, y, hy, hy2, hy3⟩)
        · exact .inl h
        · rcases List.mem_cons.1 hy with rfl | hy
          · exact absurd hy2 e
          · exact .inr ⟨h, y, hy, hy2, hy3⟩
theorem rys_spec {a : Int} {l : List S69} (hv : VG a l) : ∀ (d : Nat) (n : Int) (o : List Bool), 0 ≤ n → n + d = a → (o.length : Int) = a → rdOf false o 0 = true →
    (∀ t, 0 ≤ t → rdOf false o t = true → Rch l t 0) → (∀ x, x ∈ l → x.f0 < n → rdOf false o x.f0 = true → rdOf false o x.f1 = true) →
    ∀ t, 0 ≤ t → (rdOf false (rys l d n o) t = true ↔ Rch l t 0)
  | 0, n, o, h0, h1, ho, hz, hs, hc, t, ht => by
    refine ⟨fun h => hs t ht h, fun h => ?_⟩
    exact h.along (fun n => rdOf false o n = true) (fun x hx hp => hc x hx (by have := hv.arc x hx; omega) hp) hz
  | d + 1, n, o, h0, h1, ho, hz, hs, hc, t, ht => by
    have hal : ∀ x, x ∈ l → 0 ≤ x.f0 ∧ x.f0 < x.f1 ∧ x.f1 < a := fun x hx => by have := hv.arc x hx; omega
    have hst := rst_at n h0 l o hal ho
    rw [rys]
    refine rys_spec hv d (n + 1) (rst n l o) (by omega) (by omega) (by rw [rst_length]; exact ho) ((hst 0 (by omega)).2 (.inl hz)) (fun t ht h => ?_) (fun x hx hlt hp => ?_) t ht
    · rcases (hst t ht).1 h with h | ⟨h, x, hx, hx2, hx3⟩
      · exact hs t ht h
      · rw [← hx3]; exact (hs n h0 h).snoc x hx hx2
    · have hxa := hal x hx
      rcases (hst x.f0 (by omega)).1 hp with h | ⟨h, y, hy, hy2, hy3⟩
      · rcases Int.lt_or_le x.f0 n with h2 | h2
        · exact (hst x.f1 (by omega)).2 (.inl (hc x hx h2 h))
        · have e : x.f0 = n := by omega
          exact (hst x.f1 (by omega)).2 (.inr ⟨by rw [← e]; exact h, x, hx, e, rfl⟩)
      · have := hal y hy; omega
def reach0 (a : Int) : List Bool := (List.replicate a.toNat false).set 0 true
def reach (a : Int) (l : List S69) : List Bool := rys l a.toNat 0 (reach0 a)
theorem reach0_length (a : Int) : (reach0 a).length = a.toNat := by simp [reach0]
theorem reach_length (a : Int) (l : List S69) : (reach a l).length = a.toNat := by unfold reach; rw [rys_length, reach0_length]
theorem reach_iff {a : Int} {l : List S69} (hv : VG a l) {t : Int} (ht : 0 ≤ t) : rdOf false (reach a l) t = true ↔ Rch l t 0 := by
  have h1 := hv.lo
  have e : ∀ t, 0 ≤ t → rdOf false (reach0 a) t = if 0 = t then true else false := by
    intro t ht
    have := rdb_set (List.replicate a.toNat false) 0 t true (by omega) (by simp; omega) ht
    unfold reach0
    rw [show (0 : Int).toNat = 0 from rfl] at this
    rw [this]
    congr 1
    unfold rdOf
    simp only [List.getD, List.getElem?_replicate]
    split <;> rfl
  refine rys_spec hv a.toNat 0 (reach0 a) (by omega) (by omega) (by rw [reach0_length]; omega) ?_ (fun t ht h => ?_) (fun x hx hlt _ => ?_) t ht
  · rw [e 0 (by omega)]; rfl
  · rw [e t ht] at h
    by_cases h0 : 0 = t
    · rw [← h0]; exact .refl
    · rw [if_neg h0] at h; exact absurd h (by simp)
  · have := hv.arc x hx; omega
end Go.Proofs.Ytanbffoilianhaa.Pure
