/- The plain law behind U: about the printed functions alone, no memory and no Go in it. -/
import Derived.Test.YtbagnalcabdlhaaPureT
import Derived.Test.YtbagnalcabdlhaaS20
namespace Go.Proofs.Ytbagnalcabdlhaa.Pure
open Go.RowKit Go.Proofs.YtbagnalcabdlhaaW.PrintWords Go.Proofs.Ytbagnalcabdlhaa.S
set_option linter.unusedVariables false
set_option linter.unusedSimpArgs false
/-! ### shape -/
def lf (L : Nat) (b : S35) : Bool := decide (b.f1 = 0) && decide (b.f2 = 0) && decide (0 ≤ b.f3) && decide (b.f3 < (L : Int))
def nd (b : S35) : Bool := decide (0 ≤ b.f0) && decide (b.f0 < 24) && decide (b.f3 = 0)
/-- Marks nodes; none if one is out of place, or marked already. -/
def mrk (n i : Nat) : List Int → List Bool → Option (List Bool)
  | [], M => some M
  | k :: ks, M => if (i : Int) < k ∧ k < (n : Int) ∧ rdOf false M k = false then mrk n i ks (M.set k.toNat true) else none
def shp (L n : Nat) : List S35 → Nat → List Bool → Option (List Bool)
  | [], _, M => some M
  | b :: bs, i, M => if b.f0 = -1 then (if lf L b = true then shp L n bs (i + 1) M else none) else if nd b = true then (mrk n i [b.f1, b.f2] M).bind (shp L n bs (i + 1)) else none
theorem mrk_len (n i : Nat) : ∀ (ks : List Int) (M M' : List Bool), mrk n i ks M = some M' → M'.length = M.length
  | [], M, M', h => by simp only [mrk, Option.some.injEq] at h; rw [h]
  | k :: ks, M, M', h => by
    rw [mrk] at h
    split at h
    · rw [mrk_len n i ks _ M' h, List.length_set]
    · cases h
/-- The answer where the marks end. -/
def fin : Option (List Bool) → Bool
  | none => false
  | some M => (M.drop 1).all id
theorem rdN_at (l : List S35) (i : Nat) (hi : i < l.length) : l.drop i = rd_T35 l i :: l.drop (i + 1) := getD_drop l i z35 hi
theorem bidx_loop (M : List Bool) (hl : (M.length : Int) ≤ 9223372036854775807) : ∀ (d i : Nat), i + d = M.length → ∃ q : Int, Ev (fun k => slices_Index_bool_bool.l0 k M false M.length i) q ∧ decide (q ≥ 0) = !(M.drop i).all id
  | 0, i, h => by
    refine ⟨-1, ?_, by rw [List.drop_eq_nil_of_le (by omega)]; rfl⟩
    refine Ev.step (fun k => by rw [slices_Index_bool_bool.l0, if_neg (by omega)]) ?_
    exact Ev.now _
  | d + 1, i, h => by
    have hi : i < M.length := by omega
    have hw := wrap_succ i M.length hi hl
    obtain ⟨q, hq, hq2⟩ := bidx_loop M hl d (i + 1) (by omega)
    have hd : M.drop i = rdOf false M (i : Int) :: M.drop (i + 1) := getD_drop M i false hi
    rw [hd, List.all_cons]
    cases e : rdOf false M (i : Int)
    · refine ⟨i, ?_, by simp⟩
      refine Ev.step (fun k => by rw [slices_Index_bool_bool.l0, if_pos (by omega), if_pos (by omega), if_pos (by omega), e]) ?_
      refine ev_pos rfl ?_
      exact Ev.now _
    · refine ⟨q, ?_, by rw [hq2]; simp⟩
      refine Ev.step (fun k => by rw [slices_Index_bool_bool.l0, if_pos (by omega), if_pos (by omega), if_pos (by omega), e, hw]) ?_
      refine ev_neg (by decide) ?_
      exact hq
theorem inner_loop (l : List S61) (N : List S35) (hn : N.length ≤ 2000) (i : Nat) (ks : List Int) (hk : ks.length ≤ 2) (R : List Bool → Bool)
    (hR : ∀ M, M.length = N.length → Ev (fun k => solve_shape.l0 k l N.length M N N.length (wrap64 ((i : Int) + 1))) (R M)) :
    ∀ (d j : Nat) (M : List Bool), j + d = ks.length → M.length = N.length →
    Ev (fun k => solve_shape.l1 k l N.length M i N N.length i ks ks.length j) (match mrk N.length i (ks.drop j) M with | none => false | some M' => R M')
  | 0, j, M, h, hM => by
    rw [List.drop_eq_nil_of_le (by omega)]
    refine Ev.step (fun k => by rw [solve_shape.l1, if_neg (by omega)]) ?_
    exact hR M hM
  | d + 1, j, M, h, hM => by
    have hj : j < ks.length := by omega
    have hw := wrap_succ j ks.length hj (by omega)
    rw [rd_at ks j hj, mrk]
    refine Ev.step (fun k => by rw [solve_shape.l1, if_pos (by omega), if_pos (by omega), if_pos (by omega)]) ?_
    by_cases h1 : rd ks j ≤ (i : Int)
    · rw [if_neg (by omega)]
      refine ev_pos h1 ?_
      exact Ev.now _
    refine ev_neg h1 ?_
    by_cases h2 : rd ks j ≥ (N.length : Int)
    · rw [if_neg (by omega)]
      refine ev_pos h2 ?_
      exact Ev.now _
    refine ev_neg h2 ?_
    refine ev_pos (by omega) ?_
    refine ev_pos (by omega) ?_
    cases h3 : rdOf false M (rd ks j)
    · rw [if_pos ⟨by omega, by omega, rfl⟩]
      refine ev_neg (by decide) ?_
      rw [hw]
      exact inner_loop l N hn i ks hk R hR d (j + 1) _ (by omega) (by rw [List.length_set]; exact hM)
    · rw [if_neg (by rintro ⟨_, _, h⟩; cases h)]
      refine ev_pos rfl ?_
      exact Ev.now _
theorem shape_loop (l : List S61) (hL : l.length ≤ 1000) (N : List S35) (hn : N.length ≤ 2000) (h0 : 1 ≤ N.length) : ∀ (d i : Nat) (M : List Bool), i + d = N.length → M.length = N.length →
    Ev (fun k => solve_shape.l0 k l N.length M N N.length i) (fin (shp l.length N.length (N.drop i) i M))
  | 0, i, M, h, hM => by
    rw [List.drop_eq_nil_of_le (by omega)]
    refine Ev.step (fun k => by rw [solve_shape.l0, if_neg (by omega)]) ?_
    refine ev_pos (by omega) ?_
    obtain ⟨q, hq, hq2⟩ := bidx_loop (M.drop 1) (by rw [List.length_drop]; omega) (M.drop 1).length 0 (by omega)
    refine Ev.bind (show Ev (fun k => slices_Contains_bool_bool.f k (M.drop 1) false) (decide (q ≥ 0)) from Ev.bind hq (Ev.now _)) ?_
    rw [hq2, List.drop_zero, Bool.not_not]
    exact Ev.now _
  | d + 1, i, M, h, hM => by
    have hi : i < N.length := by omega
    have hw := wrap_succ i N.length hi (by omega)
    have ih := fun M' hM' => shape_loop l hL N hn h0 d (i + 1) M' (by omega) hM'
    have hk : ∀ x0 x1 x2 x3 : Int, ∀ bad : Bool, Ev (fun k => solve_shape.j2 k l N.length M i N N.length i bad x0 x1 x2 x3) (if bad = true then false else match mrk N.length i [x1, x2] M with | none => false | some M' => fin (shp l.length N.length (N.drop (i + 1)) (i + 1) M')) := fun x0 x1 x2 x3 bad => by
      refine Ev.step (fun k => by rw [solve_shape.j2]) ?_
      cases bad
      · refine ev_neg (by decide) ?_
        rw [if_neg (by decide)]
        exact inner_loop l N hn i [x1, x2] (by simp) _ (fun M' hM' => by rw [hw]; exact ih M' hM') 2 0 M rfl hM
      · refine ev_pos rfl ?_
        exact Ev.now _
    rw [rdN_at N i hi, shp]
    refine Ev.step (fun k => by rw [solve_shape.l0, if_pos (by omega), if_pos (by omega), if_pos (by omega)]) ?_
    by_cases c0 : (rd_T35 N i).f0 = -1
    · rw [if_pos c0]
      refine ev_pos c0 ?_
      unfold lf
      by_cases c1 : (rd_T35 N i).f1 = 0
      · refine ev_pos c1 ?_
        by_cases c2 : (rd_T35 N i).f2 = 0
        · refine ev_pos c2 ?_
          by_cases c3 : (rd_T35 N i).f3 < 0
          · refine ev_pos c3 ?_
            rw [if_neg (by simp; omega)]
            exact Ev.now _
          · refine ev_neg c3 ?_
            by_cases c4 : (rd_T35 N i).f3 ≥ (l.length : Int)
            · refine ev_pos c4 ?_
              rw [if_neg (by simp; omega)]
              exact Ev.now _
            · refine ev_neg c4 ?_
              rw [if_pos (by simp; omega), hw]
              exact ih M hM
        · refine ev_neg c2 ?_
          rw [if_neg (by simp; omega)]
          exact Ev.now _
      · refine ev_neg c1 ?_
        rw [if_neg (by simp; omega)]
        exact Ev.now _
    · rw [if_neg c0]
      refine ev_neg c0 ?_
      have hfin : ∀ o : Option (List Bool), fin (o.bind (shp l.length N.length (N.drop (i + 1)) (i + 1))) = match o with | none => false | some M' => fin (shp l.length N.length (N.drop (i + 1)) (i + 1) M') := fun o => by cases o <;> rfl
      unfold nd
      by_cases c1 : (rd_T35 N i).f0 < 0
      · refine ev_pos c1 ?_
        rw [if_neg (by simp; omega)]
        exact hk _ _ _ _ true
      · refine ev_neg c1 ?_
        by_cases c2 : (rd_T35 N i).f0 ≥ 24
        · refine ev_pos c2 ?_
          rw [if_neg (by simp; omega)]
          exact hk _ _ _ _ true
        · refine ev_neg c2 ?_
          by_cases c3 : (rd_T35 N i).f3 = 0
          · rw [if_pos (by simp; omega), hfin]
            have := hk (rd_T35 N i).f0 (rd_T35 N i).f1 (rd_T35 N i).f2 (rd_T35 N i).f3 ((rd_T35 N i).f3 != 0)
            rw [show ((rd_T35 N i).f3 != 0) = false by simp [c3]] at this ⊢
            exact this
          · rw [if_neg (by simp; omega)]
            have := hk (rd_T35 N i).f0 (rd_T35 N i).f1 (rd_T35 N i).f2 (rd_T35 N i).f3 ((rd_T35 N i).f3 != 0)
            rw [show ((rd_T35 N i).f3 != 0) = true by simp [c3]] at this ⊢
            exact this
def shpB (L : Nat) (N : List S35) : Bool := decide (1 ≤ N.length) && decide (N.length ≤ 2000) && fin (shp L N.length N 0 (List.replicate N.length false))
theorem shape_ev (l : List S61) (hL : l.length ≤ 1000) (N : List S35) : Ev (fun k => solve_shape.f k l N) (shpB l.length N) := by
  have hj : ∀ b, (b = false → 1 ≤ N.length ∧ N.length ≤ 2000) → Ev (fun k => solve_shape.j0 k l N.length b N) (!b && fin (shp l.length N.length N 0 (List.replicate N.length false))) := fun b hb => by
    refine Ev.step (fun k => by rw [solve_shape.j0]) ?_
    cases b
    · have h := hb rfl
      refine ev_neg (by decide) ?_
      refine ev_pos (by omega) ?_
      refine ev_pos (by omega) ?_
      rw [Int.toNat_natCast]
      exact shape_loop l hL N h.2 h.1 N.length 0 _ (by omega) (by simp)
    · refine ev_pos rfl ?_
      exact Ev.now _
  unfold solve_shape.f shpB
  by_cases h0 : (N.length : Int) = 0
  · refine ev_pos h0 ?_
    refine ev_eq (hj true (by simp)) ?_
    rw [decide_eq_false (p := 1 ≤ N.length) (by omega)]
    rfl
  · refine ev_neg h0 ?_
    refine ev_eq (hj _ (fun e => by simp at e; omega)) ?_
    rw [decide_eq_true (p := 1 ≤ N.length) (by omega), Bool.true_and]
    congr 1
    rw [Bool.eq_iff_iff]; simp; omega
/-! ### right -/
/-- The nodes below a node, in order; none if one of them is not right with its choices. -/
def vis (l : List S61) (N : List S35) : Nat → Nat → Nat → Nat → Option (List Nat)
  | 0, _, _, _ => none
  | k + 1, p, C, V => if p < N.length then (if (rd_T35 N p).f0 = -1 then (if lf l.length (rd_T35 N p) = true ∧ fl (rd_T61 l (rd_T35 N p).f3) C V = true then some [p] else none)
    else if nd (rd_T35 N p) = true ∧ (p : Int) < (rd_T35 N p).f1 ∧ (p : Int) < (rd_T35 N p).f2 ∧ C.testBit (rd_T35 N p).f0.toNat = false then
      (vis l N k (rd_T35 N p).f1.toNat (wC C (rd_T35 N p).f0) (wV V (rd_T35 N p).f0 false)).bind fun a => (vis l N k (rd_T35 N p).f2.toNat (wC C (rd_T35 N p).f0) (wV V (rd_T35 N p).f0 true)).bind fun b => some (p :: (a ++ b)) else none) else none
theorem bit_of (C : Nat) (hC : C < 2 ^ 24) (v : Int) (h0 : 0 ≤ v) (h1 : v < 24) : Go.bits .and .i64 (shr .i64 (C : Int) v) 1 = (((C.testBit v.toNat).toNat : Nat) : Int) := by
  have e1 : shr .i64 (C : Int) v = ((C / 2 ^ v.toNat : Nat) : Int) := by
    obtain ⟨n, rfl⟩ : ∃ n : Nat, v = n := ⟨v.toNat, nat_of h0⟩
    unfold shr
    rw [show IntKind.i64.bits = 64 from rfl, show min ((n : Int)).toNat 64 = n by omega]
    simp
  rw [e1]
  have hd : C / 2 ^ v.toNat < 2 ^ 62 := Nat.lt_of_le_of_lt (Nat.div_le_self _ _) (p62 hC (by decide))
  have := (bits_nat .i64 62 (by decide) w62 (C / 2 ^ v.toNat) 1 hd (by decide)).1
  rw [Nat.and_one_is_mod, ← Nat.toNat_testBit] at this
  exact this
theorem ov_rd {l : List S61} (h : VS l) {i : Int} (h0 : 0 ≤ i) (h1 : i < (l.length : Int)) : VT (rd_T61 l i).f0 (rd_T61 l i).f1 := by
  have := rdT_mem l i.toNat (by omega)
  rw [← nat_of h0] at this
  exact h.tab _ this
/-- The fields of all nodes are right. -/
def Flds (L : Nat) (N : List S35) : Prop := ∀ i : Nat, i < N.length → ((rd_T35 N i).f0 = -1 → lf L (rd_T35 N i) = true) ∧ ((rd_T35 N i).f0 ≠ -1 → nd (rd_T35 N i) = true ∧ (i : Int) < (rd_T35 N i).f1 ∧ (rd_T35 N i).f1 < (N.length : Int) ∧ (i : Int) < (rd_T35 N i).f2 ∧ (rd_T35 N i).f2 < (N.length : Int))
theorem lf_iff (L : Nat) (b : S35) : lf L b = true ↔ b.f1 = 0 ∧ b.f2 = 0 ∧ 0 ≤ b.f3 ∧ b.f3 < (L : Int) := by unfold lf; simp [and_assoc]
theorem nd_iff (b : S35) : nd b = true ↔ 0 ≤ b.f0 ∧ b.f0 < 24 ∧ b.f3 = 0 := by unfold nd; simp [and_assoc]
theorem right_ev {l : List S61} (h : VS l) {N : List S35} (hF : Flds l.length N) : ∀ (d p C V : Nat), p < N.length → N.length ≤ p + d → C < 2 ^ 24 → V < 2 ^ 24 →
    Ev (fun k => solve_right.f k l N p (C : Int) (V : Int)) (vis l N d p C V).isSome
  | 0, p, C, V, hp, hd, hC, hV => by omega
  | d + 1, p, C, V, hp, hd, hC, hV => by
    have hf := hF p hp
    rw [vis, if_pos hp]
    refine Ev.step (fun k => by rw [solve_right.f, if_pos (by omega), if_pos (by omega)]) ?_
    by_cases c0 : (rd_T35 N p).f0 = -1
    · have h1 := (lf_iff _ _).1 (hf.1 c0)
      rw [if_pos c0]
      refine ev_pos (by omega) ?_
      refine ev_pos h1.2.2.1 ?_
      refine ev_pos h1.2.2.2 ?_
      refine Ev.bind (fails_ev (ov_rd h h1.2.2.1 h1.2.2.2) C V hC hV) ?_
      refine ev_eq (Ev.now _) ?_
      by_cases e : fl (rd_T61 l (rd_T35 N p).f3) C V = true
      · rw [if_pos ⟨hf.1 c0, e⟩, e]; rfl
      · rw [if_neg (fun e' => e e'.2), (Bool.not_eq_true _).mp e]; rfl
    · obtain ⟨h1, h2, h3, h4, h5⟩ := hf.2 c0
      have h1' := (nd_iff _).1 h1
      have wl := wC_lt hC h1'.1 h1'.2.1
      have wv := fun b => wV_lt b hV h1'.1 h1'.2.1
      rw [if_neg c0]
      refine ev_neg (by omega) ?_
      refine ev_pos h1'.1 ?_
      rw [bit_of C hC _ h1'.1 h1'.2.1]
      cases e : C.testBit (rd_T35 N p).f0.toNat
      · rw [if_pos ⟨h1, h2, h4, rfl⟩]
        refine ev_pos rfl ?_
        have w := fun b => with_eq b hC hV h1'.1 h1'.2.1
        refine Ev.bind (show Ev (fun _ => solve_choices_with.f (C : Int) (V : Int) (rd_T35 N p).f0 0) _ from (w false) ▸ Ev.now _) ?_
        have i1 := right_ev h hF d (rd_T35 N p).f1.toNat _ _ (by omega) (by omega) wl (wv false)
        rw [← nat_of (by omega : 0 ≤ (rd_T35 N p).f1)] at i1
        refine Ev.bind i1 ?_
        cases v1 : vis l N d (rd_T35 N p).f1.toNat (wC C (rd_T35 N p).f0) (wV V (rd_T35 N p).f0 false) with
        | none =>
          refine ev_neg (by decide) ?_
          exact Ev.now _
        | some a =>
          refine ev_pos rfl ?_
          refine Ev.bind (show Ev (fun _ => solve_choices_with.f (C : Int) (V : Int) (rd_T35 N p).f0 1) _ from (w true) ▸ Ev.now _) ?_
          have i2 := right_ev h hF d (rd_T35 N p).f2.toNat _ _ (by omega) (by omega) wl (wv true)
          rw [← nat_of (by omega : 0 ≤ (rd_T35 N p).f2)] at i2
          refine Ev.bind i2 ?_
          refine ev_eq (Ev.now _) ?_
          cases v2 : vis l N d (rd_T35 N p).f2.toNat (wC C (rd_T35 N p).f0) (wV V (rd_T35 N p).f0 true) <;> simp [v2]
      · rw [if_neg (by rintro ⟨_, _, _, h⟩; cases h)]
        refine ev_neg (by decide) ?_
        exact Ev.now _
theorem mrk_bounds (n i : Nat) : ∀ (ks : List Int) (M M' : List Bool), mrk n i ks M = some M' → ∀ k, k ∈ ks → (i : Int) < k ∧ k < (n : Int)
  | [], _, _, _ => fun _ hk => by cases hk
  | x :: ks, M, M', h => fun k hk => by
    rw [mrk] at h
    split at h
    · next hc =>
      rcases List.mem_cons.1 hk with rfl | hk
      · exact ⟨hc.1, hc.2.1⟩
      · exact mrk_bounds n i ks _ _ h k hk
    · cases h
theorem shp_flds (L : Nat) (N : List S35) : ∀ (d i : Nat) (M M' : List Bool), i + d = N.length → shp L N.length (N.drop i) i M = some M' → ∀ j : Nat, i ≤ j → j < N.length → ((rd_T35 N j).f0 = -1 → lf L (rd_T35 N j) = true) ∧ ((rd_T35 N j).f0 ≠ -1 → nd (rd_T35 N j) = true ∧ (j : Int) < (rd_T35 N j).f1 ∧ (rd_T35 N j).f1 < (N.length : Int) ∧ (j : Int) < (rd_T35 N j).f2 ∧ (rd_T35 N j).f2 < (N.length : Int))
  | 0, i, M, M', h, hs => fun j h1 h2 => by omega
  | d + 1, i, M, M', h, hs => fun j h1 h2 => by
    have hi : i < N.length := by omega
    rw [rdN_at N i hi, shp] at hs
    by_cases c0 : (rd_T35 N i).f0 = -1
    · rw [if_pos c0] at hs
      by_cases c1 : lf L (rd_T35 N i) = true
      · rw [if_pos c1] at hs
        by_cases e : j = i
        · subst e; exact ⟨fun _ => c1, fun c => absurd c0 c⟩
        · exact shp_flds L N d (i + 1) M M' (by omega) hs j (by omega) h2
      · rw [if_neg c1] at hs; cases hs
    · rw [if_neg c0] at hs
      by_cases c1 : nd (rd_T35 N i) = true
      · rw [if_pos c1] at hs
        cases e2 : mrk N.length i [(rd_T35 N i).f1, (rd_T35 N i).f2] M with
        | none => rw [e2] at hs; cases hs
        | some M1 =>
          rw [e2] at hs
          by_cases e : j = i
          · subst e
            have b := mrk_bounds _ _ _ _ _ e2
            have b1 := b _ (.head _)
            have b2 := b _ (.tail _ (.head _))
            exact ⟨fun c => absurd c c0, fun _ => ⟨c1, b1.1, b1.2, b2.1, b2.2⟩⟩
          · exact shp_flds L N d (i + 1) M1 M' (by omega) hs j (by omega) h2
      · rw [if_neg c1] at hs; cases hs
def chk1 (l : List S61) (N : List S35) : Bool := if sysv l = 0 then shpB l.length N && (vis l N N.length 0 0 0).isSome else false
theorem scheck_ev (l : List S61) (hs : Sm l) (hl : l.length ≤ 1000) (N : List S35) : Ev (fun k => solve_Check.f k l N) (chk1 l N) := by
  refine Ev.bind (svalid_ev l hs hl) ?_
  unfold chk1
  refine ev_ite (fun h => ?_) (fun h => Ev.now _)
  have hv := (sysv_VS l).1 h
  refine Ev.bind (shape_ev l hl N) ?_
  cases e : shpB l.length N
  · refine ev_neg (by decide) ?_
    exact Ev.now _
  · refine ev_pos rfl ?_
    unfold shpB at e
    simp only [Bool.and_eq_true, decide_eq_true_iff] at e
    cases e2 : shp l.length N.length N 0 (List.replicate N.length false) with
    | none => rw [e2] at e; simp [fin] at e
    | some M =>
      have hF : Flds l.length N := fun j hj => shp_flds l.length N N.length 0 _ M (by omega) (by rw [List.drop_zero]; exact e2) j (by omega) hj
      refine Ev.bind (right_ev hv hF N.length 0 0 0 (by omega) (by omega) (by decide) (by decide)) ?_
      rw [Bool.true_and]
      exact Ev.now _
end Go.Proofs.Ytbagnalcabdlhaa.Pure
