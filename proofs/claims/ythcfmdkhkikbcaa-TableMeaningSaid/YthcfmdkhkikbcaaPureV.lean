/- The plain law behind V: about the printed functions alone, no memory and no Go in it. -/
import Derived.Test.YthcfmdkhkikbcaaPureR
import Derived.Test.YthcfmdkhkikbcaaT3
import Derived.Test.YthcfmdkhkikbcaaT4
namespace Go.Proofs.Ythcfmdkhkikbcaa.Pure
open Go.RowKit Go.Proofs.YthcfmdkhkikbcaaW.PrintWords Go.Proofs.Ythcfmdkhkikbcaa.T
set_option linter.unusedVariables false
set_option linter.unusedSimpArgs false
/-! ### over -/
theorem o_v1_loop {vs : List Int} (hc : Chn 24 none vs) (hl : vs.length ≤ 10) (t0 t1 : List Int) (t : Nat → Bool) (ht : ∀ a : Nat, a < 2 ^ 24 → Ev (fun k => table_vital_1_v1.f k (a : Int) t0 t1) (t a)) (V : List Int) (N : Nat) (hN : N ≤ 1024) : ∀ (d r : Nat) (acc : List Int), r + d = N → acc.length ≤ r →
    Ev (fun k => table_over_table_vital_1.l0 k vs (N : Int) (r : Int) t0 t1 V acc) (V, acc ++ flt (fun r => t (asg vs r)) d r)
  | 0, r, acc, h, ha => Ev.step (f := fun _ => some (V, acc)) (fun k => by rw [table_over_table_vital_1.l0, if_neg (by omega)]) (by simpa [flt] using Ev.now _)
  | d + 1, r, acc, h, ha => by
    have hw : wrap64 ((r : Int) + 1) = ((r + 1 : Nat) : Int) := by rw [w64_in _ (by omega)]; omega
    have hr : r < 2 ^ 60 := Nat.lt_of_le_of_lt (show r ≤ 1024 by omega) (by decide)
    refine Ev.step (fun k => by rw [table_over_table_vital_1.l0, if_pos (by omega)]) (Ev.bind (asg_ev hc (by omega) r hr) (Ev.bind (ht _ (asg_lt hc r)) ?_))
    rw [flt, hw]
    by_cases e : t (asg vs r) = true
    · have ih := o_v1_loop hc hl t0 t1 t ht V N hN d (r + 1) (acc ++ [(r : Int)]) (by omega) (by simp; omega)
      rw [if_pos e]
      rw [List.append_assoc, List.singleton_append] at ih
      exact ev_pos e (ev_pos (by omega) ih)
    · have ih := o_v1_loop hc hl t0 t1 t ht V N hN d (r + 1) acc (by omega) (by omega)
      rw [if_neg e]
      exact ev_neg e ih
theorem o_v1_ev {vs : List Int} (hc : Chn 24 none vs) (hl : vs.length ≤ 10) (t0 t1 : List Int) (t : Nat → Bool) (ht : ∀ a : Nat, a < 2 ^ 24 → Ev (fun k => table_vital_1_v1.f k (a : Int) t0 t1) (t a)) : Ev (fun k => table_over_table_vital_1.f k vs t0 t1) (vs, ovr vs t) := by
  unfold table_over_table_vital_1.f
  rw [clone_eq vs (by omega), shl1 vs.length (by omega)]
  exact o_v1_loop hc hl t0 t1 t ht vs (2 ^ vs.length) (pow10 hl) (2 ^ vs.length) 0 [] (by omega) (by simp)
theorem o_v2_loop {vs : List Int} (hc : Chn 24 none vs) (hl : vs.length ≤ 10) (t0 t1 : List Int) (v : Int) (t : Nat → Bool) (ht : ∀ a : Nat, a < 2 ^ 24 → Ev (fun k => table_vital_2_v1.f k (a : Int) t0 t1 v) (t a)) (V : List Int) (N : Nat) (hN : N ≤ 1024) : ∀ (d r : Nat) (acc : List Int), r + d = N → acc.length ≤ r →
    Ev (fun k => table_over_table_vital_2.l0 k vs (N : Int) (r : Int) t0 t1 v V acc) (V, acc ++ flt (fun r => t (asg vs r)) d r)
  | 0, r, acc, h, ha => Ev.step (f := fun _ => some (V, acc)) (fun k => by rw [table_over_table_vital_2.l0, if_neg (by omega)]) (by simpa [flt] using Ev.now _)
  | d + 1, r, acc, h, ha => by
    have hw : wrap64 ((r : Int) + 1) = ((r + 1 : Nat) : Int) := by rw [w64_in _ (by omega)]; omega
    have hr : r < 2 ^ 60 := Nat.lt_of_le_of_lt (show r ≤ 1024 by omega) (by decide)
    refine Ev.step (fun k => by rw [table_over_table_vital_2.l0, if_pos (by omega)]) (Ev.bind (asg_ev hc (by omega) r hr) (Ev.bind (ht _ (asg_lt hc r)) ?_))
    rw [flt, hw]
    by_cases e : t (asg vs r) = true
    · have ih := o_v2_loop hc hl t0 t1 v t ht V N hN d (r + 1) (acc ++ [(r : Int)]) (by omega) (by simp; omega)
      rw [if_pos e]
      rw [List.append_assoc, List.singleton_append] at ih
      exact ev_pos e (ev_pos (by omega) ih)
    · have ih := o_v2_loop hc hl t0 t1 v t ht V N hN d (r + 1) acc (by omega) (by omega)
      rw [if_neg e]
      exact ev_neg e ih
theorem o_v2_ev {vs : List Int} (hc : Chn 24 none vs) (hl : vs.length ≤ 10) (t0 t1 : List Int) (v : Int) (t : Nat → Bool) (ht : ∀ a : Nat, a < 2 ^ 24 → Ev (fun k => table_vital_2_v1.f k (a : Int) t0 t1 v) (t a)) : Ev (fun k => table_over_table_vital_2.f k vs t0 t1 v) (vs, ovr vs t) := by
  unfold table_over_table_vital_2.f
  rw [clone_eq vs (by omega), shl1 vs.length (by omega)]
  exact o_v2_loop hc hl t0 t1 v t ht vs (2 ^ vs.length) (pow10 hl) (2 ^ vs.length) 0 [] (by omega) (by simp)
/-! ### vital -/
theorem or_set (a : Nat) (v : Int) (b : Bool) (ha : a < 2 ^ 24) (h0 : 0 ≤ v) (h1 : v < 24) : Go.bits .or .i64 (a : Int) (shl .i64 ((b.toNat : Nat) : Int) v) = ((setb a v b : Nat) : Int) := by
  have hw : ∀ z : Int, 0 ≤ z → z < 2 ^ 62 → IntKind.i64.wrap z = z := fun z h0 h1 => by
    rw [IntKind.wrap_i64]
    have : (2 : Int) ^ 62 = 4611686018427387904 := by decide
    omega
  have hb : IntKind.i64.bits = 64 := rfl
  have hip : (2 : Nat) ^ v.toNat ≤ 2 ^ 24 := Nat.pow_le_pow_right (by decide) (by omega)
  have h24 : (2 : Nat) ^ 24 = 16777216 := by decide
  have h62 : (2 : Nat) ^ 62 = 4611686018427387904 := by decide
  have hbl : b.toNat * 2 ^ v.toNat ≤ 2 ^ v.toNat := by cases b <;> simp
  have h3 : shl .i64 ((b.toNat : Nat) : Int) v = ((b.toNat * 2 ^ v.toNat : Nat) : Int) := by
    unfold shl
    rw [hb, show min v.toNat 64 = v.toNat by omega]
    have e : ((b.toNat : Nat) : Int) * 2 ^ v.toNat = ((b.toNat * 2 ^ v.toNat : Nat) : Int) := by simp
    rw [e]
    exact hw _ (by omega) (by have : (2 : Int) ^ 62 = 4611686018427387904 := by decide
                              omega)
  rw [h3, (bits_nat .i64 62 (by decide) hw a _ (by omega) (by omega)).2]
  rfl
theorem setb_lt (a : Nat) (v : Int) (b : Bool) (ha : a < 2 ^ 24) (h1 : v < 24) : setb a v b < 2 ^ 60 := by
  have h2 : (2 : Nat) ^ v.toNat ≤ 2 ^ 24 := Nat.pow_le_pow_right (by decide) (by omega)
  have hbl : b.toNat * 2 ^ v.toNat ≤ 2 ^ v.toNat := by cases b <;> simp
  have h3 : b.toNat * 2 ^ v.toNat < 2 ^ 60 := Nat.lt_of_le_of_lt (Nat.le_trans hbl h2) (by decide)
  exact Nat.or_lt_two_pow (Nat.lt_of_lt_of_le ha (by decide)) h3
theorem without_ev (l : List Int) (a : Int) (h : l.length < 17592186044416) : Ev (fun _ => table_without.f l a) (wo l a) := by
  unfold table_without.f
  rw [clone_eq l h]
  exact Ev.now _
theorem eqs_loop (a b : List Int) (hl : a.length = b.length) (hm : (a.length : Int) ≤ 9223372036854775807) : ∀ (d i : Nat), i + d = a.length → Ev (fun k => slices_Equal_int_int.l0 k a b a.length i) (decide (a.drop i = b.drop i))
  | 0, i, h => by
    rw [List.drop_eq_nil_of_le (show a.length ≤ i by omega), List.drop_eq_nil_of_le (show b.length ≤ i by omega)]
    exact Ev.step (f := fun _ => some true) (fun k => by rw [slices_Equal_int_int.l0, if_neg (by omega)]) (Ev.now _)
  | d + 1, i, h => by
    have hi : i < a.length := by omega
    have hw := wrap_succ i a.length hi hm
    have ih := eqs_loop a b hl hm d (i + 1) (by omega)
    rw [rd_at a i hi, rd_at b i (by omega)]
    by_cases e : rd a i = rd b i
    · have : decide (rd a i :: a.drop (i + 1) = rd b i :: b.drop (i + 1)) = decide (a.drop (i + 1) = b.drop (i + 1)) := decide_eq_decide.2 ⟨fun h => by injection h, fun h => by rw [e, h]⟩
      rw [this]
      exact Ev.step (fun k => by rw [slices_Equal_int_int.l0, if_pos (by omega), if_pos (by omega), if_pos (by omega), if_pos (by omega), if_pos e, hw]) ih
    · have : decide (rd a i :: a.drop (i + 1) = rd b i :: b.drop (i + 1)) = false := decide_eq_false (fun h => e (by injection h))
      rw [this]
      exact Ev.step (f := fun _ => some false) (fun k => by rw [slices_Equal_int_int.l0, if_pos (by omega), if_pos (by omega), if_pos (by omega), if_pos (by omega), if_neg e]) (Ev.now _)
theorem eqs_ev (a b : List Int) (hm : (a.length : Int) ≤ 9223372036854775807) : Ev (fun k => slices_Equal_int_int.f k a b) (decide (a = b)) := by
  unfold slices_Equal_int_int.f
  by_cases hl : a.length = b.length
  · refine ev_pos (by omega) ?_
    have := eqs_loop a b hl hm a.length 0 (by omega)
    rw [List.drop_zero, List.drop_zero] at this
    exact this
  · have : decide (a = b) = false := decide_eq_false (fun h => hl (by rw [h]))
    rw [this]
    exact ev_neg (by omega) (Ev.now _)
theorem v1_ev {vs rs : List Int} (h : VT vs rs) (a : Nat) (ha : a < 2 ^ 24) : Ev (fun k => table_vital_1_v1.f k (a : Int) vs rs) (hs vs rs a) :=
  Ev.bind (has_ev h a (Nat.lt_of_lt_of_le ha (by decide))) (Ev.now _)
theorem v2_ev {vs rs : List Int} (h : VT vs rs) {v : Int} (h0 : 0 ≤ v) (h1 : v < 24) (a : Nat) (ha : a < 2 ^ 24) : Ev (fun k => table_vital_2_v1.f k (a : Int) vs rs v) (hs vs rs (setb a v true)) := by
  have := or_set a v true ha h0 h1
  rw [show ((true.toNat : Nat) : Int) = 1 from rfl] at this
  unfold table_vital_2_v1.f
  rw [this]
  exact ev_pos h0 (Ev.bind (has_ev h _ (setb_lt a v true ha h1)) (Ev.now _))
theorem ovr_len (vs : List Int) (t : Nat → Bool) : (ovr vs t).length ≤ 2 ^ vs.length := flt_len _ _ _
theorem vital_loop {vs rs : List Int} (h : VT vs rs) (ih : ∀ v, v ∈ vs → mat vs rs v = false → Ev (fun k => table_vital.f k (wo vs v) (ovr (wo vs v) (hs vs rs))) (vit (wo vs v) (ovr (wo vs v) (hs vs rs)))) : ∀ (d i : Nat), i + d = vs.length → (∀ m u, m < i → vs[m]? = some u → mat vs rs u = true) →
    Ev (fun k => table_vital.l0 k vs vs.length i vs rs) (vit vs rs)
  | 0, i, hd, ha => by
    have hl := h.len
    have hr := h.rows_len
    rw [vit_all h (fun v hv => by
      obtain ⟨m, hm⟩ := List.getElem?_of_mem hv
      exact ha m v (by have := (List.getElem?_eq_some_iff.1 hm).1; omega) hm)]
    exact Ev.step (f := fun _ => some (vs, rs)) (fun k => by rw [table_vital.l0, if_neg (by omega), clone_eq vs (by omega), clone_eq rs (by omega)]; rfl) (Ev.now _)
  | d + 1, i, hd, ha => by
    have hl := h.len
    have hi : i < vs.length := by omega
    have hw := wrap_succ i vs.length hi (by omega)
    have hv := rd_mem vs i hi
    have hv24 := h.vars' _ hv
    have hwl := wo_le vs (rd vs i)
    have hc := wo_chn h.vars (rd vs i)
    have ho := ovr_len (wo vs (rd vs i)) (hs vs rs)
    have hp := pow10 (Nat.le_trans hwl hl)
    refine Ev.step (fun k => by rw [table_vital.l0, if_pos (by omega), if_pos (by omega), if_pos (by omega), hw]) ?_
    refine Ev.bind (without_ev vs _ (by omega)) (Ev.bind (o_v1_ev hc (by omega) vs rs _ (v1_ev h)) (Ev.bind (without_ev vs _ (by omega)) (Ev.bind (o_v2_ev hc (by omega) vs rs (rd vs i) _ (v2_ev h hv24.1 hv24.2)) (Ev.bind (eqs_ev _ _ (by show ((ovr _ _).length : Int) ≤ _; omega)) ?_))))
    by_cases e : mat vs rs (rd vs i) = false
    · refine ev_pos (decide_eq_true ((zero_one h hv).2 e)) ?_
      rw [← vit_zero h hv e]
      exact Ev.bind (ih _ hv e) (Ev.now _)
    · refine ev_neg (fun hh => e ((zero_one h hv).1 (of_decide_eq_true hh))) ?_
      refine vital_loop h ih d (i + 1) (by omega) (fun m u hm hu => ?_)
      by_cases em : m = i
      · subst em
        rw [rd_get vs m hi] at hu
        injection hu with hu
        rw [← hu]
        simpa using e
      · exact ha m u (by omega) hu
theorem vital_ev : ∀ (n : Nat) {vs rs : List Int}, vs.length ≤ n → VT vs rs → Ev (fun k => table_vital.f k vs rs) (vit vs rs)
  | 0, vs, rs, hn, h => Ev.step (fun k => by rw [table_vital.f]; rfl) (vital_loop h (fun v hv _ => by have := List.length_pos_of_mem hv; omega) vs.length 0 (by omega) (fun m _ hm => by omega))
  | n + 1, vs, rs, hn, h => Ev.step (fun k => by rw [table_vital.f]; rfl) (vital_loop h (fun v hv _ => vital_ev n (by have := wo_lt hv; omega) (h.zero v _)) vs.length 0 (by omega) (fun m _ hm => by omega))
theorem dvital_ev {vs rs : List Int} (hl : (vs.length : Int) ≤ 9223372036854775807) (hr : (rs.length : Int) ≤ 9223372036854775807) : Ev (fun k => table_Vital.f k vs rs) (if valid vs rs = 0 then ((vit vs rs).1, (vit vs rs).2, 0) else ([], [], valid vs rs)) := by
  refine Ev.bind (valid_ev vs rs hl hr) (ev_ite (fun h => ?_) (fun _ => Ev.now _))
  exact Ev.bind (vital_ev vs.length (Nat.le_refl _) ((valid_VT vs rs).1 h)) (Ev.now _)
end Go.Proofs.Ythcfmdkhkikbcaa.Pure
