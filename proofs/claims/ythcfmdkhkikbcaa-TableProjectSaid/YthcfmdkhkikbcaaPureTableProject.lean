/- The plain law behind TableProject: about the printed functions alone, no memory and no Go in it. -/
import Derived.Test.YthcfmdkhkikbcaaPureQ
import Derived.Test.YthcfmdkhkikbcaaT34
namespace Go.Proofs.Ythcfmdkhkikbcaa.Pure
open Go.RowKit Go.Proofs.YthcfmdkhkikbcaaW.PrintWords Go.Proofs.Ythcfmdkhkikbcaa.T
set_option linter.unusedVariables false
set_option linter.unusedSimpArgs false
/-! ### TableProject -/
theorem and_not (a b : Nat) (ha : a < 2 ^ 62) (hb : b < 2 ^ 62) : Go.bits .andNot .i64 (a : Int) (b : Int) = ((a &&& (2 ^ 64 - (b + 1)) : Nat) : Int) := by
  have h62 : (2 : Nat) ^ 62 = 4611686018427387904 := by decide
  have h64 : (2 : Nat) ^ 64 = 18446744073709551616 := by decide
  have hx : a &&& (2 ^ 64 - (b + 1)) < 2 ^ 62 := Nat.lt_of_le_of_lt Nat.and_le_left ha
  have ha' : a % 2 ^ 64 = a := Nat.mod_eq_of_lt (by omega)
  have hb' : b % 2 ^ 64 = b := Nat.mod_eq_of_lt (by omega)
  show IntKind.i64.wrap ((BitVec.ofInt 64 (a : Int) &&& ~~~BitVec.ofInt 64 (b : Int)).toNat : Int) = _
  rw [BitVec.toNat_and, BitVec.toNat_not, BitVec.ofInt_natCast, BitVec.ofInt_natCast, BitVec.toNat_ofNat, BitVec.toNat_ofNat, ha', hb', IntKind.wrap_i64]
  have e : 2 ^ 64 - 1 - b = 2 ^ 64 - (b + 1) := by omega
  rw [e]
  omega
theorem and_bit (x n : Nat) (hx : x < 2 ^ 60) (hn : n ≤ 60) : Go.bits .and .i64 (shr .i64 (x : Int) (n : Int)) 1 = (((x.testBit n).toNat : Nat) : Int) := by
  have hw : ∀ z : Int, 0 ≤ z → z < 2 ^ 62 → IntKind.i64.wrap z = z := fun z h0 h1 => by
    rw [IntKind.wrap_i64]
    have : (2 : Int) ^ 62 = 4611686018427387904 := by decide
    omega
  have hb : IntKind.i64.bits = 64 := rfl
  have h1 : shr .i64 (x : Int) (n : Int) = ((x / 2 ^ n : Nat) : Int) := by
    unfold shr
    rw [hb, show min ((n : Int)).toNat 64 = n by omega]
    simp
  have hxd : x / 2 ^ n < 2 ^ 62 := Nat.lt_of_le_of_lt (Nat.div_le_self _ _) (Nat.lt_of_lt_of_le hx (by decide))
  have := (bits_nat .i64 62 (by decide) hw (x / 2 ^ n) 1 hxd (by decide)).1
  rw [Nat.and_one_is_mod, ← Nat.toNat_testBit] at this
  rw [h1]
  exact this
def stp (a : Nat) (v : Int) (b : Bool) : Nat := setb (a &&& (2 ^ 64 - (2 ^ v.toNat + 1))) v b
theorem stp_lt (a : Nat) (v : Int) (b : Bool) (ha : a < 2 ^ 24) (h1 : v < 24) : stp a v b < 2 ^ 24 := by
  have h2 : (2 : Nat) ^ v.toNat ≤ 2 ^ 23 := Nat.pow_le_pow_right (by decide) (by omega)
  have hbl : b.toNat * 2 ^ v.toNat ≤ 2 ^ v.toNat := by cases b <;> simp
  exact Nat.or_lt_two_pow (Nat.lt_of_le_of_lt Nat.and_le_left ha) (Nat.lt_of_le_of_lt (Nat.le_trans hbl h2) (by decide))
theorem stp_bit (a : Nat) (v : Int) (b : Bool) (ha : a < 2 ^ 24) (h1 : v < 24) (j : Nat) : (stp a v b).testBit j = if j = v.toNat then b else a.testBit j := by
  have h2 : (2 : Nat) ^ v.toNat ≤ 2 ^ 24 := Nat.pow_le_pow_right (by decide) (by omega)
  unfold stp
  rw [setb_bit, Nat.testBit_and, Nat.testBit_two_pow_sub_succ (Nat.lt_of_le_of_lt h2 (by decide)), Nat.testBit_two_pow]
  by_cases e : j = v.toNat
  · subst e; simp
  · have e2 : ¬ v.toNat = j := fun h => e h.symm
    rw [if_neg e, decide_eq_false e, decide_eq_false e2, Bool.and_false, Bool.or_false, Bool.not_false, Bool.and_true]
    by_cases hj : j < 64
    · rw [decide_eq_true hj, Bool.and_true]
    · rw [Nat.testBit_lt_two_pow (Nat.lt_of_lt_of_le ha (Nat.pow_le_pow_right (by decide) (by omega)))]; rfl
theorem stp_ev (a : Nat) (v : Int) (z i : Nat) (ha : a < 2 ^ 24) (h0 : 0 ≤ v) (h1 : v < 24) (hz : z < 2 ^ 60) (hi : i ≤ 60) :
    Go.bits .or .i64 (Go.bits .andNot .i64 (a : Int) (shl .i64 1 v)) (shl .i64 (Go.bits .and .i64 (shr .i64 (z : Int) (i : Int)) 1) v) = ((stp a v (z.testBit i) : Nat) : Int) := by
  have h2 : (2 : Nat) ^ v.toNat ≤ 2 ^ 24 := Nat.pow_le_pow_right (by decide) (by omega)
  have e := shl1 v.toNat (by omega)
  rw [← nat_of h0] at e
  rw [and_bit z i hz hi, e, and_not a _ (Nat.lt_of_lt_of_le ha (by decide)) (Nat.lt_of_le_of_lt h2 (by decide)), or_set _ v _ (Nat.lt_of_le_of_lt Nat.and_le_left ha) h0 h1]
  rfl
def put (z : Nat) : List Int → Nat → Nat → Nat
  | [], _, a => a
  | v :: vs, i, a => put z vs (i + 1) (stp a v (z.testBit i))
theorem put_out (z : Nat) : ∀ (D : List Int) (i a : Nat) (j : Nat), (∀ v, v ∈ D → v < 24 ∧ v.toNat ≠ j) → a < 2 ^ 24 → (put z D i a).testBit j = a.testBit j
  | [], _, _, _, _, _ => rfl
  | v :: vs, i, a, j, h, ha => by
    have hv := h v List.mem_cons_self
    rw [put, put_out z vs (i + 1) _ j (fun w hw => h w (List.mem_cons_of_mem _ hw)) (stp_lt a v _ ha hv.1), stp_bit a v _ ha hv.1, if_neg (fun e => hv.2 e.symm)]
theorem put_in (z : Nat) : ∀ (D : List Int) (p : Option Int) (i a : Nat) (m : Nat) (v : Int), Chn 24 p D → a < 2 ^ 24 → D[m]? = some v → (put z D i a).testBit v.toNat = z.testBit (i + m)
  | [], _, _, _, _, _, _, _, h => by simp at h
  | u :: us, p, i, a, m, v, ⟨h0, h1, h2, h3⟩, ha, hm => by
    rw [put]
    cases m with
    | zero =>
      obtain rfl : u = v := by simpa using hm
      rw [put_out z us (i + 1) _ _ (fun w hw => by have := h3.mem w hw; have := this.2.2 u rfl; omega) (stp_lt a u _ ha h1), stp_bit a u _ ha h1, if_pos rfl]
      rfl
    | succ m =>
      rw [put_in z us _ (i + 1) _ m v h3 (stp_lt a u _ ha h1) (by simpa using hm), show i + 1 + m = i + (m + 1) by omega]
/-- The variables kept and the variables dropped. -/
structure Cut (vs K D : List Int) (i : Nat) : Prop where
  ck : Chn 24 none K
  cd : Chn 24 none D
  len : K.length + D.length = i
  kin : ∀ y, y ∈ K → ∃ j, j < i ∧ vs[j]? = some y
  din : ∀ y, y ∈ D → ∃ j, j < i ∧ vs[j]? = some y
  all : ∀ j y, j < i → vs[j]? = some y → y ∈ K ∨ y ∈ D
  dis : ∀ y, y ∈ K → y ∉ D
theorem tp_split {vs rs : List Int} (h : VT vs rs) (x1 x8 : Int) : ∀ (d i : Nat) (K D : List Int), i + d = vs.length → Cut vs K D i →
    ∃ K' D', Cut vs K' D' vs.length ∧ ∀ q, Ev (fun k => ancepslaw38_TableProject.l0 k x1 x8 K' D' vs vs.length vs.length vs rs) q → Ev (fun k => ancepslaw38_TableProject.l0 k x1 x8 K D vs vs.length i vs rs) q
  | 0, i, K, D, hd, hc => by
    obtain rfl : i = vs.length := by omega
    exact ⟨K, D, hc, fun q hq => hq⟩
  | d + 1, i, K, D, hd, hc => by
    have hl := h.len
    have hi : i < vs.length := by omega
    have hw := wrap_succ i vs.length hi (by omega)
    have hv := h.vars' _ (rd_mem vs i hi)
    have hg := rd_get vs i hi
    have hlen := hc.len
    have hkl : ∀ y, y ∈ K → y < rd vs i := fun y hy => by obtain ⟨j, h1, h2⟩ := hc.kin y hy; exact h.vars.below j i y _ h1 h2 hg
    have hdl : ∀ y, y ∈ D → y < rd vs i := fun y hy => by obtain ⟨j, h1, h2⟩ := hc.din y hy; exact h.vars.below j i y _ h1 h2 hg
    by_cases e : Go.bits .and .u8 (shr .u8 x1 i) 1 = 0
    · have c : Cut vs (K ++ [rd vs i]) D (i + 1) := by
        refine ⟨chn_snoc hv.1 hv.2 hc.ck hkl (fun q hq => by cases hq), hc.cd, by simp; omega, fun y hy => ?_, fun y hy => ?_, fun j y hj hy => ?_, fun y hy hy2 => ?_⟩
        · rcases List.mem_append.1 hy with hy | hy
          · obtain ⟨j, h1, h2⟩ := hc.kin y hy; exact ⟨j, by omega, h2⟩
          · rw [List.mem_singleton.1 hy]; exact ⟨i, by omega, hg⟩
        · obtain ⟨j, h1, h2⟩ := hc.din y hy; exact ⟨j, by omega, h2⟩
        · by_cases ej : j = i
          · subst ej; rw [hg] at hy; injection hy with hy; exact .inl (by simp [hy])
          · rcases hc.all j y (by omega) hy with h1 | h1
            · exact .inl (List.mem_append_left _ h1)
            · exact .inr h1
        · rcases List.mem_append.1 hy with hy | hy
          · exact hc.dis y hy hy2
          · have := hdl y hy2; rw [List.mem_singleton.1 hy] at this; omega
      obtain ⟨K', D', h1, h2⟩ := tp_split h x1 x8 d (i + 1) _ D (by omega) c
      exact ⟨K', D', h1, fun q hq => Ev.step (fun k => by rw [ancepslaw38_TableProject.l0, if_pos (by omega), if_pos (by omega), if_pos (by omega), if_pos e, if_pos (by omega), hw]) (h2 q hq)⟩
    · have c : Cut vs K (D ++ [rd vs i]) (i + 1) := by
        refine ⟨hc.ck, chn_snoc hv.1 hv.2 hc.cd hdl (fun q hq => by cases hq), by simp; omega, fun y hy => ?_, fun y hy => ?_, fun j y hj hy => ?_, fun y hy hy2 => ?_⟩
        · obtain ⟨j, h1, h2⟩ := hc.kin y hy; exact ⟨j, by omega, h2⟩
        · rcases List.mem_append.1 hy with hy | hy
          · obtain ⟨j, h1, h2⟩ := hc.din y hy; exact ⟨j, by omega, h2⟩
          · rw [List.mem_singleton.1 hy]; exact ⟨i, by omega, hg⟩
        · by_cases ej : j = i
          · subst ej; rw [hg] at hy; injection hy with hy; exact .inr (by simp [hy])
          · rcases hc.all j y (by omega) hy with h1 | h1
            · exact .inl h1
            · exact .inr (List.mem_append_left _ h1)
        · rcases List.mem_append.1 hy2 with hy2 | hy2
          · exact hc.dis y hy hy2
          · have := hkl y hy; rw [List.mem_singleton.1 hy2] at this; omega
      obtain ⟨K', D', h1, h2⟩ := tp_split h x1 x8 d (i + 1) K _ (by omega) c
      exact ⟨K', D', h1, fun q hq => Ev.step (fun k => by rw [ancepslaw38_TableProject.l0, if_pos (by omega), if_pos (by omega), if_pos (by omega), if_neg e, if_pos (by omega), hw]) (h2 q hq)⟩
theorem prj_ext {K P E : List Int} (h : VT K P) (hE : Chn 24 none E) (sub : ∀ w, w ∈ K → w ∈ E) : prj E (ovr E (hs K P)) K = P := by
  refine Chn.same (prj_chn _ _ _) h.rows (fun n => ?_)
  rw [prj_mem]
  constructor
  · rintro ⟨r, hr, rfl⟩
    obtain ⟨m, hm, ht, rfl⟩ := (ovr_mem _ _ _).1 hr
    rw [Int.toNat_natCast]
    exact of_decide_eq_true ht
  · intro hn
    have hro := h.row_of hn
    refine ⟨_, (ovr_mem _ _ _).2 ⟨row E (asg K n.toNat), row_lt _ _, ?_, rfl⟩, ?_⟩
    · rw [← hs_row h hn]
      exact hs_agree K P (fun w hw => asg_at hE _ (sub w hw))
    · have e : row K (asg E (row E (asg K n.toNat))) = row K (asg K n.toNat) := row_agree K (fun w hw => asg_at hE _ (sub w hw))
      rw [Int.toNat_natCast, e, hro.2.2]
      exact nat_of hro.1
theorem tp_any {vs rs K D : List Int} (h : VT vs rs) (hc : Cut vs K D vs.length) (x : Nat) (hx : x < 2 ^ 24) : hs K (prj vs rs K) x = (List.range' 0 (2 ^ D.length)).any fun z => hs vs rs (put z D 0 x) := by
  have hK : ∀ w, w ∈ K → w ∈ vs := fun w hw => by obtain ⟨j, _, h2⟩ := hc.kin w hw; exact List.mem_of_getElem? h2
  have hD : ∀ w, w ∈ D → 0 ≤ w ∧ w < 24 := fun w hw => by obtain ⟨j, _, h2⟩ := hc.din w hw; exact h.vars' w (List.mem_of_getElem? h2)
  have hout : ∀ z w, w ∈ K → (put z D 0 x).testBit w.toNat = x.testBit w.toNat := fun z w hw => put_out z D 0 x _ (fun v hv => by
    have h1 := hD v hv
    have h2 := hc.ck.mem w hw
    have : v ≠ w := fun e => hc.dis w hw (e ▸ hv)
    omega) hx
  rw [Bool.eq_iff_iff, hs_prj, List.any_eq_true]
  constructor
  · rintro ⟨r, hr, e⟩
    refine ⟨row D (asg vs r.toNat), ?_, ?_⟩
    · have := row_lt D (asg vs r.toNat)
      rw [List.mem_range'_1]
      omega
    · rw [← hs_row h hr]
      refine hs_agree vs rs (fun w hw => ?_)
      obtain ⟨j, hj⟩ := List.getElem?_of_mem hw
      rcases hc.all j w (List.getElem?_eq_some_iff.1 hj).1 hj with h1 | h1
      · rw [hout _ w h1]; exact row_same hc.ck e h1
      · obtain ⟨m, hm⟩ := List.getElem?_of_mem h1
        rw [put_in _ D none 0 x m w hc.cd hx hm, Nat.zero_add, Bool.eq_iff_iff, row_bit]
        exact ⟨fun ⟨v, h2, h3⟩ => by rw [hm] at h2; injection h2 with h2; rw [h2]; exact h3, fun h2 => ⟨w, hm, h2⟩⟩
  · rintro ⟨z, _, hz⟩
    have hz2 : ((row vs (put z D 0 x) : Nat) : Int) ∈ rs := of_decide_eq_true hz
    refine ⟨_, hz2, ?_⟩
    rw [Int.toNat_natCast]
    exact row_agree K (fun w hw => by rw [asg_at h.vars _ (hK w hw), hout z w hw])
theorem tp_put {vs rs K P D : List Int} (hD : ∀ v, v ∈ D → 0 ≤ v ∧ v < 24) (hl : D.length ≤ 10) (x8 x75 : Int) (x15 x17 : Bool) (z : Nat) (hz : z < 2 ^ 60) {q : Bool} : ∀ (d i : Nat) (a : Nat), i + d = D.length → a < 2 ^ 24 →
    Ev (fun k => ancepslaw38_TableProject.l2 k x8 K D x15 x17 z ((put z (D.drop i) i a : Nat) : Int) x75 z D D.length D.length vs rs K P) q → Ev (fun k => ancepslaw38_TableProject.l2 k x8 K D x15 x17 z (a : Int) x75 z D D.length i vs rs K P) q
  | 0, i, a, hd, ha, hq => by
    rw [List.drop_eq_nil_of_le (by omega)] at hq
    obtain rfl : i = D.length := by omega
    exact hq
  | d + 1, i, a, hd, ha, hq => by
    have hi : i < D.length := by omega
    have hw := wrap_succ i D.length hi (by omega)
    have hv := hD _ (rd_mem D i hi)
    rw [rd_at D i hi, put] at hq
    have ih := tp_put hD hl x8 x75 x15 x17 z hz d (i + 1) _ (by omega) (stp_lt a _ _ ha hv.2) hq
    exact Ev.step (fun k => by rw [ancepslaw38_TableProject.l2, if_pos (by omega), if_pos (by omega), if_pos (by omega), if_pos hv.1, hw, stp_ev a _ z i ha hv.1 hv.2 hz (by omega)]) ih
theorem tp_loop {vs rs K P D : List Int} (h : VT vs rs) (hD : ∀ v, v ∈ D → 0 ≤ v ∧ v < 24) (hl : D.length ≤ 10) (x8 : Nat) (hx : x8 < 2 ^ 24) (x15 : Bool) {q : Bool} : ∀ (d z : Nat) (x17 : Bool), z + d = 2 ^ D.length →
    Ev (fun k => ancepslaw38_TableProject.l1 k x8 K D x15 (x17 || (List.range' z d).any fun z => hs vs rs (put z D 0 x8)) ((2 ^ D.length : Nat) : Int) ((2 ^ D.length : Nat) : Int) vs rs K P) q →
    Ev (fun k => ancepslaw38_TableProject.l1 k x8 K D x15 x17 ((2 ^ D.length : Nat) : Int) z vs rs K P) q
  | 0, z, x17, hd, hq => by
    obtain rfl : z = 2 ^ D.length := by omega
    simpa using hq
  | d + 1, z, x17, hd, hq => by
    have hp := pow10 hl
    have h60 : (2 : Nat) ^ 60 = 1152921504606846976 := by decide
    have hw : wrap64 ((z : Int) + 1) = ((z + 1 : Nat) : Int) := by rw [w64_in _ (by omega)]; omega
    rw [List.range'_succ, List.any_cons, ← Bool.or_assoc] at hq
    have ih := tp_loop h hD hl x8 hx x15 d (z + 1) _ (by omega) hq
    refine Ev.step (fun k => by rw [ancepslaw38_TableProject.l1, if_pos (by omega)]; rfl) (tp_put (vs := vs) (rs := rs) (K := K) (P := P) hD hl x8 ((2 ^ D.length : Nat) : Int) x15 x17 z (by omega) D.length 0 x8 (by omega) hx ?_)
    rw [List.drop_zero]
    cases x17
    · refine Ev.step (fun k => by rw [ancepslaw38_TableProject.l2, if_neg (by omega), if_neg (by simp), hw]) (Ev.bind (rholds_ev h _) ?_)
      rw [Bool.false_or] at ih
      exact ih
    · rw [Bool.true_or] at ih
      exact Ev.step (fun k => by rw [ancepslaw38_TableProject.l2, if_neg (by omega), if_pos rfl, hw]) ih
theorem tableProject_ev (p q x1 x2 : Int) (h2 : 0 ≤ x2) (h3 : x2 < 4294967296) : Ev (fun k => ancepslaw38_TableProject.f k p q x1 x2) true := by
  obtain ⟨vs, rs, hm, h, h6⟩ := made_ev p q
  have hl := h.len
  have hr := h.rows_len
  have h24 : (2 : Nat) ^ 24 = 16777216 := by decide
  have hx8 : wrap64 (Int.tmod x2 16777216) = (((x2 % 16777216).toNat : Nat) : Int) := by
    rw [Int.tmod_eq_emod_of_nonneg h2, w64_in _ (by omega)]
    omega
  have hx : (x2 % 16777216).toNat < 2 ^ 24 := by omega
  refine Ev.bind awake_ev (ev_pos rfl (Ev.bind hm ?_))
  rw [hx8]
  generalize (x2 % 16777216).toNat = x at hx ⊢
  obtain ⟨K, D, hc, hgo⟩ := tp_split h x1 x vs.length 0 [] [] (by omega) ⟨trivial, trivial, rfl, fun y hy => by simp at hy, fun y hy => by simp at hy, fun j y hj => by omega, fun y hy => by simp at hy⟩
  refine hgo true ?_
  have hlen := hc.len
  have hK : ∀ w, w ∈ K → w ∈ vs := fun w hw => by obtain ⟨j, _, h2⟩ := hc.kin w hw; exact List.mem_of_getElem? h2
  have hD : ∀ w, w ∈ D → 0 ≤ w ∧ w < 24 := fun w hw => by obtain ⟨j, _, h2⟩ := hc.din w hw; exact h.vars' w (List.mem_of_getElem? h2)
  have hP : VT K (prj vs rs K) := ⟨by omega, hc.ck, prj_chn _ _ _⟩
  have hPr := hP.rows_len
  have ascK : asc K = 0 := (asc_iff K).2 ⟨by omega, hc.ck⟩
  have e1 : prjs vs rs K = (K, prj vs rs K, 0) := by
    unfold prjs
    rw [if_pos ((valid_VT vs rs).2 h), if_pos ascK, if_neg]
    rw [List.any_eq_true]
    rintro ⟨w, hw, e⟩
    rw [decide_eq_true (hK w hw)] at e
    exact absurd e (by decide)
  have p1 := dprj_ev vs rs K (by omega) (by omega) (by omega)
  rw [e1] at p1
  have e2 : hass K (prj vs rs K) (x : Int) = (hs K (prj vs rs K) x, 0) := by
    unfold hass
    rw [if_pos ((valid_VT _ _).2 hP), if_neg (by omega), if_neg (by omega), Int.toNat_natCast]
  have p2 := dhas_ev K (prj vs rs K) (by omega) (by omega) (x : Int)
  rw [e2] at p2
  have hs1 := shl1 D.length (by omega)
  refine Ev.step (fun k => by rw [ancepslaw38_TableProject.l0, if_neg (by omega)]) (Ev.bind p1 (Ev.bind p2 (ev_pos rfl ?_)))
  refine Ev.step (fun k => by rw [show ((0 : Int) != 0) = false from rfl, ancepslaw38_TableProject.j1, if_neg (by simp), hs1]; rfl) (tp_loop h hD (by omega) x hx _ (2 ^ D.length) 0 false (by omega) ?_)
  rw [Bool.false_or, ← tp_any h hc x hx]
  have hall := all2_chn hc.ck hc.cd
  have hal := all2_len K D
  have e3 : ext K (prj vs rs K) D = (all2 K D, ovr (all2 K D) (hs K (prj vs rs K)), 0) := by
    unfold ext
    rw [if_pos ((valid_VT _ _).2 hP), if_pos ((asc_iff D).2 ⟨by omega, hc.cd⟩), if_neg (by omega)]
  have p3 := dext_ev K (prj vs rs K) D (by omega) (by omega) (by omega)
  rw [e3] at p3
  have hE : VT (all2 K D) (ovr (all2 K D) (hs K (prj vs rs K))) := ⟨by omega, hall.1, ovr_chn _ _⟩
  have hEr := hE.rows_len
  have e4 : prjs (all2 K D) (ovr (all2 K D) (hs K (prj vs rs K))) K = (K, prj vs rs K, 0) := by
    unfold prjs
    rw [if_pos ((valid_VT _ _).2 hE), if_pos ascK, if_neg, prj_ext hP hall.1 (fun w hw => (hall.2 w).2 (.inl hw))]
    rw [List.any_eq_true]
    rintro ⟨w, hw, e⟩
    rw [decide_eq_true ((hall.2 w).2 (.inl hw))] at e
    exact absurd e (by decide)
  have p4 := dprj_ev (all2 K D) (ovr (all2 K D) (hs K (prj vs rs K))) K (by omega) (by omega) (by omega)
  rw [e4] at p4
  have p5 := equal_ev K (prj vs rs K) (by omega) (by omega)
  exact Ev.step (fun k => by rw [ancepslaw38_TableProject.l1, if_neg (by omega)]) (Ev.bind p3 (Ev.bind p4 (ev_pos (beq_self_eq_true _) (ev_pos rfl (ev_pos rfl (Ev.bind p5 (Ev.now _)))))))
theorem u32_in {n : Int} (h : (Lit.int .u32 n).wf = true) : 0 ≤ n ∧ n < 4294967296 := by
  have h2 : IntKind.u32.min ≤ n ∧ n ≤ IntKind.u32.max := by simpa [Lit.wf] using h
  have e1 : IntKind.u32.min = 0 := by decide
  have e2 : IntKind.u32.max = 4294967295 := by decide
  omega
theorem TableProject (a0_0 : Int) (a0_1 : Int) (a1 : Int) (a2 : Int) (w_a0_0 : (Lit.int .u32 a0_0).wf = true) (w_a0_1 : (Lit.int .u64 a0_1).wf = true) (w_a1 : (Lit.int .u8 a1).wf = true) (w_a2 : (Lit.int .u32 a2).wf = true) : ∃ k, T.ancepslaw38_TableProject.f k a0_0 a0_1 a1 a2 = some true := ev_rounds (tableProject_ev a0_0 a0_1 a1 a2 (u32_in w_a2).1 (u32_in w_a2).2)
end Go.Proofs.Ythcfmdkhkikbcaa.Pure
