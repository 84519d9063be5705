-- Written by wip/tools/myprint.py, a program of this session's.
import Derived.Test.YtbagnalcabdlhaaS0
import Derived.Test.YtbagnalcabdlhaaS2
import Derived.Test.YtbagnalcabdlhaaS7
import Derived.Test.YtbagnalcabdlhaaS13
import Derived.Test.YtbagnalcabdlhaaS17
import Derived.Test.YtbagnalcabdlhaaS23
namespace Go.Proofs.Ytbagnalcabdlhaa.S
open Go.RowKit Go.Proofs.YtbagnalcabdlhaaW.PrintWords Go.Proofs.YtbagnalcabdlhaaW.PrintLast Go.Proofs.YtbagnalcabdlhaaW.PrintMore
attribute [local go_sem] max2_int min2_int max_two min_two max_three min_three max_four min_four   -- for this text's walks alone
set_option linter.unusedVariables false
set_option linter.unusedSimpArgs false
/-! ### slices_Grow_int_int: function 68 -/
section
open Go.Sort Go.Shelf
def slices_Grow_int_int.f (l0 : List Int) (a1 : Int) : Option (List Int) := if 0 ≤ a1 then (if l0.length + (a1 : Int).toNat ≤ 17592186044416 then some l0 else none) else none
theorem slices_Grow_int_int.calls (P0_ : Nat → Prop) (u9000_ : Value) (l0 : List Int) (a1 : Int) (r : List Int) (w0 w : World) (hB : Below w0.heap.size w0 w) (ho0 : Kd.R (Kd.int .i64) 3 w w0.heap.size P0_ u9000_ l0) (h : slices_Grow_int_int.f l0 a1 = some r) :
 Calls Try.prog 68 #[u9000_, .int .i64 a1] w fun e w' => ∃ v0_ : Value, e = .returned (v0_) ∧ Kd.R (Kd.int .i64) 3 w' w0.heap.size (fun k_ => (P0_ k_ ∨ w.heap.size ≤ k_)) v0_ r ∧ Below w0.heap.size w0 w' ∧ Kept w w' (fun k_ => P0_ k_) := by
 unfold slices_Grow_int_int.f at h
 by_cases h0 : 0 ≤ a1
 ·rw [if_pos h0] at h
  by_cases h1 : l0.length + (a1 : Int).toNat ≤ 17592186044416
  ·rw [if_pos h1] at h
   obtain rfl := Option.some.inj h
   obtain ⟨n, rfl⟩ : ∃ n : Nat, a1 = (n : Int) := ⟨a1.toNat, by omega⟩
   rw [Int.toNat_natCast] at h1
   obtain ⟨A, c, rfl⟩ := Kd.R_slice ho0
   have ho := Kd.own_of_R (enc := Value.int .i64) (h1 := fun _ => rfl) ho0
   have hlc : l0.length ≤ c ∧ c ≤ maxLen := by
    rcases ho.2 with ⟨e1, e2⟩ | ⟨g, cap, cur, e1, _, _, e2, e3, _⟩
    ·injection e1 with _ _ e3
     subst e3
     exact ⟨by omega, by unfold maxLen; omega⟩
    ·injection e1 with _ _ e4
     subst e4
     exact ⟨e2, e3⟩
   have hm := hlc.2
   unfold maxLen at hm
   by_cases hroom : l0.length + n ≤ c
   ·refine (Any8.slices_Grow_room laysGrow A l0.length c n w hlc.1 (by omega) (by omega) hroom).mono ?_
    rintro e w' ⟨rfl, rfl⟩
    exact ⟨_, rfl, Kd.R_mono ho0 (fun k hk => .inl hk), hB, Kept.refl _ _⟩
   ·obtain ⟨cs, hcl, hnil, hcs, htk⟩ : ∃ cs : List Value, cs.length = c ∧ (A = none → c = 0) ∧ (∀ a, A = some a → ∀ j v, cs[j]? = some v → w.cell? (a.add j) = some v) ∧ cs.take l0.length = l0.map (Value.int .i64) := by
     rcases ho.2 with ⟨e1, e2⟩ | ⟨g, cap, cur, e1, _, hg, e2, e3, e4, e5⟩
     ·injection e1 with e1 e4 e3
      subst e1 e3
      have hl : l0 = [] := List.eq_nil_of_length_eq_zero e2
      subst hl
      exact ⟨[], rfl, fun _ => rfl, fun a ha => by simp at ha, rfl⟩
     ·injection e1 with e1 _ e6
      subst e1 e6
      refine ⟨cur.toList, by simpa using e4, fun h => by simp at h, fun a ha j v hv => ?_, by simpa [encs] using e5⟩
      obtain rfl := Option.some.inj ha
      have hadd : (⟨g, 0, none⟩ : Addr).add j = ⟨g, j, none⟩ := by
       unfold Addr.add
       split
       ·rename_i hj; rw [hj]
       ·simp
      rw [hadd]
      exact (blk_cell hg j).trans (by simpa using hv)
    have hi0 := info3
    obtain ⟨i0, hi, hz, hs, hby⟩ := info_parts hi0
    refine (Any8.slices_Grow_grow laysGrow i0 (.int .i64 0) hi hz (by omega) A l0.length c n cs w hlc.1 (by omega) (by rw [hby]; omega) (by omega) (by rw [hcl, hs, Nat.mul_one]) hnil hcs).mono ?_
    rintro e w' ⟨rfl, rfl⟩
    have hgc := grownCap_ge w (l0.length + n) c (laysGrow_ren.t 25)
    have hgm := grownCap_le_maxLen w (l0.length + n) c (laysGrow_ren.t 25) (by unfold maxLen; omega)
    have hlt : l0.length ≤ cs.length := by omega
    refine ⟨_, rfl, Kd.R_of_own (enc := Value.int .i64) (h1 := fun _ => rfl) ⟨by simp [encs], .inr ⟨w.heap.size, _, _, rfl, hB.size, blk_new w.drew _, by omega, hgm, ?_, ?_⟩⟩ (fun k hk => ?_), (hB.drew).alloc hB.size _, ((Kept.refl w _).drew).alloc _⟩
    ·simp only [Array.size_append, List.size_toArray, size_zeroCells]
     show cs.length + (l0.length + n - c) * 1 + (grownCap w (l0.length + n) c (laysGrow_ren.t 25) - (l0.length + n)) * 1 = _
     omega
    ·simp only [Array.toList_append, Nat.mul_one]
     rw [List.append_assoc, List.take_append_of_le_length hlt, htk]
     rfl
    ·simp [Value.ownBlock] at hk
     exact .inr (by omega)
  ·rw [if_neg h1] at h; exact absurd h (by simp)
 ·rw [if_neg h0] at h; exact absurd h (by simp)
end
/-! ### slices_Concat_int_int: function 37 -/
mutual
def slices_Concat_int_int.l0 : Nat → List (List Int) → Int → List (List Int) → Int → Int → Option (List Int)
 | 0, _, _, _, _, _ => none
 | k + 1, x0, x3, x9, x10, x11 => if x11 < x10 then (if 0 ≤ x11 then (if x11 < (x9.length : Int) then (if (wrap64 (x3 + ((rd_L1 x9 x11).length : Int))) < 0 then (none) else (slices_Concat_int_int.l0 k x0 (wrap64 (x3 + ((rd_L1 x9 x11).length : Int))) x9 x10 (wrap64 (x11 + 1)))) else (none)) else (none)) else ((slices_Grow_int_int.f ([] : List Int) x3).bind fun t647 => (slices_Concat_int_int.l1 k t647 x0 (x0.length : Int) 0))
def slices_Concat_int_int.l1 : Nat → List Int → List (List Int) → Int → Int → Option (List Int)
 | 0, _, _, _, _ => none
 | k + 1, x6, x25, x26, x27 => if x27 < x26 then (if 0 ≤ x27 then (if x27 < (x25.length : Int) then (if x6.length + (rd_L1 x25 x27).length < 17592186044416 then (slices_Concat_int_int.l1 k (x6 ++ (rd_L1 x25 x27)) x25 x26 (wrap64 (x27 + 1))) else (none)) else (none)) else (none)) else (some x6)
end
def slices_Concat_int_int.f (k : Nat) (l0 : List (List Int)) : Option (List Int) := slices_Concat_int_int.l0 k l0 0 l0 (l0.length : Int) 0
theorem slices_Concat_int_int.mono_l : ∀ k, (∀ y0 y1 y2 y3 y4, LeO (slices_Concat_int_int.l0 k y0 y1 y2 y3 y4) (slices_Concat_int_int.l0 (k + 1) y0 y1 y2 y3 y4)) ∧ (∀ y0 y1 y2 y3, LeO (slices_Concat_int_int.l1 k y0 y1 y2 y3) (slices_Concat_int_int.l1 (k + 1) y0 y1 y2 y3))
 | 0 => ⟨fun _ _ _ _ _ r h => by simp [slices_Concat_int_int.l0] at h, fun _ _ _ _ r h => by simp [slices_Concat_int_int.l1] at h⟩
 | k + 1 => by
  obtain ⟨ih0, ih1⟩ := slices_Concat_int_int.mono_l k
  refine ⟨?_, ?_⟩
  ·intro y0 y1 y2 y3 y4
   unfold slices_Concat_int_int.l0
   repeat' first
   | (with_reducible exact ih0 _ _ _ _ _)
   | (with_reducible exact ih1 _ _ _ _)
   | (with_reducible exact LeO.refl _)
   | (with_reducible exact LeO.none _)
   | (with_reducible refine LeO.ite ?_ ?_)
   | (with_reducible refine LeO.bind ?_ (fun _ => ?_))
   | exact ih0 _ _ _ _ _
   | exact ih1 _ _ _ _
   | exact LeO.none _
   | refine LeO.ite ?_ ?_
   | refine LeO.bind ?_ (fun _ => ?_)
  ·intro y0 y1 y2 y3
   unfold slices_Concat_int_int.l1
   repeat' first
   | (with_reducible exact ih0 _ _ _ _ _)
   | (with_reducible exact ih1 _ _ _ _)
   | (with_reducible exact LeO.refl _)
   | (with_reducible exact LeO.none _)
   | (with_reducible refine LeO.ite ?_ ?_)
   | (with_reducible refine LeO.bind ?_ (fun _ => ?_))
   | exact ih0 _ _ _ _ _
   | exact ih1 _ _ _ _
   | exact LeO.none _
   | refine LeO.ite ?_ ?_
   | refine LeO.bind ?_ (fun _ => ?_)
theorem slices_Concat_int_int.mono : ∀ a0 k, LeO (slices_Concat_int_int.f k a0) (slices_Concat_int_int.f (k + 1) a0) := by
 intro a0 k
 obtain ⟨ih0, ih1⟩ := slices_Concat_int_int.mono_l k
 unfold slices_Concat_int_int.f
 repeat' first
   | (with_reducible exact ih0 _ _ _ _ _)
   | (with_reducible exact ih1 _ _ _ _)
   | (with_reducible exact LeO.refl _)
   | (with_reducible exact LeO.none _)
   | (with_reducible refine LeO.ite ?_ ?_)
   | (with_reducible refine LeO.bind ?_ (fun _ => ?_))
   | exact ih0 _ _ _ _ _
   | exact ih1 _ _ _ _
   | exact LeO.none _
   | refine LeO.ite ?_ ?_
   | refine LeO.bind ?_ (fun _ => ?_)
set_option maxHeartbeats 8000000 in
set_option maxRecDepth 100000 in
theorem slices_Concat_int_int.calls (k : Nat) (A0 : Option Addr) (c0 : Nat) (l0 : List (List Int)) (r : List Int) (w : World) (hr0 : Kd.C (Kd.slice 3 (Kd.int .i64)) w A0 l0.length l0) (hc0 : l0.length ≤ c0) (h : slices_Concat_int_int.f k l0 = some r) :
  Calls Try.prog 37 #[.slice A0 l0.length c0] w fun e w' => ∃ v0_ : Value, e = .returned (v0_) ∧ Kd.R (Kd.int .i64) 3 w' w.heap.size (fun _ => True) v0_ r ∧ Below w.heap.size w w' := by
 have hu42 := Try.underlying42
 have HR0 := Aside0.mk hr0
 have HC0 := Aside0.mk hc0
 clear hr0 hc0
 have HB := Aside0.mk (Below.refl w.heap.size w)
 have H : (slices_Concat_int_int.l0 k l0 0 l0 (l0.length : Int) 0) = some r := h
 clear h
 have H' := Aside0.mk H
 clear H
 go_enter Try.func37, Try.ntmps37
 go_wp2
 go_loopg [3, 11] k (fun kq v3 v11 w' => ∃ (x3_1 : Int) (x11_1 : Int), v3 = .int .i64 x3_1 ∧ v11 = .int .i64 x11_1 ∧ Aside0 (slices_Concat_int_int.l0 kq l0 x3_1 l0 (l0.length : Int) x11_1 = some r) ∧ Aside0 (kq ≤ k) ∧ Aside0 (Below w.heap.size w w'))
 case atStart => exact ⟨(0), (0), zT, zT, H', ⟨Nat.le_refl _⟩, ⟨by repeat (first | (with_reducible first | exact HB.out | apply below_alloc | apply pw_below_drewN | apply below_drew1) | exact HB.out)⟩⟩
 case round =>
  clear H'
  obtain ⟨x3_1, x11_1, rfl, rfl, HA, HK1, HB⟩ := hrel
  cases gk with
  | zero => exact absurd HA.out (by simp [slices_Concat_int_int.l0])
  | succ k1 =>
   have H := HA.out
   clear HA
   simp only [slices_Concat_int_int.l0] at H
   by_cases c2 : x11_1 < (l0.length : Int)
   ·rw [if_pos c2] at H
    have c2b0 : decide (x11_1 < (l0.length : Int)) = true := decide_eq_true c2
    clear c2
    by_cases c3 : 0 ≤ x11_1
    ·rw [if_pos c3] at H
     have c3b0 : decide (0 ≤ x11_1) = true := decide_eq_true c3
     clear c3
     by_cases c4 : x11_1 < (l0.length : Int)
     ·rw [if_pos c4] at H
      have c4b0 : decide (x11_1 < (l0.length : Int)) = true := decide_eq_true c4
      clear c4
      by_cases c5 : (wrap64 (x3_1 + ((rd_L1 l0 x11_1).length : Int))) < 0
      ·rw [if_pos c5] at H
       exact absurd H (by simp)
      ·rw [if_neg c5] at H
       have c5b0 : decide ((wrap64 (x3_1 + ((rd_L1 l0 x11_1).length : Int))) < 0) = false := decide_eq_false c5
       clear c5
       have H' := Aside0.mk H
       clear H
       have p646 : 0 ≤ (x11_1 : Int) := of_decide_eq_true zh
       have q646 : x11_1 < (l0.length : Int) := of_decide_eq_true zh
       obtain ⟨ad646, A646_0, c646_0, e646, hx646_0, hl646_0, hi646_0⟩ := at_L1 HR0.out x11_1 p646 q646
       cases e646
       replace hx646_0 := (HB.out.cell (World.block_lt_of_cell? w _ hx646_0)).trans hx646_0
       have HR646_0 := Aside0.mk hi646_0
       have HC646_0 := Aside0.mk hl646_0
       clear hi646_0 hl646_0
       replace p646 := eq_true p646
       replace q646 := eq_true q646
       go_wp2
       go_roundg k1
       case measure => have := HK1.out; omega
       case rel => exact ⟨(wrap64 (x3_1 + ((rd_L1 l0 x11_1).length : Int))), (wrap64 (x11_1 + 1)), zT, zT, H', ⟨by have := HK1.out; omega⟩, ⟨by repeat (first | (with_reducible first | exact HB.out | apply below_alloc | apply pw_below_drewN | apply below_drew1) | exact HB.out)⟩⟩
     ·rw [if_neg c4] at H
      exact absurd H (by simp)
    ·rw [if_neg c3] at H
     exact absurd H (by simp)
   ·rw [if_neg c2] at H
    have c2b0 : decide (x11_1 < (l0.length : Int)) = false := decide_eq_false c2
    clear c2
    replace H := Option.bind_eq_some_iff.mp H
    obtain ⟨t647, A60, H⟩ := H
    replace H : (slices_Concat_int_int.l1 k1 t647 l0 (l0.length : Int) 0) = some r := H
    have A6 := Aside0.mk A60
    clear A60
    have H' := Aside0.mk H
    clear H
    go_wp2_with (first | ((with_reducible refine gate_callee (f := 68) rfl ?_); refine goesL_ (some 24) rfl rfl Try.func68 zK rfl #[.slice none 0 0, .int .i64 x3_1] rfl zM ?_; (refine (slices_Grow_int_int.calls (fun k_ => some k_ = (.slice none 0 0 : Value).ownBlock) (.slice none 0 0) ([] : List Int) x3_1 t647 w _ ?side1 ?side2 A6.out).mono ?_); (case side1 => repeat (first | (with_reducible first | exact HB.out | apply below_alloc | apply pw_below_drewN | apply below_drew1) | exact HB.out)); (case side2 => exact Kd.R_nil _ _ _ _ _); rintro e w7 ⟨v648, rfl, ho0, hb, hkp⟩; refine ⟨_, rfl, ?_⟩; have n0_ := Aside0.mk (Kd.R_mono (ok' := fun k_ => True) ho0 (fun k_ hk_ => trivial)); have n1_ := Aside0.mk (hb); clear HB; have HO649 := n0_; have HB := n1_; clear n0_ n1_; (try clear hb); (try clear hkp); (try clear ho0)))
    go_loopg [6, 27] k1 (fun kq v6 v27 w' => ∃ (x6_2 : List Int) (x27_2 : Int), v27 = .int .i64 x27_2 ∧ Aside0 (slices_Concat_int_int.l1 kq x6_2 l0 (l0.length : Int) x27_2 = some r) ∧ Aside0 (kq ≤ k1) ∧ Aside0 (Kd.R (Kd.int .i64) 3 w' w.heap.size (fun _ => True) v6 x6_2) ∧ Aside0 (Below w.heap.size w w'))
    case atStart => exact ⟨(t647), (0), zT, H', ⟨Nat.le_refl _⟩, ⟨by (with_reducible repeat (first | apply Kd.R_alloc | apply Kd.R_drewN | apply Kd.R_drew)); exact HO649.out⟩, ⟨by repeat (first | (with_reducible first | exact HB.out | apply below_alloc | apply pw_below_drewN | apply below_drew1) | exact HB.out)⟩⟩
    case round =>
     clear H'
     try clear c2
     try clear c2b0
     obtain ⟨x6_2, x27_2, rfl, HA, HK2, HO_6, HB⟩ := hrel
     cases gk with
     | zero => exact absurd HA.out (by simp [slices_Concat_int_int.l1])
     | succ k2 =>
      have H := HA.out
      clear HA
      simp only [slices_Concat_int_int.l1] at H
      by_cases c8 : x27_2 < (l0.length : Int)
      ·rw [if_pos c8] at H
       have c8b0 : decide (x27_2 < (l0.length : Int)) = true := decide_eq_true c8
       clear c8
       by_cases c9 : 0 ≤ x27_2
       ·rw [if_pos c9] at H
        have c9b0 : decide (0 ≤ x27_2) = true := decide_eq_true c9
        clear c9
        by_cases c10 : x27_2 < (l0.length : Int)
        ·rw [if_pos c10] at H
         have c10b0 : decide (x27_2 < (l0.length : Int)) = true := decide_eq_true c10
         clear c10
         by_cases c11 : x6_2.length + (rd_L1 l0 x27_2).length < 17592186044416
         ·rw [if_pos c11] at H
          have LMc11 := Aside0.mk c11
          clear c11
          obtain ⟨y651, hy651⟩ : ∃ y_ : List Int, y_ = (x6_2 ++ (rd_L1 l0 x27_2)) := ⟨_, rfl⟩
          replace H : (slices_Concat_int_int.l1 k2 y651 l0 (l0.length : Int) (wrap64 (x27_2 + 1))) = some r := by first | (rw [hy651]; with_reducible exact H) | (have H2_ := (Option.bind_some _ _).symm.trans H; rw [hy651]; with_reducible exact H2_) | (have H2_ := (Option.bind_some _ _).symm.trans H; with_reducible exact H2_) | with_reducible exact H | (rw [hy651]; exact H) | exact H
          have Ny651 := Aside0.mk hy651
          clear hy651
          have H' := Aside0.mk H
          clear H
          have p650 : 0 ≤ (x27_2 : Int) := of_decide_eq_true zh
          have q650 : x27_2 < (l0.length : Int) := of_decide_eq_true zh
          obtain ⟨ad650, A650_0, c650_0, e650, hx650_0, hl650_0, hi650_0⟩ := at_L1 HR0.out x27_2 p650 q650
          cases e650
          replace hx650_0 := (HB.out.cell (World.block_lt_of_cell? w _ hx650_0)).trans hx650_0
          have HR650_0 := Aside0.mk hi650_0
          have HC650_0 := Aside0.mk hl650_0
          clear hi650_0 hl650_0
          replace p650 := eq_true p650
          replace q650 := eq_true q650
          go_wp2_with (first | ((with_reducible refine gate_builtin (b := .append) (xs := #[.tmp 31, .tmp 32]) rfl ?_); at_builtin; refine Kd.R_append_rows (Kd.int .i64) (w0 := w) w.heap.size rfl (.tmp 31) (.tmp 32) 42 3 (.int .i64 0) 8 rfl Try.underlying42 info3 rfl (by decide) (by omega) u6 x6_2 (rd_L1 l0 x27_2) _ _ _ (fun _ => True) (fun _ => False) rfl rfl ?aO ?aR (fun _ _ h => h) (fun _ h => h.elim) ?aF ?aB ?aS ?aL ?_; (case aR => repeat (first | exact (Kd.C_below HR650_0.out HB.out) | (with_reducible refine Kd.C_alloc ?_ _) | (with_reducible refine Kd.C_drewN ?_ _) | (with_reducible refine Kd.C_drew ?_))); (case aB => exact zB); (case aF => exact (fun _ _ => trivial)); (case aO => exact (zR HO_6)); (case aS => exact (below_size zB)); (case aL => have := LMc11.out; omega); intro v652 w12 ho hb hg hat; rw [← Ny651.out] at ho; have n0_ := Aside0.mk (hb); have n1_ := Aside0.mk (ho); clear HB; clear HO_6; have HB := n0_; have HO653 := n1_; clear n0_ n1_; clear ho hb hg hat))
          go_roundg k2
          case measure => have := HK1.out; have := HK2.out; omega
          case rel => exact ⟨(y651), (wrap64 (x27_2 + 1)), zT, H', ⟨by have := HK1.out; have := HK2.out; omega⟩, ⟨by (with_reducible repeat (first | apply Kd.R_alloc | apply Kd.R_drewN | apply Kd.R_drew)); exact HO653.out⟩, ⟨by repeat (first | (with_reducible first | exact HB.out | apply below_alloc | apply pw_below_drewN | apply below_drew1) | exact HB.out)⟩⟩
         ·rw [if_neg c11] at H
          exact absurd H (by simp)
        ·rw [if_neg c10] at H
         exact absurd H (by simp)
       ·rw [if_neg c9] at H
        exact absurd H (by simp)
      ·rw [if_neg c8] at H
       have c8b0 : decide (x27_2 < (l0.length : Int)) = false := decide_eq_false c8
       clear c8
       obtain rfl := Option.some.inj H
       go_wp2
       go_ret
       exact ⟨_, by first | rfl | (simp [errW_none, errW_some] <;> rfl) | (simp [*, errW_none, errW_some] <;> rfl), by (with_reducible repeat (first | apply Kd.R_alloc | apply Kd.R_drewN | apply Kd.R_drew)); exact HO_6.out, by repeat (first | (with_reducible first | exact HB.out | apply below_alloc | apply pw_below_drewN | apply below_drew1) | exact HB.out)⟩
/-! ### ancepslaw40_SolveParts: function 10 -/
def ancepslaw40_SolveParts.j0 : Nat → List Int → List Int → List Int → Bool → Option (Bool)
 | 0, _, _, _, _ => none
 | k + 1, x12, x14, x16, x80 => if x80 = true then (some false) else ((slices_Concat_int_int.f k (([x14, x16] : List (List Int)))).bind fun t685 => ((slices_Sort_int_int.f t685).bind fun t688 => ((slices_Equal_int_int.f k t688 x12).bind fun t689 => (some t689))))
def ancepslaw40_SolveParts.f (k : Nat) (l0 : List (S85)) (a1 : Int) : Option (Bool) := (ancepslaw40_awake.f k).bind fun t654 => (if t654 = true then ((ancepsref40_Made.f k l0).bind fun t655 => ((solve_Vars.f k t655).bind fun t658 => (if (t658.length : Int) = 0 then (some true) else (if 0 ≤ (Int.tmod (wrap64 (a1)) (t658.length : Int)) then (if (Int.tmod (wrap64 (a1)) (t658.length : Int)) < (t658.length : Int) then ((solve_Given.f k t655 (rd t658 (Int.tmod (wrap64 (a1)) (t658.length : Int))) 0).bind fun bt662 => ((solve_Given.f k t655 (rd t658 (Int.tmod (wrap64 (a1)) (t658.length : Int))) 1).bind fun bt666 => ((solve_All.f k t655).bind fun bt670 => ((solve_All.f k bt662.1).bind fun bt674 => ((solve_All.f k bt666.1).bind fun bt678 => (if bt662.2 = 0 then (if bt666.2 = 0 then (if bt670.2 = 0 then (if bt674.2 = 0 then (ancepslaw40_SolveParts.j0 k bt670.1 bt674.1 bt678.1 (bt678.2 != 0)) else (ancepslaw40_SolveParts.j0 k bt670.1 bt674.1 bt678.1 true)) else (ancepslaw40_SolveParts.j0 k bt670.1 bt674.1 bt678.1 true)) else (ancepslaw40_SolveParts.j0 k bt670.1 bt674.1 bt678.1 true)) else (ancepslaw40_SolveParts.j0 k bt670.1 bt674.1 bt678.1 true))))))) else (none)) else (none))))) else (some false))
theorem ancepslaw40_SolveParts.mono_l : ∀ k, (∀ y0 y1 y2 y3, LeO (ancepslaw40_SolveParts.j0 k y0 y1 y2 y3) (ancepslaw40_SolveParts.j0 (k + 1) y0 y1 y2 y3))
 | 0 => fun _ _ _ _ r h => by simp [ancepslaw40_SolveParts.j0] at h
 | k + 1 => by
  have ih0 := ancepslaw40_SolveParts.mono_l k
  ·intro y0 y1 y2 y3
   unfold ancepslaw40_SolveParts.j0
   repeat' first
   | (with_reducible exact ih0 _ _ _ _)
   | (with_reducible exact ancepslaw40_awake.mono _)
   | (with_reducible exact ancepsref40_Made.mono _ _)
   | (with_reducible exact slices_Concat_int_int.mono _ _)
   | (with_reducible exact slices_Equal_int_int.mono _ _ _)
   | (with_reducible exact solve_All.mono _ _)
   | (with_reducible exact solve_Given.mono _ _ _ _)
   | (with_reducible exact solve_Vars.mono _ _)
   | (with_reducible exact LeO.refl _)
   | (with_reducible exact LeO.none _)
   | (with_reducible refine LeO.ite ?_ ?_)
   | (with_reducible refine LeO.bind ?_ (fun _ => ?_))
   | exact ih0 _ _ _ _
   | exact ancepslaw40_awake.mono _
   | exact ancepsref40_Made.mono _ _
   | exact slices_Concat_int_int.mono _ _
   | exact slices_Equal_int_int.mono _ _ _
   | exact solve_All.mono _ _
   | exact solve_Given.mono _ _ _ _
   | exact solve_Vars.mono _ _
   | exact LeO.none _
   | refine LeO.ite ?_ ?_
   | refine LeO.bind ?_ (fun _ => ?_)
theorem ancepslaw40_SolveParts.mono : ∀ a0 a1 k, LeO (ancepslaw40_SolveParts.f k a0 a1) (ancepslaw40_SolveParts.f (k + 1) a0 a1) := by
 intro a0 a1 k
 have ih0 := ancepslaw40_SolveParts.mono_l k
 unfold ancepslaw40_SolveParts.f
 repeat' first
   | (with_reducible exact ih0 _ _ _ _)
   | (with_reducible exact ancepslaw40_awake.mono _)
   | (with_reducible exact ancepsref40_Made.mono _ _)
   | (with_reducible exact slices_Concat_int_int.mono _ _)
   | (with_reducible exact slices_Equal_int_int.mono _ _ _)
   | (with_reducible exact solve_All.mono _ _)
   | (with_reducible exact solve_Given.mono _ _ _ _)
   | (with_reducible exact solve_Vars.mono _ _)
   | (with_reducible exact LeO.refl _)
   | (with_reducible exact LeO.none _)
   | (with_reducible refine LeO.ite ?_ ?_)
   | (with_reducible refine LeO.bind ?_ (fun _ => ?_))
   | exact ih0 _ _ _ _
   | exact ancepslaw40_awake.mono _
   | exact ancepsref40_Made.mono _ _
   | exact slices_Concat_int_int.mono _ _
   | exact slices_Equal_int_int.mono _ _ _
   | exact solve_All.mono _ _
   | exact solve_Given.mono _ _ _ _
   | exact solve_Vars.mono _ _
   | exact LeO.none _
   | refine LeO.ite ?_ ?_
   | refine LeO.bind ?_ (fun _ => ?_)
set_option maxHeartbeats 8000000 in
set_option maxRecDepth 100000 in
theorem ancepslaw40_SolveParts.calls (k : Nat) (A0 : Option Addr) (c0 : Nat) (l0 : List (S85)) (a1 : Int) (r : Bool) (w : World) (hr0 : Kd.C k85 w A0 l0.length l0) (hc0 : l0.length ≤ c0) (h : ancepslaw40_SolveParts.f k l0 a1 = some r) :
  Calls Try.prog 10 #[.slice A0 l0.length c0, .int .u8 a1] w fun e w' => e = .returned (.bool r) ∧ Below w.heap.size w w' := by
 have hu3 := Try.underlying3
 have HR0 := Aside0.mk hr0
 have HC0 := Aside0.mk hc0
 clear hr0 hc0
 have HB := Aside0.mk (Below.refl w.heap.size w)
 have H : ((ancepslaw40_awake.f k).bind fun t654 => (if t654 = true then ((ancepsref40_Made.f k l0).bind fun t655 => ((solve_Vars.f k t655).bind fun t658 => (if (t658.length : Int) = 0 then (some true) else (if 0 ≤ (Int.tmod (wrap64 (a1)) (t658.length : Int)) then (if (Int.tmod (wrap64 (a1)) (t658.length : Int)) < (t658.length : Int) then ((solve_Given.f k t655 (rd t658 (Int.tmod (wrap64 (a1)) (t658.length : Int))) 0).bind fun bt662 => ((solve_Given.f k t655 (rd t658 (Int.tmod (wrap64 (a1)) (t658.length : Int))) 1).bind fun bt666 => ((solve_All.f k t655).bind fun bt670 => ((solve_All.f k bt662.1).bind fun bt674 => ((solve_All.f k bt666.1).bind fun bt678 => (if bt662.2 = 0 then (if bt666.2 = 0 then (if bt670.2 = 0 then (if bt674.2 = 0 then (ancepslaw40_SolveParts.j0 k bt670.1 bt674.1 bt678.1 (bt678.2 != 0)) else (ancepslaw40_SolveParts.j0 k bt670.1 bt674.1 bt678.1 true)) else (ancepslaw40_SolveParts.j0 k bt670.1 bt674.1 bt678.1 true)) else (ancepslaw40_SolveParts.j0 k bt670.1 bt674.1 bt678.1 true)) else (ancepslaw40_SolveParts.j0 k bt670.1 bt674.1 bt678.1 true))))))) else (none)) else (none))))) else (some false))) = some r := h
 clear h
 replace H := Option.bind_eq_some_iff.mp H
 obtain ⟨t654, A30, H⟩ := H
 replace H : (if t654 = true then ((ancepsref40_Made.f k l0).bind fun t655 => ((solve_Vars.f k t655).bind fun t658 => (if (t658.length : Int) = 0 then (some true) else (if 0 ≤ (Int.tmod (wrap64 (a1)) (t658.length : Int)) then (if (Int.tmod (wrap64 (a1)) (t658.length : Int)) < (t658.length : Int) then ((solve_Given.f k t655 (rd t658 (Int.tmod (wrap64 (a1)) (t658.length : Int))) 0).bind fun bt662 => ((solve_Given.f k t655 (rd t658 (Int.tmod (wrap64 (a1)) (t658.length : Int))) 1).bind fun bt666 => ((solve_All.f k t655).bind fun bt670 => ((solve_All.f k bt662.1).bind fun bt674 => ((solve_All.f k bt666.1).bind fun bt678 => (if bt662.2 = 0 then (if bt666.2 = 0 then (if bt670.2 = 0 then (if bt674.2 = 0 then (ancepslaw40_SolveParts.j0 k bt670.1 bt674.1 bt678.1 (bt678.2 != 0)) else (ancepslaw40_SolveParts.j0 k bt670.1 bt674.1 bt678.1 true)) else (ancepslaw40_SolveParts.j0 k bt670.1 bt674.1 bt678.1 true)) else (ancepslaw40_SolveParts.j0 k bt670.1 bt674.1 bt678.1 true)) else (ancepslaw40_SolveParts.j0 k bt670.1 bt674.1 bt678.1 true))))))) else (none)) else (none))))) else (some false)) = some r := H
 have A3 := Aside0.mk A30
 clear A30
 have HC4 := Aside0.mk H
 clear H
 go_enter Try.func10, Try.ntmps10
 go_upto_if 20 with (first | ((with_reducible refine gate_callee (f := 12) rfl ?_); refine goesL_ (some 19) rfl rfl Try.func12 zK rfl #[] rfl zM ?_; (with_reducible refine (ancepslaw40_awake.calls k  t654 _ A3.out).mono ?_); rintro e w5 ⟨rfl, hb⟩; refine ⟨_, rfl, ?_⟩; have n0_ := Aside0.mk (below_step zB hb); clear HB; have HB := n0_; clear n0_; (try clear hb); (try clear hb2); (try clear hk); (try clear hi)))
 (try simp only [Act.put, List.setIfInBounds_toArray, List.set_cons_zero, List.set_cons_succ])
 have H := HC4.out
 clear HC4
 by_cases c6 : t654 = true
 ·subst c6
  have H1 : ((ancepsref40_Made.f k l0).bind fun t655 => ((solve_Vars.f k t655).bind fun t658 => (if (t658.length : Int) = 0 then (some true) else (if 0 ≤ (Int.tmod (wrap64 (a1)) (t658.length : Int)) then (if (Int.tmod (wrap64 (a1)) (t658.length : Int)) < (t658.length : Int) then ((solve_Given.f k t655 (rd t658 (Int.tmod (wrap64 (a1)) (t658.length : Int))) 0).bind fun bt662 => ((solve_Given.f k t655 (rd t658 (Int.tmod (wrap64 (a1)) (t658.length : Int))) 1).bind fun bt666 => ((solve_All.f k t655).bind fun bt670 => ((solve_All.f k bt662.1).bind fun bt674 => ((solve_All.f k bt666.1).bind fun bt678 => (if bt662.2 = 0 then (if bt666.2 = 0 then (if bt670.2 = 0 then (if bt674.2 = 0 then (ancepslaw40_SolveParts.j0 k bt670.1 bt674.1 bt678.1 (bt678.2 != 0)) else (ancepslaw40_SolveParts.j0 k bt670.1 bt674.1 bt678.1 true)) else (ancepslaw40_SolveParts.j0 k bt670.1 bt674.1 bt678.1 true)) else (ancepslaw40_SolveParts.j0 k bt670.1 bt674.1 bt678.1 true)) else (ancepslaw40_SolveParts.j0 k bt670.1 bt674.1 bt678.1 true))))))) else (none)) else (none))))) = some r := by rw [if_pos rfl] at H; exact H
  clear H
  have H := H1
  clear H1
  replace H := Option.bind_eq_some_iff.mp H
  obtain ⟨t655, A70, H⟩ := H
  replace H : ((solve_Vars.f k t655).bind fun t658 => (if (t658.length : Int) = 0 then (some true) else (if 0 ≤ (Int.tmod (wrap64 (a1)) (t658.length : Int)) then (if (Int.tmod (wrap64 (a1)) (t658.length : Int)) < (t658.length : Int) then ((solve_Given.f k t655 (rd t658 (Int.tmod (wrap64 (a1)) (t658.length : Int))) 0).bind fun bt662 => ((solve_Given.f k t655 (rd t658 (Int.tmod (wrap64 (a1)) (t658.length : Int))) 1).bind fun bt666 => ((solve_All.f k t655).bind fun bt670 => ((solve_All.f k bt662.1).bind fun bt674 => ((solve_All.f k bt666.1).bind fun bt678 => (if bt662.2 = 0 then (if bt666.2 = 0 then (if bt670.2 = 0 then (if bt674.2 = 0 then (ancepslaw40_SolveParts.j0 k bt670.1 bt674.1 bt678.1 (bt678.2 != 0)) else (ancepslaw40_SolveParts.j0 k bt670.1 bt674.1 bt678.1 true)) else (ancepslaw40_SolveParts.j0 k bt670.1 bt674.1 bt678.1 true)) else (ancepslaw40_SolveParts.j0 k bt670.1 bt674.1 bt678.1 true)) else (ancepslaw40_SolveParts.j0 k bt670.1 bt674.1 bt678.1 true))))))) else (none)) else (none)))) = some r := H
  have A7 := Aside0.mk A70
  clear A70
  replace H := Option.bind_eq_some_iff.mp H
  obtain ⟨t658, A80, H⟩ := H
  replace H : (if (t658.length : Int) = 0 then (some true) else (if 0 ≤ (Int.tmod (wrap64 (a1)) (t658.length : Int)) then (if (Int.tmod (wrap64 (a1)) (t658.length : Int)) < (t658.length : Int) then ((solve_Given.f k t655 (rd t658 (Int.tmod (wrap64 (a1)) (t658.length : Int))) 0).bind fun bt662 => ((solve_Given.f k t655 (rd t658 (Int.tmod (wrap64 (a1)) (t658.length : Int))) 1).bind fun bt666 => ((solve_All.f k t655).bind fun bt670 => ((solve_All.f k bt662.1).bind fun bt674 => ((solve_All.f k bt666.1).bind fun bt678 => (if bt662.2 = 0 then (if bt666.2 = 0 then (if bt670.2 = 0 then (if bt674.2 = 0 then (ancepslaw40_SolveParts.j0 k bt670.1 bt674.1 bt678.1 (bt678.2 != 0)) else (ancepslaw40_SolveParts.j0 k bt670.1 bt674.1 bt678.1 true)) else (ancepslaw40_SolveParts.j0 k bt670.1 bt674.1 bt678.1 true)) else (ancepslaw40_SolveParts.j0 k bt670.1 bt674.1 bt678.1 true)) else (ancepslaw40_SolveParts.j0 k bt670.1 bt674.1 bt678.1 true))))))) else (none)) else (none))) = some r := H
  have A8 := Aside0.mk A80
  clear A80
  have HC9 := Aside0.mk H
  clear H
  go_upto_if 27 with (first | ((with_reducible refine gate_callee (f := 23) rfl ?_); refine goesL_ (some 22) rfl rfl Try.func23 zK rfl #[.slice A0 l0.length c0] rfl zM ?_; (with_reducible refine (ancepsref40_Made.calls k _ _ l0 t655 _ ?side1 ?side2 A7.out).mono ?_); (case side1 => repeat (first | exact (Kd.C_below HR0.out HB.out) | (with_reducible refine Kd.C_alloc ?_ _) | (with_reducible refine Kd.C_drewN ?_ _) | (with_reducible refine Kd.C_drew ?_))); (case side2 => exact HC0.out); rintro e w10 ⟨v656, rfl, ho0, hb⟩; refine ⟨_, rfl, ?_⟩; have n0_ := Aside0.mk (Kd.N_lower (Kd.N_mono (ok' := fun k_ => True) (Kd.S_N (Kd.S_bound ho0)) (fun k_ hk_ => trivial)) (below_size zB)); have n1_ := Aside0.mk (below_step zB hb); clear HB; have HO657 := n0_; have HB := n1_; clear n0_ n1_; (try clear hb); (try clear hb2); (try clear hk); (try clear hi); (try clear ho0); obtain ⟨Ao11, co11, eo11⟩ := Kd.N_slice HO657.out; subst eo11) | ((with_reducible refine gate_callee (f := 30) rfl ?_); refine goesL_ (some 24) rfl rfl Try.func30 zK rfl #[.slice Ao11 t655.length co11] rfl zM ?_; (with_reducible refine (solve_Vars.calls k _ _ t655 t658 _ ?side1 ?side2 A8.out).mono ?_); (case side1 => repeat (first | exact (Kd.N_reads' HO657.out).2.2 | (with_reducible refine Kd.C_alloc ?_ _) | (with_reducible refine Kd.C_drewN ?_ _) | (with_reducible refine Kd.C_drew ?_))); (case side2 => exact (Kd.N_reads' HO657.out).2.1); rintro e w12 ⟨v659, rfl, ho0, hb⟩; refine ⟨_, rfl, ?_⟩; have n0_ := Aside0.mk (Kd.N_elder' (zN HO657) (Kd.R_base ho0) hb); have n1_ := Aside0.mk (Kd.R_lower ho0 (below_size zB)); have n2_ := Aside0.mk (below_step zB hb); clear HO657; clear HB; have HO657 := n0_; have HO660 := n1_; have HB := n2_; clear n0_ n1_ n2_; (try clear hb); (try clear hb2); (try clear hk); (try clear hi); (try clear ho0); obtain ⟨Ao13, co13, eo13⟩ := Kd.R_slice HO660.out; subst eo13))
  (try simp only [Act.put, List.setIfInBounds_toArray, List.set_cons_zero, List.set_cons_succ])
  have H := HC9.out
  clear HC9
  by_cases c14 : (t658.length : Int) = 0
  ·rw [if_pos c14] at H
   have c14b0 : ((t658.length : Int) == 0) = true := beq_iff_eq.mpr c14
   have c14b1 : ((t658.length : Int) != 0) = false := bne_eq_false_iff_eq.mpr c14
   clear c14
   (first | rw [c14b0] | (simp only [i64_w, i32_w]; rw [c14b0]) | skip)
   (try rw [c14b1])
   obtain rfl := Option.some.inj H
   go_wp2
   go_ret
   exact ⟨by first | rfl | (simp [errW_none, errW_some] <;> rfl) | (simp [*, errW_none, errW_some] <;> rfl), by repeat (first | (with_reducible first | exact HB.out | apply below_alloc | apply pw_below_drewN | apply below_drew1) | exact HB.out)⟩
  ·rw [if_neg c14] at H
   have c14b0 : ((t658.length : Int) == 0) = false := beq_eq_false_iff_ne.mpr c14
   have c14b1 : ((t658.length : Int) != 0) = true := bne_iff_ne.mpr c14
   have c14b2 : ¬ (t658 = []) := fun h_ => c14 (by rw [h_]; rfl)
   (first | rw [c14b0] | (simp only [i64_w, i32_w]; rw [c14b0]) | skip)
   (try rw [c14b1])
   (try rw [c14b2])
   obtain ⟨ji15, hji15⟩ : ∃ j_ : Int, (Int.tmod (wrap64 (a1)) (t658.length : Int)) = j_ := ⟨_, rfl⟩
   replace H : (if 0 ≤ (ji15) then (if (ji15) < (t658.length : Int) then ((solve_Given.f k t655 (rd t658 (ji15)) 0).bind fun bt662 => ((solve_Given.f k t655 (rd t658 (ji15)) 1).bind fun bt666 => ((solve_All.f k t655).bind fun bt670 => ((solve_All.f k bt662.1).bind fun bt674 => ((solve_All.f k bt666.1).bind fun bt678 => (if bt662.2 = 0 then (if bt666.2 = 0 then (if bt670.2 = 0 then (if bt674.2 = 0 then (ancepslaw40_SolveParts.j0 k bt670.1 bt674.1 bt678.1 (bt678.2 != 0)) else (ancepslaw40_SolveParts.j0 k bt670.1 bt674.1 bt678.1 true)) else (ancepslaw40_SolveParts.j0 k bt670.1 bt674.1 bt678.1 true)) else (ancepslaw40_SolveParts.j0 k bt670.1 bt674.1 bt678.1 true)) else (ancepslaw40_SolveParts.j0 k bt670.1 bt674.1 bt678.1 true))))))) else (none)) else (none)) = some r := by first | (rw [hji15] at H; exact H) | (simp only [hji15] at H ⊢; exact H)
   by_cases c16 : 0 ≤ (ji15)
   ·rw [if_pos c16] at H
    have c16b0 : decide (0 ≤ (ji15)) = true := decide_eq_true c16
    clear c16
    by_cases c17 : (ji15) < (t658.length : Int)
    ·rw [if_pos c17] at H
     have c17b0 : decide ((ji15) < (t658.length : Int)) = true := decide_eq_true c17
     clear c17
     replace H := Option.bind_eq_some_iff.mp H
     obtain ⟨⟨t662, t663⟩, A180, H⟩ := H
     replace H : ((solve_Given.f k t655 (rd t658 (ji15)) 1).bind fun bt666 => ((solve_All.f k t655).bind fun bt670 => ((solve_All.f k t662).bind fun bt674 => ((solve_All.f k bt666.1).bind fun bt678 => (if t663 = 0 then (if bt666.2 = 0 then (if bt670.2 = 0 then (if bt674.2 = 0 then (ancepslaw40_SolveParts.j0 k bt670.1 bt674.1 bt678.1 (bt678.2 != 0)) else (ancepslaw40_SolveParts.j0 k bt670.1 bt674.1 bt678.1 true)) else (ancepslaw40_SolveParts.j0 k bt670.1 bt674.1 bt678.1 true)) else (ancepslaw40_SolveParts.j0 k bt670.1 bt674.1 bt678.1 true)) else (ancepslaw40_SolveParts.j0 k bt670.1 bt674.1 bt678.1 true)))))) = some r := H
     have A18 := Aside0.mk A180
     clear A180
     replace H := Option.bind_eq_some_iff.mp H
     obtain ⟨⟨t666, t667⟩, A190, H⟩ := H
     replace H : ((solve_All.f k t655).bind fun bt670 => ((solve_All.f k t662).bind fun bt674 => ((solve_All.f k t666).bind fun bt678 => (if t663 = 0 then (if t667 = 0 then (if bt670.2 = 0 then (if bt674.2 = 0 then (ancepslaw40_SolveParts.j0 k bt670.1 bt674.1 bt678.1 (bt678.2 != 0)) else (ancepslaw40_SolveParts.j0 k bt670.1 bt674.1 bt678.1 true)) else (ancepslaw40_SolveParts.j0 k bt670.1 bt674.1 bt678.1 true)) else (ancepslaw40_SolveParts.j0 k bt670.1 bt674.1 bt678.1 true)) else (ancepslaw40_SolveParts.j0 k bt670.1 bt674.1 bt678.1 true))))) = some r := H
     have A19 := Aside0.mk A190
     clear A190
     replace H := Option.bind_eq_some_iff.mp H
     obtain ⟨⟨t670, t671⟩, A200, H⟩ := H
     replace H : ((solve_All.f k t662).bind fun bt674 => ((solve_All.f k t666).bind fun bt678 => (if t663 = 0 then (if t667 = 0 then (if t671 = 0 then (if bt674.2 = 0 then (ancepslaw40_SolveParts.j0 k t670 bt674.1 bt678.1 (bt678.2 != 0)) else (ancepslaw40_SolveParts.j0 k t670 bt674.1 bt678.1 true)) else (ancepslaw40_SolveParts.j0 k t670 bt674.1 bt678.1 true)) else (ancepslaw40_SolveParts.j0 k t670 bt674.1 bt678.1 true)) else (ancepslaw40_SolveParts.j0 k t670 bt674.1 bt678.1 true)))) = some r := H
     have A20 := Aside0.mk A200
     clear A200
     replace H := Option.bind_eq_some_iff.mp H
     obtain ⟨⟨t674, t675⟩, A210, H⟩ := H
     replace H : ((solve_All.f k t666).bind fun bt678 => (if t663 = 0 then (if t667 = 0 then (if t671 = 0 then (if t675 = 0 then (ancepslaw40_SolveParts.j0 k t670 t674 bt678.1 (bt678.2 != 0)) else (ancepslaw40_SolveParts.j0 k t670 t674 bt678.1 true)) else (ancepslaw40_SolveParts.j0 k t670 t674 bt678.1 true)) else (ancepslaw40_SolveParts.j0 k t670 t674 bt678.1 true)) else (ancepslaw40_SolveParts.j0 k t670 t674 bt678.1 true))) = some r := H
     have A21 := Aside0.mk A210
     clear A210
     replace H := Option.bind_eq_some_iff.mp H
     obtain ⟨⟨t678, t679⟩, A220, H⟩ := H
     replace H : (if t663 = 0 then (if t667 = 0 then (if t671 = 0 then (if t675 = 0 then (ancepslaw40_SolveParts.j0 k t670 t674 t678 (t679 != 0)) else (ancepslaw40_SolveParts.j0 k t670 t674 t678 true)) else (ancepslaw40_SolveParts.j0 k t670 t674 t678 true)) else (ancepslaw40_SolveParts.j0 k t670 t674 t678 true)) else (ancepslaw40_SolveParts.j0 k t670 t674 t678 true)) = some r := H
     have A22 := Aside0.mk A220
     clear A220
     have HC23 := Aside0.mk H
     clear H
     have p661 : 0 ≤ ((ji15) : Int) := of_decide_eq_true zh
     have q661 : (ji15) < (t658.length : Int) := of_decide_eq_true zh
     obtain ⟨ad661, e661, hx661_0⟩ := Kd.at_int (Kd.R_reads' HO660.out).2.2 (ji15) p661 q661
     cases e661
     replace p661 := eq_true p661
     replace q661 := eq_true q661
     go_upto_region 13 with (first | ((with_reducible refine gate_callee (f := 32) rfl ?_); refine goesL_ (some 39) rfl rfl Try.func32 zK rfl #[.slice Ao11 t655.length co11, .int .i64 (rd t658 (ji15)), .int .i64 0] rfl (by (try simp only [List.map_toArray, List.map_cons, List.map_nil]); first | done | (simp only [hji15]; rfl) | rfl | (simp only [List.length_drop, List.length_take]; rfl)) ?_; (with_reducible refine (solve_Given.calls k _ _ t655 (rd t658 (ji15)) 0 t662 t663 _ ?side1 ?side2 A18.out).mono ?_); (case side1 => repeat (first | exact (Kd.N_reads' HO657.out).2.2 | (with_reducible refine Kd.C_alloc ?_ _) | (with_reducible refine Kd.C_drewN ?_ _) | (with_reducible refine Kd.C_drew ?_))); (case side2 => exact (Kd.N_reads' HO657.out).2.1); rintro e w24 ⟨v664, rfl, ho0, hb⟩; refine ⟨_, rfl, ?_⟩; have n0_ := Aside0.mk (Kd.N_elder' (zN HO657) (Kd.N_base (Kd.S_N ho0)) hb); have n1_ := Aside0.mk (Kd.R_below (zR HO660) hb); have n2_ := Aside0.mk (Kd.N_lower (Kd.N_mono (ok' := fun k_ => some k_ ≠ (.slice Ao11 t655.length co11 : Value).ownBlock ∧ some k_ ≠ (.slice (some ad661) t658.length co13 : Value).ownBlock) (Kd.S_N (Kd.S_bound ho0)) (fun k_ hk_ => ⟨(Kd.fresh' (Kd.N_lt (zN HO657)) k_ hk_.2.1), (Kd.fresh' (Kd.R_lt (zR HO660)) k_ hk_.2.1)⟩)) (below_size zB)); have n3_ := Aside0.mk (below_step zB hb); clear HO657; clear HO660; clear HB; have HO657 := n0_; have HO660 := n1_; have HO665 := n2_; have HB := n3_; clear n0_ n1_ n2_ n3_; (try clear hb); (try clear hb2); (try clear hk); (try clear hi); (try clear ho0)) | ((with_reducible refine gate_callee (f := 32) rfl ?_); refine goesL_ (some 45) rfl rfl Try.func32 zK rfl #[.slice Ao11 t655.length co11, .int .i64 (rd t658 (ji15)), .int .i64 1] rfl (by (try simp only [List.map_toArray, List.map_cons, List.map_nil]); first | done | (simp only [hji15]; rfl) | rfl | (simp only [List.length_drop, List.length_take]; rfl)) ?_; (with_reducible refine (solve_Given.calls k _ _ t655 (rd t658 (ji15)) 1 t666 t667 _ ?side1 ?side2 A19.out).mono ?_); (case side1 => repeat (first | exact (Kd.N_reads' HO657.out).2.2 | (with_reducible refine Kd.C_alloc ?_ _) | (with_reducible refine Kd.C_drewN ?_ _) | (with_reducible refine Kd.C_drew ?_))); (case side2 => exact (Kd.N_reads' HO657.out).2.1); rintro e w25 ⟨v668, rfl, ho0, hb⟩; refine ⟨_, rfl, ?_⟩; have n0_ := Aside0.mk (Kd.N_elder' (zN HO657) (Kd.N_base (Kd.S_N ho0)) hb); have n1_ := Aside0.mk (Kd.R_below (zR HO660) hb); have n2_ := Aside0.mk (Kd.N_elder' (zN HO665) (Kd.N_base (Kd.S_N ho0)) hb); have n3_ := Aside0.mk (Kd.N_lower (Kd.N_mono (ok' := fun k_ => some k_ ≠ (.slice Ao11 t655.length co11 : Value).ownBlock ∧ some k_ ≠ (.slice (some ad661) t658.length co13 : Value).ownBlock ∧ some k_ ≠ (v664 : Value).ownBlock) (Kd.S_N (Kd.S_bound ho0)) (fun k_ hk_ => ⟨(Kd.fresh' (Kd.N_lt (zN HO657)) k_ hk_.2.1), (Kd.fresh' (Kd.R_lt (zR HO660)) k_ hk_.2.1), (Kd.fresh' (Kd.N_lt (zN HO665)) k_ hk_.2.1)⟩)) (below_size zB)); have n4_ := Aside0.mk (below_step zB hb); clear HO657; clear HO660; clear HO665; clear HB; have HO657 := n0_; have HO660 := n1_; have HO665 := n2_; have HO669 := n3_; have HB := n4_; clear n0_ n1_ n2_ n3_ n4_; (try clear hb); (try clear hb2); (try clear hk); (try clear hi); (try clear ho0)) | ((with_reducible refine gate_callee (f := 25) rfl ?_); refine goesL_ (some 50) rfl rfl Try.func25 zK rfl #[.slice Ao11 t655.length co11] rfl zM ?_; (with_reducible refine (solve_All.calls k _ _ t655 t670 t671 _ ?side1 ?side2 A20.out).mono ?_); (case side1 => repeat (first | exact (Kd.N_reads' HO657.out).2.2 | (with_reducible refine Kd.C_alloc ?_ _) | (with_reducible refine Kd.C_drewN ?_ _) | (with_reducible refine Kd.C_drew ?_))); (case side2 => exact (Kd.N_reads' HO657.out).2.1); rintro e w26 ⟨v672, rfl, ho0, hb⟩; refine ⟨_, rfl, ?_⟩; have n0_ := Aside0.mk (Kd.N_elder' (zN HO657) (Kd.R_base ho0) hb); have n1_ := Aside0.mk (Kd.R_elder' (zR HO660) (Kd.R_base ho0) hb); have n2_ := Aside0.mk (Kd.N_elder' (zN HO665) (Kd.R_base ho0) hb); have n3_ := Aside0.mk (Kd.N_elder' (zN HO669) (Kd.R_base ho0) hb); have n4_ := Aside0.mk (Kd.R_lower (Kd.R_new' ho0 (Kd.R_lt (zR HO660))) (below_size zB)); have n5_ := Aside0.mk (below_step zB hb); clear HO657; clear HO660; clear HO665; clear HO669; clear HB; have HO657 := n0_; have HO660 := n1_; have HO665 := n2_; have HO669 := n3_; have HO673 := n4_; have HB := n5_; clear n0_ n1_ n2_ n3_ n4_ n5_; (try clear hb); (try clear hb2); (try clear hk); (try clear hi); (try clear ho0); obtain ⟨Ao27, co27, eo27⟩ := Kd.N_slice HO665.out; subst eo27) | ((with_reducible refine gate_callee (f := 25) rfl ?_); refine goesL_ (some 55) rfl rfl Try.func25 zK rfl #[.slice Ao27 t662.length co27] rfl zM ?_; (with_reducible refine (solve_All.calls k _ _ t662 t674 t675 _ ?side1 ?side2 A21.out).mono ?_); (case side1 => repeat (first | exact (Kd.N_reads' HO665.out).2.2 | (with_reducible refine Kd.C_alloc ?_ _) | (with_reducible refine Kd.C_drewN ?_ _) | (with_reducible refine Kd.C_drew ?_))); (case side2 => exact (Kd.N_reads' HO665.out).2.1); rintro e w28 ⟨v676, rfl, ho0, hb⟩; refine ⟨_, rfl, ?_⟩; have n0_ := Aside0.mk (Kd.N_elder' (zN HO657) (Kd.R_base ho0) hb); have n1_ := Aside0.mk (Kd.R_elder' (zR HO660) (Kd.R_base ho0) hb); have n2_ := Aside0.mk (Kd.N_elder' (zN HO665) (Kd.R_base ho0) hb); have n3_ := Aside0.mk (Kd.N_elder' (zN HO669) (Kd.R_base ho0) hb); have n4_ := Aside0.mk (Kd.R_elder' (zR HO673) (Kd.R_base ho0) hb); have n5_ := Aside0.mk (Kd.R_lower (Kd.R_new' (Kd.R_new' ho0 (Kd.R_lt (zR HO660))) (Kd.R_lt (zR HO673))) (below_size zB)); have n6_ := Aside0.mk (below_step zB hb); clear HO657; clear HO660; clear HO665; clear HO669; clear HO673; clear HB; have HO657 := n0_; have HO660 := n1_; have HO665 := n2_; have HO669 := n3_; have HO673 := n4_; have HO677 := n5_; have HB := n6_; clear n0_ n1_ n2_ n3_ n4_ n5_ n6_; (try clear hb); (try clear hb2); (try clear hk); (try clear hi); (try clear ho0); obtain ⟨Ao29, co29, eo29⟩ := Kd.N_slice HO669.out; subst eo29) | ((with_reducible refine gate_callee (f := 25) rfl ?_); refine goesL_ (some 60) rfl rfl Try.func25 zK rfl #[.slice Ao29 t666.length co29] rfl zM ?_; (with_reducible refine (solve_All.calls k _ _ t666 t678 t679 _ ?side1 ?side2 A22.out).mono ?_); (case side1 => repeat (first | exact (Kd.N_reads' HO669.out).2.2 | (with_reducible refine Kd.C_alloc ?_ _) | (with_reducible refine Kd.C_drewN ?_ _) | (with_reducible refine Kd.C_drew ?_))); (case side2 => exact (Kd.N_reads' HO669.out).2.1); rintro e w30 ⟨v680, rfl, ho0, hb⟩; refine ⟨_, rfl, ?_⟩; have n0_ := Aside0.mk (Kd.N_elder' (zN HO657) (Kd.R_base ho0) hb); have n1_ := Aside0.mk (Kd.R_elder' (zR HO660) (Kd.R_base ho0) hb); have n2_ := Aside0.mk (Kd.N_elder' (zN HO665) (Kd.R_base ho0) hb); have n3_ := Aside0.mk (Kd.N_elder' (zN HO669) (Kd.R_base ho0) hb); have n4_ := Aside0.mk (Kd.R_elder' (zR HO673) (Kd.R_base ho0) hb); have n5_ := Aside0.mk (Kd.R_elder' (zR HO677) (Kd.R_base ho0) hb); have n6_ := Aside0.mk (Kd.R_lower (Kd.R_new' (Kd.R_new' (Kd.R_new' ho0 (Kd.R_lt (zR HO660))) (Kd.R_lt (zR HO673))) (Kd.R_lt (zR HO677))) (below_size zB)); have n7_ := Aside0.mk (below_step zB hb); clear HO657; clear HO660; clear HO665; clear HO669; clear HO673; clear HO677; clear HB; have HO657 := n0_; have HO660 := n1_; have HO665 := n2_; have HO669 := n3_; have HO673 := n4_; have HO677 := n5_; have HO681 := n6_; have HB := n7_; clear n0_ n1_ n2_ n3_ n4_ n5_ n6_ n7_; (try clear hb); (try clear hb2); (try clear hk); (try clear hi); (try clear ho0)))
     (try simp only [Act.put, List.setIfInBounds_toArray, List.set_cons_zero, List.set_cons_succ])
     go_cut [80] (fun v80 wc => ∃ (kq : Nat) (x80_22 : Bool), v80 = .bool x80_22 ∧ Aside0 (ancepslaw40_SolveParts.j0 kq t670 t674 t678 x80_22 = some r) ∧ Aside0 (kq ≤ k) ∧ Aside0 (Kd.R (Kd.int .i64) 3 wc w.heap.size (fun k_ => some k_ ≠ (v676 : Value).ownBlock ∧ some k_ ≠ (v680 : Value).ownBlock) v672 t670) ∧ Aside0 (Kd.R (Kd.int .i64) 3 wc w.heap.size (fun k_ => some k_ ≠ (v672 : Value).ownBlock ∧ some k_ ≠ (v680 : Value).ownBlock) v676 t674) ∧ Aside0 (Kd.R (Kd.int .i64) 3 wc w.heap.size (fun k_ => some k_ ≠ (v672 : Value).ownBlock ∧ some k_ ≠ (v676 : Value).ownBlock) v680 t678) ∧ Aside0 (Below w.heap.size w wc))
     case first =>
      have H := HC23.out
      clear HC23
      by_cases c31 : t663 = 0
      ·rw [if_pos c31] at H
       have c31b0 : (t663 == 0) = true := beq_iff_eq.mpr c31
       have c31b1 : (t663 != 0) = false := bne_eq_false_iff_eq.mpr c31
       clear c31
       (first | rw [c31b0] | (simp only [i64_w, i32_w]; rw [c31b0]) | skip)
       (try rw [c31b1])
       by_cases c32 : t667 = 0
       ·rw [if_pos c32] at H
        have c32b0 : (t667 == 0) = true := beq_iff_eq.mpr c32
        have c32b1 : (t667 != 0) = false := bne_eq_false_iff_eq.mpr c32
        clear c32
        by_cases c33 : t671 = 0
        ·rw [if_pos c33] at H
         have c33b0 : (t671 == 0) = true := beq_iff_eq.mpr c33
         have c33b1 : (t671 != 0) = false := bne_eq_false_iff_eq.mpr c33
         clear c33
         by_cases c34 : t675 = 0
         ·rw [if_pos c34] at H
          have c34b0 : (t675 == 0) = true := beq_iff_eq.mpr c34
          have c34b1 : (t675 != 0) = false := bne_eq_false_iff_eq.mpr c34
          clear c34
          have H' := Aside0.mk H
          clear H
          go_wp2
          go_meet
          case rel => exact ⟨_, ((t679 != 0)), zT, H', ⟨by first | omega | exact Nat.le_refl _⟩, ⟨by (with_reducible repeat (first | apply Kd.R_alloc | apply Kd.R_drewN | apply Kd.R_drew)); exact Kd.R_mono HO673.out (fun _ hk => ⟨hk.1.2, hk.2⟩)⟩, ⟨by (with_reducible repeat (first | apply Kd.R_alloc | apply Kd.R_drewN | apply Kd.R_drew)); exact Kd.R_mono HO677.out (fun _ hk => ⟨hk.1.2, hk.2⟩)⟩, ⟨by (with_reducible repeat (first | apply Kd.R_alloc | apply Kd.R_drewN | apply Kd.R_drew)); exact Kd.R_mono HO681.out (fun _ hk => ⟨hk.1.2, hk.2⟩)⟩, ⟨by repeat (first | (with_reducible first | exact HB.out | apply below_alloc | apply pw_below_drewN | apply below_drew1) | exact HB.out)⟩⟩
         ·rw [if_neg c34] at H
          have c34b0 : (t675 == 0) = false := beq_eq_false_iff_ne.mpr c34
          have c34b1 : (t675 != 0) = true := bne_iff_ne.mpr c34
          have H' := Aside0.mk H
          clear H
          go_wp2
          go_meet
          case rel => exact ⟨_, (true), zT, H', ⟨by first | omega | exact Nat.le_refl _⟩, ⟨by (with_reducible repeat (first | apply Kd.R_alloc | apply Kd.R_drewN | apply Kd.R_drew)); exact Kd.R_mono HO673.out (fun _ hk => ⟨hk.1.2, hk.2⟩)⟩, ⟨by (with_reducible repeat (first | apply Kd.R_alloc | apply Kd.R_drewN | apply Kd.R_drew)); exact Kd.R_mono HO677.out (fun _ hk => ⟨hk.1.2, hk.2⟩)⟩, ⟨by (with_reducible repeat (first | apply Kd.R_alloc | apply Kd.R_drewN | apply Kd.R_drew)); exact Kd.R_mono HO681.out (fun _ hk => ⟨hk.1.2, hk.2⟩)⟩, ⟨by repeat (first | (with_reducible first | exact HB.out | apply below_alloc | apply pw_below_drewN | apply below_drew1) | exact HB.out)⟩⟩
        ·rw [if_neg c33] at H
         have c33b0 : (t671 == 0) = false := beq_eq_false_iff_ne.mpr c33
         have c33b1 : (t671 != 0) = true := bne_iff_ne.mpr c33
         have H' := Aside0.mk H
         clear H
         go_wp2
         go_meet
         case rel => exact ⟨_, (true), zT, H', ⟨by first | omega | exact Nat.le_refl _⟩, ⟨by (with_reducible repeat (first | apply Kd.R_alloc | apply Kd.R_drewN | apply Kd.R_drew)); exact Kd.R_mono HO673.out (fun _ hk => ⟨hk.1.2, hk.2⟩)⟩, ⟨by (with_reducible repeat (first | apply Kd.R_alloc | apply Kd.R_drewN | apply Kd.R_drew)); exact Kd.R_mono HO677.out (fun _ hk => ⟨hk.1.2, hk.2⟩)⟩, ⟨by (with_reducible repeat (first | apply Kd.R_alloc | apply Kd.R_drewN | apply Kd.R_drew)); exact Kd.R_mono HO681.out (fun _ hk => ⟨hk.1.2, hk.2⟩)⟩, ⟨by repeat (first | (with_reducible first | exact HB.out | apply below_alloc | apply pw_below_drewN | apply below_drew1) | exact HB.out)⟩⟩
       ·rw [if_neg c32] at H
        have c32b0 : (t667 == 0) = false := beq_eq_false_iff_ne.mpr c32
        have c32b1 : (t667 != 0) = true := bne_iff_ne.mpr c32
        have H' := Aside0.mk H
        clear H
        go_wp2
        go_meet
        case rel => exact ⟨_, (true), zT, H', ⟨by first | omega | exact Nat.le_refl _⟩, ⟨by (with_reducible repeat (first | apply Kd.R_alloc | apply Kd.R_drewN | apply Kd.R_drew)); exact Kd.R_mono HO673.out (fun _ hk => ⟨hk.1.2, hk.2⟩)⟩, ⟨by (with_reducible repeat (first | apply Kd.R_alloc | apply Kd.R_drewN | apply Kd.R_drew)); exact Kd.R_mono HO677.out (fun _ hk => ⟨hk.1.2, hk.2⟩)⟩, ⟨by (with_reducible repeat (first | apply Kd.R_alloc | apply Kd.R_drewN | apply Kd.R_drew)); exact Kd.R_mono HO681.out (fun _ hk => ⟨hk.1.2, hk.2⟩)⟩, ⟨by repeat (first | (with_reducible first | exact HB.out | apply below_alloc | apply pw_below_drewN | apply below_drew1) | exact HB.out)⟩⟩
      ·rw [if_neg c31] at H
       have c31b0 : (t663 == 0) = false := beq_eq_false_iff_ne.mpr c31
       have c31b1 : (t663 != 0) = true := bne_iff_ne.mpr c31
       (first | rw [c31b0] | (simp only [i64_w, i32_w]; rw [c31b0]) | skip)
       (try rw [c31b1])
       have H' := Aside0.mk H
       clear H
       go_wp2
       go_meet
       case rel => exact ⟨_, (true), zT, H', ⟨by first | omega | exact Nat.le_refl _⟩, ⟨by (with_reducible repeat (first | apply Kd.R_alloc | apply Kd.R_drewN | apply Kd.R_drew)); exact Kd.R_mono HO673.out (fun _ hk => ⟨hk.1.2, hk.2⟩)⟩, ⟨by (with_reducible repeat (first | apply Kd.R_alloc | apply Kd.R_drewN | apply Kd.R_drew)); exact Kd.R_mono HO677.out (fun _ hk => ⟨hk.1.2, hk.2⟩)⟩, ⟨by (with_reducible repeat (first | apply Kd.R_alloc | apply Kd.R_drewN | apply Kd.R_drew)); exact Kd.R_mono HO681.out (fun _ hk => ⟨hk.1.2, hk.2⟩)⟩, ⟨by repeat (first | (with_reducible first | exact HB.out | apply below_alloc | apply pw_below_drewN | apply below_drew1) | exact HB.out)⟩⟩
     case rest =>
      clear HC23
      try clear c6
      try clear c14
      try clear c14b0
      try clear c14b1
      try clear c14b2
      try clear c16
      try clear c16b0
      try clear c17
      try clear c17b0
      try clear hx661_0
      try clear p661
      try clear q661
      obtain ⟨kq, x80_22, rfl, HA, HJ22, HO_12, HO_14, HO_16, HB⟩ := hcut
      cases kq with
      | zero => exact absurd HA.out (by simp [ancepslaw40_SolveParts.j0])
      | succ kj22 =>
       have H := HA.out
       clear HA
       simp only [ancepslaw40_SolveParts.j0] at H
       by_cases c35 : x80_22 = true
       ·subst c35
        have H1 : (some false) = some r := by rw [if_pos rfl] at H; exact H
        clear H
        have H := H1
        clear H1
        obtain rfl := Option.some.inj H
        go_wp2
        go_ret
        exact ⟨by first | rfl | (simp [errW_none, errW_some] <;> rfl) | (simp only [← hji15]; first | rfl | (simp [errW_none, errW_some] <;> rfl)) | (simp [*, errW_none, errW_some] <;> rfl), by repeat (first | (with_reducible first | exact HB.out | apply below_alloc | apply pw_below_drewN | apply below_drew1) | exact HB.out)⟩
       ·replace c35 := Bool.eq_false_iff.mpr c35
        subst c35
        have H1 : ((slices_Concat_int_int.f kj22 (([t674, t678] : List (List Int)))).bind fun t685 => ((slices_Sort_int_int.f t685).bind fun t688 => ((slices_Equal_int_int.f kj22 t688 t670).bind fun t689 => (some t689)))) = some r := by rw [if_neg (show ¬ (false = true) by decide)] at H; exact H
        clear H
        have H := H1
        clear H1
        obtain ⟨y682, hy682⟩ : ∃ y_ : List (List Int), y_ = (([t674, t678] : List (List Int))) := ⟨_, rfl⟩
        replace H : ((slices_Concat_int_int.f kj22 y682).bind fun t685 => ((slices_Sort_int_int.f t685).bind fun t688 => ((slices_Equal_int_int.f kj22 t688 t670).bind fun t689 => (some t689)))) = some r := by first | (rw [hy682]; with_reducible exact H) | (have H2_ := (Option.bind_some _ _).symm.trans H; rw [hy682]; with_reducible exact H2_) | (have H2_ := (Option.bind_some _ _).symm.trans H; with_reducible exact H2_) | with_reducible exact H | (rw [hy682]; exact H) | exact H
        have Ny682 := Aside0.mk hy682
        clear hy682
        replace H := Option.bind_eq_some_iff.mp H
        obtain ⟨t685, A360, H⟩ := H
        replace H : ((slices_Sort_int_int.f t685).bind fun t688 => ((slices_Equal_int_int.f kj22 t688 t670).bind fun t689 => (some t689))) = some r := H
        have A36 := Aside0.mk A360
        clear A360
        replace H := Option.bind_eq_some_iff.mp H
        obtain ⟨t688, A370, H⟩ := H
        replace H : ((slices_Equal_int_int.f kj22 t688 t670).bind fun t689 => (some t689)) = some r := H
        have A37 := Aside0.mk A370
        clear A370
        replace H := Option.bind_eq_some_iff.mp H
        obtain ⟨t689, A380, H⟩ := H
        replace H : (some t689) = some r := H
        have A38 := Aside0.mk A380
        clear A380
        obtain rfl := Option.some.inj H
        obtain ⟨Ao39, co39, eo39⟩ := Kd.R_slice HO_14.out
        subst eo39
        obtain ⟨Ao40, co40, eo40⟩ := Kd.R_slice HO_16.out
        subst eo40
        go_wp2_with (first | ((with_reducible refine gate_dst (N := 83) rfl ?_); refine Kd.N_lit (Kd.slice 3 (Kd.int .i64)) _ 42 ?hg (N' := 83) ?hd (xs := ([t674, t678] : List (List Int))) (inner := [.slice Ao39 t674.length co39, .slice Ao40 t678.length co40]) (ok := (fun k_ => some k_ ≠ (v672 : Value).ownBlock)) (okp := (fun k_ => some k_ ≠ (v672 : Value).ownBlock)) ?hr ?hp (fun _ hk => hk) ((show ∀ k_, wc.heap.size ≤ k_ → (fun k_ => some k_ ≠ (v672 : Value).ownBlock) k_ from fun k_ hk => Kd.fresh' (Kd.R_lt (zR HO_12)) k_ hk) _ (Nat.le_refl _)) (Below.refl _ _) (Nat.le_refl _) (by simp) ?_; (case hd => rfl); (case hg => rfl); (case hr => first | (go_simp; done) | (go_simp; rfl)); (case hp => exact (Reps.one (show Kd.FK (Kd.slice 3 (Kd.int .i64)) _ _ t674 [.slice Ao39 t674.length co39] from (Kd.FK_slice_mk (Kd.R_reads' (Kd.R_mono (ok' := (fun k_ => some k_ ≠ (v672 : Value).ownBlock)) (HO_14.out) (fun k_ hk => hk.1))).2.1 (Kd.R_F (Kd.R_mono (ok' := (fun k_ => some k_ ≠ (v672 : Value).ownBlock)) (HO_14.out) (fun k_ hk => hk.1))))) (Reps.one (show Kd.FK (Kd.slice 3 (Kd.int .i64)) _ _ t678 [.slice Ao40 t678.length co40] from (Kd.FK_slice_mk (Kd.R_reads' (Kd.R_mono (ok' := (fun k_ => some k_ ≠ (v672 : Value).ownBlock)) (HO_16.out) (fun k_ hk => hk.1))).2.1 (Kd.R_F (Kd.R_mono (ok' := (fun k_ => some k_ ≠ (v672 : Value).ownBlock)) (HO_16.out) (fun k_ hk => hk.1))))) (Reps.none _ _)))); intro v683 w41 ho42 hb hg_ hnew_; clear hg_ hnew_; (first | rw [← Ny682.out] at ho42 | (simp only [Int.reduceToNat] at ho42; rw [← Ny682.out] at ho42)); have n0_ := Aside0.mk (Kd.R_below (zR HO_12) hb); have n1_ := Aside0.mk (Kd.N_lower ho42 (below_size zB)); have n2_ := Aside0.mk (below_step zB hb); clear HO_12; clear HB; clear HO_14; clear HO_16; have HO_12 := n0_; have HO684 := n1_; have HB := n2_; clear n0_ n1_ n2_; clear hb ho42; obtain ⟨Ao43, co43, eo43⟩ := Kd.N_slice HO684.out; subst eo43) | ((with_reducible refine gate_callee (f := 37) rfl ?_); refine goesL_ (some 84) rfl rfl Try.func37 zK rfl #[.slice Ao43 y682.length co43] rfl zM ?_; (with_reducible refine (slices_Concat_int_int.calls kj22 _ _ y682 t685 _ ?side1 ?side2 A36.out).mono ?_); (case side1 => repeat (first | exact (Kd.N_reads' HO684.out).2.2 | (with_reducible refine Kd.C_alloc ?_ _) | (with_reducible refine Kd.C_drewN ?_ _) | (with_reducible refine Kd.C_drew ?_))); (case side2 => exact (Kd.N_reads' HO684.out).2.1); rintro e w44 ⟨v686, rfl, ho0, hb⟩; refine ⟨_, rfl, ?_⟩; have n0_ := Aside0.mk (Kd.R_elder' (zR HO_12) (Kd.R_base ho0) hb); have n1_ := Aside0.mk (Kd.N_elder' (zN HO684) (Kd.R_base ho0) hb); have n2_ := Aside0.mk (Kd.R_lower (Kd.R_new' ho0 (Kd.R_lt (zR HO_12))) (below_size zB)); have n3_ := Aside0.mk (below_step zB hb); clear HO_12; clear HO684; clear HB; have HO_12 := n0_; have HO684 := n1_; have HO687 := n2_; have HB := n3_; clear n0_ n1_ n2_ n3_; (try clear hb); (try clear hb2); (try clear hk); (try clear hi); (try clear ho0); obtain ⟨Ao45, co45, eo45⟩ := Kd.R_slice HO687.out; subst eo45) | ((with_reducible refine gate_callee (f := 38) rfl ?_); refine goesL_ (some 86) rfl rfl Try.func38 zK rfl #[.slice Ao45 t685.length co45] rfl zM ?_; (with_reducible refine (slices_Sort_int_int.calls (fun k_ => some k_ = (.slice Ao45 t685.length co45 : Value).ownBlock) (.slice Ao45 t685.length co45) t685 t688 w _ ?side1 ?side2 A37.out).mono ?_); (case side1 => repeat (first | (with_reducible first | exact HB.out | apply below_alloc | apply pw_below_drewN | apply below_drew1) | exact HB.out)); (case side2 => exact Kd.R_tight rfl HO687.out); rintro e w46 ⟨rfl, hy0, hb, hkp⟩; refine ⟨_, rfl, ?_⟩; have n0_ := Aside0.mk (Kd.R_mono (ok' := fun k_ => some k_ ≠ (.slice Ao45 t685.length co45 : Value).ownBlock) (Kd.R_keptB (HO_12.out) hkp (fun k_ hk_ hs_ => (hk_.2) hs_)) (fun k_ hk_ => hk_.1.2)); have n1_ := Aside0.mk (Kd.N_mono (ok' := fun k_ => some k_ ≠ (v672 : Value).ownBlock ∧ some k_ ≠ (.slice Ao45 t685.length co45 : Value).ownBlock) (Kd.N_keptB (HO684.out) hkp (fun k_ hk_ hs_ => (hk_.2) hs_)) (fun k_ hk_ => ⟨hk_.1.1, hk_.1.2⟩)); have n2_ := Aside0.mk (Kd.R_reok rfl hy0 (fun k_ e_ => HO687.out.1 k_ e_)); have n3_ := Aside0.mk (hb); clear HO_12; clear HO684; clear HO687; clear HB; have HO_12 := n0_; have HO684 := n1_; have HO687 := n2_; have HB := n3_; clear n0_ n1_ n2_ n3_; (try clear hb); (try clear hkp); (try clear hy0); obtain ⟨Ao47, co47, eo47⟩ := Kd.R_slice HO_12.out; subst eo47) | ((with_reducible refine gate_callee (f := 29) rfl ?_); refine goesL_ (some 89) rfl rfl Try.func29 zK rfl #[.slice Ao45 t688.length co45, .slice Ao47 t670.length co47] rfl (by (try simp only [List.map_toArray, List.map_cons, List.map_nil]); first | done | (rw [show t688.length = t685.length from (Kd.R_reads' HO687.out).1.symm] <;> rfl) | rfl | (simp only [List.length_drop, List.length_take]; rfl)) ?_; (with_reducible refine (slices_Equal_int_int.calls kj22 _ _ t688 _ _ t670 t689 _ ?side1 ?side2 ?side3 ?side4 A38.out).mono ?_); (case side1 => repeat (first | exact (Kd.R_reads' HO687.out).2.2 | (with_reducible refine Kd.C_alloc ?_ _) | (with_reducible refine Kd.C_drewN ?_ _) | (with_reducible refine Kd.C_drew ?_))); (case side2 => rw [show t688.length = t685.length from (Kd.R_reads' HO687.out).1.symm]; exact (Kd.R_reads' HO687.out).2.1); (case side3 => repeat (first | exact (Kd.R_reads' HO_12.out).2.2 | (with_reducible refine Kd.C_alloc ?_ _) | (with_reducible refine Kd.C_drewN ?_ _) | (with_reducible refine Kd.C_drew ?_))); (case side4 => exact (Kd.R_reads' HO_12.out).2.1); rintro e w' ⟨rfl, ⟨nd, rfl⟩⟩; refine ⟨_, rfl, ?_⟩))
        go_ret
        exact ⟨by first | rfl | (simp [errW_none, errW_some] <;> rfl) | (simp only [← hji15]; first | rfl | (simp [errW_none, errW_some] <;> rfl)) | (simp [*, errW_none, errW_some] <;> rfl), by repeat (first | (with_reducible first | exact HB.out | apply below_alloc | apply pw_below_drewN | apply below_drew1) | exact HB.out)⟩
    ·rw [if_neg c17] at H
     exact absurd H (by simp)
   ·rw [if_neg c16] at H
    exact absurd H (by simp)
 ·replace c6 := Bool.eq_false_iff.mpr c6
  subst c6
  have H1 : (some false) = some r := by rw [if_neg (show ¬ (false = true) by decide)] at H; exact H
  clear H
  have H := H1
  clear H1
  obtain rfl := Option.some.inj H
  go_wp2
  go_ret
  exact ⟨by first | rfl | (simp [errW_none, errW_some] <;> rfl) | (simp [*, errW_none, errW_some] <;> rfl), by repeat (first | (with_reducible first | exact HB.out | apply below_alloc | apply pw_below_drewN | apply below_drew1) | exact HB.out)⟩
end Go.Proofs.Ytbagnalcabdlhaa.S
