-- Written by wip/tools/myprint.py, a program of this session's.
import Derived.Test.YtbagnalcabdlhaaS0
namespace Go.Proofs.Ytbagnalcabdlhaa.S
open Go.RowKit Go.Proofs.YtbagnalcabdlhaaW.PrintWords Go.Proofs.YtbagnalcabdlhaaW.PrintLast Go.Proofs.YtbagnalcabdlhaaW.PrintMore
attribute [local go_sem] max2_int min2_int max_two min_two max_three min_three max_four min_four   -- for this text's walks alone
set_option linter.unusedVariables false
set_option linter.unusedSimpArgs false
/-! ### ancepsref38_Assignment: function 59 -/
def ancepsref38_Assignment.l0 : Nat → List Int → Int → Int → Int → Option (Int)
 | 0, _, _, _, _ => none
 | k + 1, x0, x1, x5, x6 => if x6 < (x0.length : Int) then (if 0 ≤ x6 then (if 0 ≤ (rd x0 x6) then (ancepsref38_Assignment.l0 k x0 x1 (wrap64 (x5 + (shl .i64 (Int.tmod (shr .i64 x1 x6) 2) (rd x0 x6)))) (wrap64 (x6 + 1))) else (none)) else (none)) else (some x5)
def ancepsref38_Assignment.f (k : Nat) (l0 : List Int) (a1 : Int) : Option (Int) := ancepsref38_Assignment.l0 k l0 a1 0 0
theorem ancepsref38_Assignment.mono_l : ∀ k, (∀ y0 y1 y2 y3, LeO (ancepsref38_Assignment.l0 k y0 y1 y2 y3) (ancepsref38_Assignment.l0 (k + 1) y0 y1 y2 y3))
 | 0 => fun _ _ _ _ r h => by simp [ancepsref38_Assignment.l0] at h
 | k + 1 => by
  have ih0 := ancepsref38_Assignment.mono_l k
  ·intro y0 y1 y2 y3
   unfold ancepsref38_Assignment.l0
   repeat' first
   | (with_reducible exact ih0 _ _ _ _)
   | (with_reducible exact LeO.refl _)
   | (with_reducible exact LeO.none _)
   | (with_reducible refine LeO.ite ?_ ?_)
   | (with_reducible refine LeO.bind ?_ (fun _ => ?_))
   | exact ih0 _ _ _ _
   | exact LeO.none _
   | refine LeO.ite ?_ ?_
   | refine LeO.bind ?_ (fun _ => ?_)
theorem ancepsref38_Assignment.mono : ∀ a0 a1 k, LeO (ancepsref38_Assignment.f k a0 a1) (ancepsref38_Assignment.f (k + 1) a0 a1) := by
 intro a0 a1 k
 have ih0 := ancepsref38_Assignment.mono_l k
 unfold ancepsref38_Assignment.f
 repeat' first
   | (with_reducible exact ih0 _ _ _ _)
   | (with_reducible exact LeO.refl _)
   | (with_reducible exact LeO.none _)
   | (with_reducible refine LeO.ite ?_ ?_)
   | (with_reducible refine LeO.bind ?_ (fun _ => ?_))
   | exact ih0 _ _ _ _
   | exact LeO.none _
   | refine LeO.ite ?_ ?_
   | refine LeO.bind ?_ (fun _ => ?_)
set_option maxHeartbeats 8000000 in
set_option maxRecDepth 100000 in
theorem ancepsref38_Assignment.calls (k : Nat) (A0 : Option Addr) (c0 : Nat) (l0 : List Int) (a1 : Int) (r : Int) (w : World) (hr0 : Kd.C (Kd.int .i64) w A0 l0.length l0) (hc0 : l0.length ≤ c0) (h : ancepsref38_Assignment.f k l0 a1 = some r) :
  Calls Try.prog 59 #[.slice A0 l0.length c0, .int .i64 a1] w fun e w' => e = .returned (.int .i64 r) ∧ Drawn0 w w' := by
 have hu3 := Try.underlying3
 have HR0 := Aside0.mk hr0
 have HC0 := Aside0.mk hc0
 clear hr0 hc0
 have H : (ancepsref38_Assignment.l0 k l0 a1 0 0) = some r := h
 clear h
 have H' := Aside0.mk H
 clear H
 go_enter Try.func59, Try.ntmps59
 go_wp2
 repeat (go_quiet (fail); try go_wp2)
 go_loopg [5, 6] k (fun kq v5 v6 w' => ∃ (x5_1 : Int) (x6_1 : Int), v5 = .int .i64 x5_1 ∧ v6 = .int .i64 x6_1 ∧ Aside0 (ancepsref38_Assignment.l0 kq l0 a1 x5_1 x6_1 = some r) ∧ Aside0 (kq ≤ k) ∧ Drawn0 w w')
 case atStart => exact ⟨(0), (0), zT, zT, H', ⟨Nat.le_refl _⟩, by repeat (first | exact Drawn0.refl _ | apply Drawn0.step)⟩
 case round =>
  clear H'
  obtain ⟨x5_1, x6_1, rfl, rfl, HA, HK1, ⟨m1, rfl⟩⟩ := hrel
  cases gk with
  | zero => exact absurd HA.out (by simp [ancepsref38_Assignment.l0])
  | succ k1 =>
   have H := HA.out
   clear HA
   simp only [ancepsref38_Assignment.l0] at H
   by_cases c3 : x6_1 < (l0.length : Int)
   ·rw [if_pos c3] at H
    have c3b0 : decide (x6_1 < (l0.length : Int)) = true := decide_eq_true c3
    clear c3
    by_cases c4 : 0 ≤ x6_1
    ·rw [if_pos c4] at H
     have c4b0 := eq_true c4
     have c4b1 : decide (0 ≤ x6_1) = true := decide_eq_true c4
     clear c4
     obtain ⟨ji5, hji5⟩ : ∃ j_ : Int, (shr .i64 a1 x6_1) = j_ := ⟨_, rfl⟩
     replace H : (if 0 ≤ (rd l0 x6_1) then (ancepsref38_Assignment.l0 k1 l0 a1 (wrap64 (x5_1 + (shl .i64 (Int.tmod (ji5) 2) (rd l0 x6_1)))) (wrap64 (x6_1 + 1))) else (none)) = some r := by first | (rw [hji5] at H; exact H) | (simp only [hji5] at H ⊢; exact H)
     have hji5_ : (a1 / 2 ^ min x6_1.toNat 64) = ji5 := hji5
     have hji5z : x6_1 ≤ 64 → (a1 / 2 ^ x6_1.toNat) = ji5 := shr_small hji5
     by_cases c6 : 0 ≤ (rd l0 x6_1)
     ·rw [if_pos c6] at H
      have c6b0 := eq_true c6
      have c6b1 : decide (0 ≤ (rd l0 x6_1)) = true := decide_eq_true c6
      clear c6
      obtain ⟨ji7, hji7⟩ : ∃ j_ : Int, (shl .i64 (Int.tmod (ji5) 2) (rd l0 x6_1)) = j_ := ⟨_, rfl⟩
      replace H : (ancepsref38_Assignment.l0 k1 l0 a1 (wrap64 (x5_1 + (ji7))) (wrap64 (x6_1 + 1))) = some r := by first | (rw [hji7] at H; exact H) | (simp only [hji7] at H ⊢; exact H)
      have hji7_ : (IntKind.i64.wrap ((Int.tmod (ji5) 2) * 2 ^ min (rd l0 x6_1).toNat 64)) = ji7 := hji7
      have hji7z : (rd l0 x6_1) ≤ 64 → (IntKind.i64.wrap ((Int.tmod (ji5) 2) * 2 ^ (rd l0 x6_1).toNat)) = ji7 := shl_small hji7
      have hji7y : (wrap64 ((Int.tmod (ji5) 2) * 2 ^ min (rd l0 x6_1).toNat 64)) = ji7 := (i64_w _).symm.trans hji7_
      have hji7x : (rd l0 x6_1) ≤ 64 → (wrap64 ((Int.tmod (ji5) 2) * 2 ^ (rd l0 x6_1).toNat)) = ji7 := fun h_ => (i64_w _).symm.trans (hji7z h_)
      have H' := Aside0.mk H
      clear H
      have p376 : 0 ≤ (x6_1 : Int) := of_decide_eq_true zh
      have q376 : x6_1 < (l0.length : Int) := of_decide_eq_true zh
      obtain ⟨ad376, e376, hx376_0⟩ := Kd.at_int HR0.out x6_1 p376 q376
      cases e376
      replace p376 := eq_true p376
      replace q376 := eq_true q376
      go_wp2
      repeat (go_quiet (fail); try go_wp2)
      go_roundg k1
      case measure => have := HK1.out; omega
      case rel => exact ⟨(wrap64 (x5_1 + (ji7))), (wrap64 (x6_1 + 1)), (by first | rfl | (simp; done) | (simp only [← hji7] <;> (first | rfl | simp)) | (simp [*]; done)), zT, H', ⟨by have := HK1.out; omega⟩, by repeat (first | exact Drawn0.refl _ | apply Drawn0.step)⟩
     ·rw [if_neg c6] at H
      exact absurd H (by simp)
    ·rw [if_neg c4] at H
     exact absurd H (by simp)
   ·rw [if_neg c3] at H
    have c3b0 : decide (x6_1 < (l0.length : Int)) = false := decide_eq_false c3
    clear c3
    obtain rfl := Option.some.inj H
    go_wp2
    repeat (go_quiet (fail); try go_wp2)
    go_ret
    exact ⟨by first | rfl | (simp; done) | (simp [*]; done), by repeat (first | exact Drawn0.refl _ | apply Drawn0.step)⟩
end Go.Proofs.Ytbagnalcabdlhaa.S
