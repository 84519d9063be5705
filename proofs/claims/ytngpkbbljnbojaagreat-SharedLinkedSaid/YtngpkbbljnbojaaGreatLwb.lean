-- The words that the printed texts of this group use: of the print's own, and of this session's.
import Derived.RangeFuncNested
import Derived.RangeFuncBound
import Derived.RangeFuncCalls
import Derived.RangeFuncLeaves
import Derived.OrdersIn
import Derived.OwnWalkIn
import Derived.TacticsInMore
import Derived.LoopNIn
import Derived.LoopIn
import Derived.Shelf.Abstract
import Derived.Test.YtngpkbbljnbojaaGreatProg
import Derived.Shelf.Sort.Plain
import Derived.Shelf.Slices.In.SortNone
import Derived.Shelf.Slices.CompactI
import Derived.Shelf.SlicesE.DeleteFunc
import Derived.Shelf.Spec.SlicesGrow
import Derived.Sort.OwnSortedInts
import Derived.Lib.OwnBridge
import Derived.Sort.Grow
import Derived.Shelf.GgClosure.Gives
import Derived.Test.YtngpkbbljnbojaaGreatLwa
section
namespace Go.Proofs.YtngpkbbljnbojaaGreatW.PrintWords
open Go.RowKit Go.Shelf
def laysSort_ren : Go.Shelf.Ren := ⟨fun | 189 => 99 | 125 => 118 | 257 => 117 | 128 => 137 | 129 => 138 | 294 => 129 | 295 => 130 | 296 => 131 | 297 => 132 | 298 => 133 | 299 => 134 | 216 => 126 | 300 => 135 | 301 => 136 | 328 => 143 | 329 => 144 | 330 => 145 | 331 => 146 | 332 => 147 | 215 => 142 | 343 => 148 | n => n, fun | 28 => 43 | 3 => 3 | 46 => 132 | 0 => 0 | 51 => 77 | 53 => 78 | 4 => 4 | 183 => 142 | 182 => 141 | 131 => 99 | 5 => 5 | 9 => 9 | 218 => 151 | 222 => 155 | 228 => 157 | 229 => 158 | n => n, fun | n => n⟩
theorem laysSort : Go.Proofs.Lays.n189 Tryz.prog laysSort_ren := {
 mixed := by kernel_rfl,
 f125 := Tryz.func118.trans (congrArg some (by kernel_rfl)),
 f128 := Tryz.func137.trans (congrArg some (by kernel_rfl)),
 f129 := Tryz.func138.trans (congrArg some (by kernel_rfl)),
 f189 := Tryz.func99.trans (congrArg some (by kernel_rfl)),
 f215 := Tryz.func142.trans (congrArg some (by kernel_rfl)),
 f216 := Tryz.func126.trans (congrArg some (by kernel_rfl)),
 f257 := Tryz.func117.trans (congrArg some (by kernel_rfl)),
 f294 := Tryz.func129.trans (congrArg some (by kernel_rfl)),
 f295 := Tryz.func130.trans (congrArg some (by kernel_rfl)),
 f296 := Tryz.func131.trans (congrArg some (by kernel_rfl)),
 f297 := Tryz.func132.trans (congrArg some (by kernel_rfl)),
 f298 := Tryz.func133.trans (congrArg some (by kernel_rfl)),
 f299 := Tryz.func134.trans (congrArg some (by kernel_rfl)),
 f300 := Tryz.func135.trans (congrArg some (by kernel_rfl)),
 f301 := Tryz.func136.trans (congrArg some (by kernel_rfl)),
 f328 := Tryz.func143.trans (congrArg some (by kernel_rfl)),
 f329 := Tryz.func144.trans (congrArg some (by kernel_rfl)),
 f330 := Tryz.func145.trans (congrArg some (by kernel_rfl)),
 f331 := Tryz.func146.trans (congrArg some (by kernel_rfl)),
 f332 := Tryz.func147.trans (congrArg some (by kernel_rfl)),
 f343 := Tryz.func148.trans (congrArg some (by kernel_rfl)),
 t0 := Tryz.underlying0,
 a0 := Tryz.isAgg0,
 z0 := Tryz.sizeOf0,
 v0 := Tryz.zeroValue0,
 t3 := Tryz.underlying3,
 a3 := Tryz.isAgg3,
 z3 := Tryz.sizeOf3,
 v3 := Tryz.zeroValue3,
 t4 := Tryz.underlying4,
 a4 := Tryz.isAgg4,
 z4 := Tryz.sizeOf4,
 v4 := Tryz.zeroValue4,
 t5 := Tryz.underlying5,
 a5 := Tryz.isAgg5,
 z5 := Tryz.sizeOf5,
 v5 := Tryz.zeroValue5,
 t9 := Tryz.underlying9,
 a9 := Tryz.isAgg9,
 z9 := Tryz.sizeOf9,
 v9 := Tryz.zeroValue9,
 t28 := Tryz.underlying43,
 a28 := Tryz.isAgg43,
 z28 := Tryz.sizeOf43,
 v28 := Tryz.zeroValue43,
 t46 := Tryz.underlying132,
 a46 := Tryz.isAgg132,
 z46 := Tryz.sizeOf132,
 v46 := Tryz.zeroValue132,
 t51 := Tryz.underlying77,
 a51 := Tryz.isAgg77,
 z51 := Tryz.sizeOf77,
 v51 := Tryz.zeroValue77,
 t53 := Tryz.underlying78,
 a53 := Tryz.isAgg78,
 z53 := Tryz.sizeOf78,
 v53 := Tryz.zeroValue78,
 t131 := Tryz.underlying99,
 a131 := Tryz.isAgg99,
 z131 := Tryz.sizeOf99,
 v131 := Tryz.zeroValue99,
 t182 := Tryz.underlying141,
 a182 := Tryz.isAgg141,
 z182 := Tryz.sizeOf141,
 v182 := Tryz.zeroValue141,
 t183 := Tryz.underlying142,
 a183 := Tryz.isAgg142,
 z183 := Tryz.sizeOf142,
 v183 := Tryz.zeroValue142,
 t218 := Tryz.underlying151,
 a218 := Tryz.isAgg151,
 z218 := Tryz.sizeOf151,
 v218 := Tryz.zeroValue151,
 t222 := Tryz.underlying155,
 a222 := Tryz.isAgg155,
 z222 := Tryz.sizeOf155,
 v222 := Tryz.zeroValue155,
 t228 := Tryz.underlying157,
 a228 := Tryz.isAgg157,
 z228 := Tryz.sizeOf157,
 v228 := Tryz.zeroValue157,
 t229 := Tryz.underlying158,
 a229 := Tryz.isAgg158,
 z229 := Tryz.sizeOf158,
 v229 := Tryz.zeroValue158 }
def laysCompact_ren : Go.Shelf.Ren := ⟨fun | 20 => 100 | n => n, fun | 22 => 43 | 3 => 3 | 4 => 4 | 0 => 0 | n => n, fun | n => n⟩
theorem laysCompact : Go.Proofs.Lays2.n20 Tryz.prog laysCompact_ren := {
 mixed := by kernel_rfl,
 f20 := Tryz.func100.trans (congrArg some (by kernel_rfl)),
 t0 := Tryz.underlying0,
 a0 := Tryz.isAgg0,
 z0 := Tryz.sizeOf0,
 v0 := Tryz.zeroValue0,
 t3 := Tryz.underlying3,
 a3 := Tryz.isAgg3,
 z3 := Tryz.sizeOf3,
 v3 := Tryz.zeroValue3,
 t4 := Tryz.underlying4,
 a4 := Tryz.isAgg4,
 z4 := Tryz.sizeOf4,
 v4 := Tryz.zeroValue4,
 t22 := Tryz.underlying43,
 a22 := Tryz.isAgg43,
 z22 := Tryz.sizeOf43,
 v22 := Tryz.zeroValue43,
 i3 := by kernel_rfl }
def laysDelete_ren : Go.Shelf.Ren := ⟨fun | 10 => 56 | 6 => 94 | n => n, fun | 22 => 43 | 23 => 3 | 25 => 86 | 3 => 3 | 4 => 4 | 0 => 0 | n => n, fun | n => n⟩
theorem laysDelete : Go.Proofs.SlLaysH.n10 Tryz.prog laysDelete_ren := {
 mixed := by kernel_rfl,
 f6 := ⟨Tryz.f94.name, by decide, Tryz.func94.trans (congrArg some (by kernel_rfl))⟩,
 f10 := ⟨Tryz.f56.name, by decide, Tryz.func56.trans (congrArg some (by kernel_rfl))⟩,
 t0 := Tryz.underlying0,
 a0 := Tryz.isAgg0,
 z0 := Tryz.sizeOf0,
 v0 := Tryz.zeroValue0,
 t3 := Tryz.underlying3,
 a3 := Tryz.isAgg3,
 z3 := Tryz.sizeOf3,
 v3 := Tryz.zeroValue3,
 t4 := Tryz.underlying4,
 a4 := Tryz.isAgg4,
 z4 := Tryz.sizeOf4,
 v4 := Tryz.zeroValue4,
 t22 := Tryz.underlying43,
 a22 := Tryz.isAgg43,
 z22 := Tryz.sizeOf43,
 v22 := Tryz.zeroValue43,
 a23 := Tryz.isAgg3,
 z23 := Tryz.sizeOf3,
 t25 := Tryz.underlying86,
 a25 := Tryz.isAgg86,
 z25 := Tryz.sizeOf86,
 v25 := Tryz.zeroValue86 }
set_option maxHeartbeats 1000000 in
theorem deleteFunc_nil {P : Program} {ρ : Ren} (L : SlLaysH.n10 P ρ) (c : Nat) (fv : Value) (w : World) :
  Calls P (ρ.f 10) #[.slice none 0 c, fv] w fun e w' => e = .returned (.slice none 0 c) ∧ w' = w := by
 have mixed := L.mixed; have t0 := L.t0; have a0 := L.a0; have z0 := L.z0; have v0 := L.v0; have t3 := L.t3; have a3 := L.a3; have z3 := L.z3; have v3 := L.v3; have t4 := L.t4; have a4 := L.a4; have z4 := L.z4; have v4 := L.v4; have t22 := L.t22; have a22 := L.a22; have z22 := L.z22; have v22 := L.v22; have a23 := L.a23; have z23 := L.z23; have t25 := L.t25; have a25 := L.a25; have z25 := L.z25; have v25 := L.v25
 have e6 : ∀ args w, (callFunc (ρ.f 6) args).run P w = .ok (.enter (ρ.f 6) args) w := L.f6.enters rfl
 have hIF := AnyE.slices_IndexFunc_empty (P := P) (ρ := ρ) { L with } none c fv w
 obtain ⟨_, _, FG⟩ := L.f10
 go_enter FG, SlBodyH.n10_ntmps ρ
 go_wp2_with (go_at_fn (ρ.f 6); refine hIF.mono ?_; rintro e w' ⟨rfl, rfl⟩)
 go_ret
 exact ⟨rfl, rfl⟩
end Go.Proofs.YtngpkbbljnbojaaGreatW.PrintWords
end
section
namespace Go.Proofs.YtngpkbbljnbojaaGreatW.PrintWords
open Go.RowKit Go.Sort
theorem ownsRow_grow {w : World} {base n : Nat} {e : TypeId} {size : Nat} {v : Value} {xs : List Value} (h : w.ownsRow base e size v n xs) (os : Array Obj) : (grow w os).ownsRow base e size v n xs := by
 refine ⟨h.1, ?_⟩
 rcases h.2 with h2 | ⟨g, cap, cur, h1, h2, h3, h4⟩
 ·exact .inl h2
 ·have hg : g < w.heap.size := (Array.getElem?_eq_some_iff.1 h3).1
  exact .inr ⟨g, cap, cur, h1, h2, by rw [heap_grow_old _ _ hg]; exact h3, h4⟩
theorem below_grow {B : Nat} {w0 w : World} (h : Below B w0 w) (hB : B ≤ w.heap.size) (os : Array Obj) : Below B w0 (grow w os) :=
 ⟨h.os, h.tape, h.output, by have := h.size; simp [grow]; omega, fun k hk => by rw [heap_grow_old _ _ (by omega)]; exact h.block k hk⟩
section
variable {e : Nat} {w : World} {base g n cap : Nat} {ok ok' : Nat → Prop} {zs ys : List Int}
theorem int_row (h : (Kd.int .i64).R e w base ok (.slice (some ⟨g, 0, none⟩) n cap) zs) : ok g ∧ base ≤ g ∧ g < w.heap.size ∧ n = zs.length ∧ zs.length ≤ cap ∧ cap ≤ maxLen ∧ Holds (Value.int .i64) w g 0 zs.toArray := by
 have ho := Kd.own_of_R (enc := Value.int .i64) (h1 := fun _ => rfl) h
 obtain ⟨g', cap', e1, h1, h2, h3, h4, h5, h6⟩ := Lib.holds_of_ownsRow (enc := Value.int .i64) (zs := zs) ho (by simp)
 injection e1 with e1 e2 e3
 injection e1 with e1
 injection e1 with e1
 subst e1 e2 e3
 exact ⟨h.1 _ rfl, h1, h2, rfl, h3, h4, h6⟩
theorem int_row_put (h : (Kd.int .i64).R e w base ok (.slice (some ⟨g, 0, none⟩) n cap) zs) (q : Nat) (os : Array Obj) (hy : ys.length = zs.length) {k : Nat} (hk : k ≤ zs.length) (hok : ok' g) :
  (Kd.int .i64).R e (grow (putRow (Value.int .i64) (Sort.ahead w q) g 0 ys.toArray) os) base ok' (.slice (some ⟨g, 0, none⟩) k cap) (ys.take k) := by
 have ho := Kd.own_of_R (enc := Value.int .i64) (h1 := fun _ => rfl) h
 have hn : n = zs.length := (int_row h).2.2.2.1
 subst hn
 have h1 := ownsRow_grow (Lib.ownsRow_putRow (enc := Value.int .i64) (q := q) (k := k) ho hy hk) os
 have hl : (ys.take k).length = k := by rw [List.length_take]; omega
 refine Kd.R_of_own (enc := Value.int .i64) (h1 := fun _ => rfl) ?_ (fun j hj => by simp [Value.ownBlock] at hj; rw [← hj]; exact hok)
 rw [hl]
 exact h1
theorem put_kept (q : Nat) (os : Array Obj) (d : Array Int) (hok : ok g) : Kept w (grow (putRow (Value.int .i64) (Sort.ahead w q) g 0 d) os) ok := by
 refine ⟨by simp [grow, putRow, mapBlock, Sort.ahead], fun i hi hn => ?_⟩
 rw [heap_grow_old _ _ (by simpa [putRow, mapBlock, Sort.ahead] using hi)]
 have : g ≠ i := fun e => hn (e ▸ hok)
 simp [putRow, mapBlock, Sort.ahead, Array.getElem?_modify, this]
theorem put_below {w0 : World} (hB : Below w0.heap.size w0 w) (hg : w0.heap.size ≤ g) (q : Nat) (os : Array Obj) (d : Array Int) : Below w0.heap.size w0 (grow (putRow (Value.int .i64) (Sort.ahead w q) g 0 d) os) :=
 below_grow (Lib.below_putRow hB hg) (by simpa [putRow, mapBlock, Sort.ahead] using hB.size) os
end
end Go.Proofs.YtngpkbbljnbojaaGreatW.PrintWords
end
namespace Go.Proofs.YtngpkbbljnbojaaGreatW.PrintWords
open Go.RowKit
theorem zB {p : Prop} (h : p := by repeat (first | (with_reducible first | exact HB.out | apply below_alloc | apply pw_below_drewN | apply below_drew1 | refine below_set ?_ (Aside0.out (by first | (with_reducible assumption) | assumption))) | exact HB.out)) : p := h
theorem zk {q p : Prop} (x : Aside0 q) (h : q → p := by intro h_; (with_reducible repeat (first | refine blk_drewN ?_ _ | refine blk_drew ?_ | refine blk_alloc ?_ _)); exact h_) : p := h x.out
theorem zR {q p : Prop} (x : Aside0 q) (h : q → p := by intro h_; (with_reducible repeat (first | apply Kd.R_alloc | apply Kd.R_drewN | apply Kd.R_drew)); exact h_) : p := h x.out
theorem zN {q p : Prop} (x : Aside0 q) (h : q → p := by intro h_; (with_reducible repeat (first | apply Kd.N_alloc | apply Kd.N_drewN | apply Kd.N_drew)); exact h_) : p := h x.out
theorem zS {q p : Prop} (x : Aside0 q) (h : q → p := by intro h_; (with_reducible repeat (first | apply Kd.S_alloc | apply Kd.S_drewN | apply Kd.S_drew)); exact h_) : p := h x.out
theorem zV {q p : Prop} (x : Aside0 q) (h : q → p := by intro h_; (with_reducible repeat (first | apply Kd.V_alloc | apply Kd.V_drewN | apply Kd.V_drew)); exact h_) : p := h x.out
theorem zh {p : Prop} (h : p := by first | (with_reducible assumption) | assumption) : p := h
theorem zM {p : Prop} (h : p := by (try simp only [List.map_toArray, List.map_cons, List.map_nil]); first | done | rfl | (simp only [List.length_drop, List.length_take]; rfl)) : p := h
theorem zT {p : Prop} (h : p := by first | rfl | (simp; done) | (simp [*]; done)) : p := h
theorem zK {p : Prop} (h : p := by kernel_rfl) : p := h
end Go.Proofs.YtngpkbbljnbojaaGreatW.PrintWords
namespace Go.Proofs.YtngpkbbljnbojaaGreatW.PrintWords
open Go.RowKit
theorem zA {p : Prop} (h : p) : Aside0 p := ⟨h⟩
theorem zC {q p : Prop} (x : q) (h : q → p := by intro h_; repeat (first | exact h_ | (with_reducible refine Kd.C_alloc ?_ _) | (with_reducible refine Kd.C_drewN ?_ _) | (with_reducible refine Kd.C_drew ?_))) : p := h x
theorem zG {a b c : Nat} (h : c = b) (k : a ≤ b) : a ≤ c := h ▸ k
theorem zl {w : World} {g m : Nat} {o : Obj} (hg : m = w.heap.size) (h : w.heap[g]? = some o) : g ≠ m := by rw [hg]; exact Nat.ne_of_lt (blk_lt h)
theorem zg {w : World} {g m : Nat} {o : Obj} (hg : m = w.heap.size) (h : w.heap[g]? = some o) : m ≠ g := by rw [hg]; exact Nat.ne_of_gt (blk_lt h)
theorem zi {α : Type _} (l : List α) (i : Nat) (a : α) : l.toArray.setIfInBounds i a = (l.set i a).toArray := List.setIfInBounds_toArray l i a
theorem zs {α : Type _} {x : α} {xs : List α} {a : α} : (x :: xs).set 0 a = a :: xs := List.set_cons_zero
theorem zt {α : Type _} {x : α} {xs : List α} {i : Nat} {a : α} : (x :: xs).set (i + 1) a = x :: xs.set i a := List.set_cons_succ
end Go.Proofs.YtngpkbbljnbojaaGreatW.PrintWords
namespace Go.Proofs.YtngpkbbljnbojaaGreatW.PrintWords
open Go.RowKit
theorem zr {q p : Prop} (x : q) (h : q → p := by intro h_; (with_reducible repeat (first | apply Kd.R_alloc | apply Kd.R_drewN | apply Kd.R_drew)); exact h_) : p := h x
theorem zj {q p : Prop} (x : q) (h : q → p := by intro h_; (with_reducible repeat (first | refine blk_drewN ?_ _ | refine blk_drew ?_ | refine blk_alloc ?_ _)); exact h_) : p := h x
theorem zb {W w w1 : World} {g : Nat} {o : Obj} (x : Aside0 (W.heap[g]? = some o)) (hb : Below w.heap.size w w1) (h : W.heap[g]? = some o → w.heap[g]? = some o := by intro h_; (with_reducible repeat (first | refine blk_drewN ?_ _ | refine blk_drew ?_ | refine blk_alloc ?_ _)); exact h_) : w1.heap[g]? = some o := blk_below (h x.out) hb
theorem ze {p : Prop} (h : p := by first | rfl | (simp [errW_none, errW_some] <;> rfl) | (simp [*, errW_none, errW_some] <;> rfl)) : p := h
end Go.Proofs.YtngpkbbljnbojaaGreatW.PrintWords
namespace Go.Proofs.YtngpkbbljnbojaaGreatW.PrintWords
open Go.RowKit Go.Proofs.YtngpkbbljnbojaaGreatW.PrintLast Go.Proofs.YtngpkbbljnbojaaGreatW.PrintMore Go.Proofs.YtngpkbbljnbojaaGreatW.PrintWords
theorem zo {α β : Type _} {o : Option α} {f : α → Option β} {b : β} (h : o.bind f = some b) : ∃ a, Aside0 (o = some a) ∧ f a = some b := by
 obtain ⟨a, x, y⟩ := Option.bind_eq_some_iff.mp h
 exact ⟨a, ⟨x⟩, y⟩
theorem zO {α β γ : Type _} {o : Option (α × β)} {f : α × β → Option γ} {b : γ} (h : o.bind f = some b) : ∃ x y, Aside0 (o = some (x, y)) ∧ f (x, y) = some b := by
 obtain ⟨⟨x, y⟩, p, q⟩ := Option.bind_eq_some_iff.mp h
 exact ⟨x, y, ⟨p⟩, q⟩
theorem if0 {α : Type _} {p : Prop} [Decidable p] {a b c : α} (h : (if p then a else b) = c) : p ∧ a = c ∨ ¬p ∧ b = c := by
 by_cases k : p
 · rw [if_pos k] at h
   exact .inl ⟨k, h⟩
 · rw [if_neg k] at h
   exact .inr ⟨k, h⟩
theorem if1 {α : Type _} {p : Prop} [Decidable p] {a : Option α} {c : α} (h : (if p then a else none) = some c) : p ∧ a = some c := (if0 h).resolve_right (fun k => by cases k.2)
theorem if2 {α : Type _} {p : Prop} [Decidable p] {a : Option α} {c : α} (h : (if p then none else a) = some c) : ¬p ∧ a = some c := (if0 h).resolve_left (fun k => by cases k.2)
theorem ifd {α : Type _} {p : Prop} [Decidable p] {a b c : α} (h : (if p then a else b) = c) : decide p = true ∧ a = c ∨ decide p = false ∧ b = c := (if0 h).imp (fun k => ⟨decide_eq_true k.1, k.2⟩) (fun k => ⟨decide_eq_false k.1, k.2⟩)
theorem ifd1 {α : Type _} {p : Prop} [Decidable p] {a : Option α} {c : α} (h : (if p then a else none) = some c) : decide p = true ∧ a = some c := ⟨decide_eq_true (if1 h).1, (if1 h).2⟩
theorem ifd2 {α : Type _} {p : Prop} [Decidable p] {a : Option α} {c : α} (h : (if p then none else a) = some c) : decide p = false ∧ a = some c := ⟨decide_eq_false (if2 h).1, (if2 h).2⟩
theorem ife {α β : Type _} [BEq β] [LawfulBEq β] {x y : β} [Decidable (x = y)] {a b c : α} (h : (if x = y then a else b) = c) : ((x == y) = true ∧ (x != y) = false ∧ a = c) ∨ (¬x = y ∧ (x == y) = false ∧ (x != y) = true ∧ b = c) := (if0 h).imp (fun k => ⟨beq_iff_eq.mpr k.1, bne_eq_false_iff_eq.mpr k.1, k.2⟩) (fun k => ⟨k.1, beq_eq_false_iff_ne.mpr k.1, bne_iff_ne.mpr k.1, k.2⟩)
theorem zc0 {w : World} {g : Nat} {t : TypeId} {a : Value} {cs : List Value} (h : Aside0 (w.heap[g]? = some (.cells (a :: cs).toArray t (0, 0)))) : w.cell? ⟨g, 0, none⟩ = some a := (blk_cell h.out 0).trans rfl
theorem zc1 {w : World} {g : Nat} {t : TypeId} {a b : Value} {cs : List Value} (h : Aside0 (w.heap[g]? = some (.cells (a :: b :: cs).toArray t (0, 0)))) : w.cell? ⟨g, 1, none⟩ = some b := (blk_cell h.out 1).trans rfl
theorem zc2 {w : World} {g : Nat} {t : TypeId} {a b c : Value} {cs : List Value} (h : Aside0 (w.heap[g]? = some (.cells (a :: b :: c :: cs).toArray t (0, 0)))) : w.cell? ⟨g, 2, none⟩ = some c := (blk_cell h.out 2).trans rfl
theorem zc3 {w : World} {g : Nat} {t : TypeId} {a b c d : Value} {cs : List Value} (h : Aside0 (w.heap[g]? = some (.cells (a :: b :: c :: d :: cs).toArray t (0, 0)))) : w.cell? ⟨g, 3, none⟩ = some d := (blk_cell h.out 3).trans rfl
theorem zf {w : World} {g : Nat} {t : TypeId} {cs : Array Value} (h : Aside0 (w.heap[g]? = some (.cells cs t (0, 0)))) (i : Nat) : w.frozen? ⟨g, i, none⟩ = false := blk_frozen h.out i
def bz (n k : Nat) : Array Bool := ⟨(List.range n).map k.testBit⟩
section
variable {P : Program} {md : Region.Mode} {ops : Array Oper} {Q : Exit → Act → World → Prop} {S : World → Prop} {ds : List Nat} {T : Bool × List (List Nat × List Nat)} {B : List Nat} {oi o : Oper} {rest : List Oper} {v : Value} {fuel : Nat} {l : Array Bool} {a : Act} {w W : World}
theorem zP (i N : Nat) (l' : Array Bool) (hT : Aside0 (rtab md ops = T)) {a' : Act} (h : wpAnyLast P md ops Q S ds fuel l' a' w) (hi : ops[i]? = some oi := by rfl) (hN : oi.dst = some N := by rfl) (hc : anyT T l.toList l'.toList i = true := by kernel_rfl) (hw : Region.wanted oi (yielded ops a.tmps) = true := by rfl) (hy : ∀ w, (execOp a.eval oi).run P w = .ok (.value v) w := by intro w'; go_simp; with_reducible rfl) (ha : a.put (some N) v = a' := by simp only [Act.put, zi, zs, zt, i64_w, i32_w]; rfl) (hQ : ∀ c a w, Q (.panic c) (a.put oi.dst v) w → Q (.panic c) a w := by exact fun _ _ _ h => h) : wpAnyLast P md ops Q S ds (fuel + 1) l a w := pure_ l' hi hN (any_of hT.out hc) hQ (.inl ⟨hw, hy⟩) ha h
theorem zU (i N : Nat) (l' : Array Bool) (hT : Aside0 (rtab md ops = T)) {a' : Act} (h : wpAnyLast P md ops Q S ds fuel l' a' w) (hi : ops[i]? = some oi := by rfl) (hN : oi.dst = some N := by rfl) (hc : anyT T l.toList l'.toList i = true := by kernel_rfl) (hw : Region.wanted oi (yielded ops a.tmps) = false := by rfl) (ha : a.put (some N) undef = a' := by simp only [Act.put, zi, zs, zt, i64_w, i32_w]; rfl) (hQ : ∀ c a w, Q (.panic c) (a.put oi.dst undef) w → Q (.panic c) a w := by exact fun _ _ _ h => h) : wpAnyLast P md ops Q S ds (fuel + 1) l a w := pure_ l' hi hN (any_of hT.out hc) hQ (.inr ⟨hw, rfl⟩) ha h
theorem zQ (i N : Nat) (l' : Array Bool) (hT : Aside0 (rtab md ops = T)) (hB : Aside0 (waitsOk T.2 B = true)) (hS : S w) {a' : Act} (h : wpAnyLast P md ops Q S ds fuel l' a' w) (hi : ops[i]? = some oi := by rfl) (hN : oi.dst = some N := by rfl) (hc : takeW T B ds l.toList l'.toList i = true := by kernel_rfl) (hw : Region.wanted oi (yielded ops a.tmps) = true := by rfl) (hy : ∀ w, S w → (execOp a.eval oi).run P w = .ok (.value v) w := by (intro w' h_; (repeat (have := And.left h_; replace h_ := And.right h_)); go_simp; with_reducible rfl)) (ha : a.put (some N) v = a' := by simp only [Act.put, zi, zs, zt, i64_w, i32_w]; rfl) (hQ : ∀ c a w, Q (.panic c) (a.put oi.dst v) w → Q (.panic c) a w := by exact fun _ _ _ h => h) : wpAnyLast P md ops Q S ds (fuel + 1) l a w := take_ l' hi hN (take_ofW hT.out hB.out hc) hQ (.inl ⟨hw, hy⟩) hS ha h
theorem gd (N : Nat) (_hN : o.dst = some N) (h : wpList P ops Q (o :: rest) a W) : wpList P ops Q (o :: rest) a W := h
theorem zx (cs : Array Value) (t : TypeId) {N : Nat} {w0 : World} (h : ∀ g, g = W.heap.size → ∀ w1, Aside0 (w1.heap[g]? = some (.cells cs t (0, 0))) → Below W.heap.size W w1 → Aside0 (w0.heap.size ≤ g) → Aside0 (Below w0.heap.size w0 w1) → wpList P ops Q rest (a.put o.dst (.pointer (some ⟨g, 0, none⟩))) w1) (hg : o.guard = none := by rfl) (hd : o.dst = some N := by rfl) (hr : (execOp a.eval o).run P W = .ok (.value (.pointer (some ⟨W.heap.size, 0, none⟩))) (W.alloc (.cells cs t (0, 0))) := by first | (go_simp; done) | (go_simp; rfl)) (hB : Below w0.heap.size w0 W := by repeat (first | (with_reducible first | exact HB.out | apply below_alloc | apply pw_below_drewN | apply below_drew1 | refine below_set ?_ (Aside0.out (by first | (with_reducible assumption) | assumption))) | exact HB.out)) : wpList P ops Q (o :: rest) a W := box_event hg hd hr (fun g hg w1 hb hw => h g hg w1 ⟨hb⟩ hw ⟨zG hg (below_size hB)⟩ ⟨below_step hB hw⟩)
end
theorem zu {w W w2 : World} (hb : Below W.heap.size W w2) (h : Below w.heap.size w W := by repeat (first | (with_reducible first | exact HB.out | apply below_alloc | apply pw_below_drewN | apply below_drew1 | refine below_set ?_ (Aside0.out (by first | (with_reducible assumption) | assumption))) | exact HB.out)) : Aside0 (Below w.heap.size w w2) := ⟨below_step h hb⟩
theorem zw {W w w1 : World} {g : Nat} {o : Obj} (x : Aside0 (W.heap[g]? = some o)) (hb : Below w.heap.size w w1) (h : W.heap[g]? = some o → w.heap[g]? = some o := by intro h_; (with_reducible repeat (first | refine blk_drewN ?_ _ | refine blk_drew ?_ | refine blk_alloc ?_ _)); exact h_) : Aside0 (w1.heap[g]? = some o) := ⟨blk_below (h x.out) hb⟩
theorem zL {w W : World} {g m : Nat} {o : Obj} (hg : m = w.heap.size) (x : Aside0 (W.heap[g]? = some o)) (h : W.heap[g]? = some o → w.heap[g]? = some o := by intro h_; (with_reducible repeat (first | refine blk_drewN ?_ _ | refine blk_drew ?_ | refine blk_alloc ?_ _)); exact h_) : Aside0 (g ≠ m) := ⟨zl hg (h x.out)⟩
theorem zLs {a b : Nat} (h : Aside0 (a ≠ b)) : Aside0 (b ≠ a) := ⟨h.out.symm⟩
theorem zp {p q r : Prop} [Decidable p] [Decidable q] (f : p → q → r) (a : decide p = true := by first | (with_reducible assumption) | assumption) (b : decide q = true := by first | (with_reducible assumption) | assumption) : p ∧ q ∧ r := ⟨of_decide_eq_true a, of_decide_eq_true b, f (of_decide_eq_true a) (of_decide_eq_true b)⟩
theorem zd {w w1 : World} {p : Addr} {v : Value} (h : Aside0 (Below w.heap.size w w1)) (x : w.cell? p = some v) : w1.cell? p = some v := (h.out.cell (World.block_lt_of_cell? w _ x)).trans x
theorem zD {α : Type} {k : Kd α} {w W : World} {A : Option Addr} {n : Nat} {xs : List α} {p : Prop} (x : Aside0 (Kd.C k w A n xs)) (b : Aside0 (Below w.heap.size w W)) (h : Kd.C k W A n xs → p := by intro h_; repeat (first | exact h_ | (with_reducible refine Kd.C_alloc ?_ _) | (with_reducible refine Kd.C_drewN ?_ _) | (with_reducible refine Kd.C_drew ?_))) : p := h (Kd.C_below x.out b.out)
theorem zyb {α β : Type _} (a : α) {f : α → Option β} {b : β} (h : (some a).bind f = some b) : ∃ y, Aside0 (y = a) ∧ f y = some b := ⟨a, ⟨rfl⟩, h⟩
theorem zY {α : Type _} (a : α) : ∃ y, y = a := ⟨a, rfl⟩
theorem zZ {α : Type _} (a : α) : ∃ y, a = y := ⟨a, rfl⟩
theorem zfr {W w : World} {a b : Addr} {v : Value} {g o : Nat} {u : Value} (x : w.cell? b = some v) (k : Aside0 (w.heap.size ≤ g)) (h : a.block = b.block := by rfl) : (W.setCell ⟨g, o, none⟩ u).cell? a = W.cell? a := cell_far (by rw [h]; exact Nat.ne_of_lt (Nat.lt_of_lt_of_le (World.block_lt_of_cell? _ _ x) k.out)) u
theorem zv0 {p q : Prop} (x : Aside0 q) (h : q → p := by intro h_; repeat (first | (with_reducible first | exact h_ | apply below_alloc | apply pw_below_drewN | apply below_drew1) | exact h_)) : p := h x.out
theorem zv1 {p q rg0 : Prop} (x : Aside0 q) (g0 : Aside0 rg0) (h : q → rg0 → p := by intro h_ g0_; repeat (first | (with_reducible first | exact h_ | apply below_alloc | apply pw_below_drewN | apply below_drew1 | refine below_set ?_ g0_) | exact h_)) : p := h x.out g0.out
theorem zv2 {p q rg0 rg1 : Prop} (x : Aside0 q) (g0 : Aside0 rg0) (g1 : Aside0 rg1) (h : q → rg0 → rg1 → p := by intro h_ g0_ g1_; repeat (first | (with_reducible first | exact h_ | apply below_alloc | apply pw_below_drewN | apply below_drew1 | refine below_set ?_ g0_ | refine below_set ?_ g1_) | exact h_)) : p := h x.out g0.out g1.out
theorem zv3 {p q rg0 rg1 rg2 : Prop} (x : Aside0 q) (g0 : Aside0 rg0) (g1 : Aside0 rg1) (g2 : Aside0 rg2) (h : q → rg0 → rg1 → rg2 → p := by intro h_ g0_ g1_ g2_; repeat (first | (with_reducible first | exact h_ | apply below_alloc | apply pw_below_drewN | apply below_drew1 | refine below_set ?_ g0_ | refine below_set ?_ g1_ | refine below_set ?_ g2_) | exact h_)) : p := h x.out g0.out g1.out g2.out
theorem zv4 {p q rg0 rg1 rg2 rg3 : Prop} (x : Aside0 q) (g0 : Aside0 rg0) (g1 : Aside0 rg1) (g2 : Aside0 rg2) (g3 : Aside0 rg3) (h : q → rg0 → rg1 → rg2 → rg3 → p := by intro h_ g0_ g1_ g2_ g3_; repeat (first | (with_reducible first | exact h_ | apply below_alloc | apply pw_below_drewN | apply below_drew1 | refine below_set ?_ g0_ | refine below_set ?_ g1_ | refine below_set ?_ g2_ | refine below_set ?_ g3_) | exact h_)) : p := h x.out g0.out g1.out g2.out g3.out
theorem zkp0 {p q : Prop} (x : Aside0 q) (h : q → p := by intro h_; repeat (first | (with_reducible first | exact h_ | apply Kept.alloc | apply Kept.drewN | apply Kept.drew) | exact h_)) : p := h x.out
theorem zc4 {w : World} {g : Nat} {t : TypeId} {a b c d e : Value} {cs : List Value} (h : Aside0 (w.heap[g]? = some (.cells (a :: b :: c :: d :: e :: cs).toArray t (0, 0)))) : w.cell? ⟨g, 4, none⟩ = some e := (blk_cell h.out 4).trans rfl
theorem zc5 {w : World} {g : Nat} {t : TypeId} {a b c d e f : Value} {cs : List Value} (h : Aside0 (w.heap[g]? = some (.cells (a :: b :: c :: d :: e :: f :: cs).toArray t (0, 0)))) : w.cell? ⟨g, 5, none⟩ = some f := (blk_cell h.out 5).trans rfl
theorem zgo {P : Program} {ops : Array Oper} {Q : Exit → Act → World → Prop} {rest : List Oper} {oi : Oper} {a : Act} {w : World} (N : Nat) {f : FuncId} {fn : Func} {av : Array Operand} {ts : Array TypeId} (hf : P.funcs[f]? = some fn) (args : Array Value) (h : Calls P f args w fun e w' => ∃ v, e = .returned v ∧ wpList P ops Q rest (a.put (some N) v) w') (hd : oi.dst = some N := by rfl) (hg : oi.guard = none := by rfl) (hop : oi.op = .call { callee := .value (.func f), args := av, argTypes := ts } := by rfl) (hname : (fn.name == "runtime.NumGoroutine") = false := by kernel_rfl) (hb : fn.body.isSome = true := by rfl) (hargs : av.map a.eval = args := by (try simp only [List.map_toArray, List.map_cons, List.map_nil]); first | done | rfl | (simp only [List.length_drop, List.length_take]; rfl)) : wpList P ops Q (oi :: rest) a w := goesL_ (some N) hd hg hf hname hb args hop hargs h
end Go.Proofs.YtngpkbbljnbojaaGreatW.PrintWords
