-- The words that the printed texts of this group use: of the print's own, and of this session's.
import Derived.RangeFuncNested
import Derived.RangeFuncBound
import Derived.RangeFuncCalls
import Derived.RangeFuncLeaves
import Derived.OrdersIn
import Derived.OwnWalkIn
import Derived.TacticsInMore
import Derived.LoopNIn
import Derived.LoopIn
import Derived.Shelf.Abstract
import Derived.Test.YtngpkbbljnbojaaProg
import Derived.Shelf.Sort.Plain
import Derived.Shelf.Slices.In.SortNone
import Derived.Shelf.Slices.CompactI
import Derived.Shelf.SlicesE.DeleteFunc
import Derived.Shelf.Spec.SlicesGrow
import Derived.Sort.OwnSortedInts
import Derived.Lib.OwnBridge
import Derived.Sort.Grow
import Derived.Shelf.GgClosure.Gives
import Derived.Test.YtngpkbbljnbojaaIwa
section
namespace Go.Proofs.YtngpkbbljnbojaaW.PrintWords
open Go.RowKit Go.Shelf
def laysSort_ren : Go.Shelf.Ren := ⟨fun | 189 => 67 | 125 => 80 | 257 => 79 | 128 => 95 | 129 => 96 | 294 => 86 | 295 => 87 | 296 => 88 | 297 => 89 | 298 => 90 | 299 => 91 | 216 => 92 | 300 => 93 | 301 => 94 | 328 => 100 | 329 => 101 | 330 => 102 | 331 => 103 | 332 => 104 | 215 => 105 | 343 => 106 | n => n, fun | 28 => 29 | 3 => 3 | 46 => 112 | 0 => 0 | 51 => 43 | 53 => 44 | 4 => 4 | 183 => 121 | 182 => 120 | 131 => 69 | 5 => 5 | 9 => 9 | 218 => 130 | 222 => 134 | 228 => 136 | 229 => 137 | n => n, fun | n => n⟩
theorem laysSort : Go.Proofs.Lays.n189 Try.prog laysSort_ren := {
 mixed := by kernel_rfl,
 f125 := Try.func80.trans (congrArg some (by kernel_rfl)),
 f128 := Try.func95.trans (congrArg some (by kernel_rfl)),
 f129 := Try.func96.trans (congrArg some (by kernel_rfl)),
 f189 := Try.func67.trans (congrArg some (by kernel_rfl)),
 f215 := Try.func105.trans (congrArg some (by kernel_rfl)),
 f216 := Try.func92.trans (congrArg some (by kernel_rfl)),
 f257 := Try.func79.trans (congrArg some (by kernel_rfl)),
 f294 := Try.func86.trans (congrArg some (by kernel_rfl)),
 f295 := Try.func87.trans (congrArg some (by kernel_rfl)),
 f296 := Try.func88.trans (congrArg some (by kernel_rfl)),
 f297 := Try.func89.trans (congrArg some (by kernel_rfl)),
 f298 := Try.func90.trans (congrArg some (by kernel_rfl)),
 f299 := Try.func91.trans (congrArg some (by kernel_rfl)),
 f300 := Try.func93.trans (congrArg some (by kernel_rfl)),
 f301 := Try.func94.trans (congrArg some (by kernel_rfl)),
 f328 := Try.func100.trans (congrArg some (by kernel_rfl)),
 f329 := Try.func101.trans (congrArg some (by kernel_rfl)),
 f330 := Try.func102.trans (congrArg some (by kernel_rfl)),
 f331 := Try.func103.trans (congrArg some (by kernel_rfl)),
 f332 := Try.func104.trans (congrArg some (by kernel_rfl)),
 f343 := Try.func106.trans (congrArg some (by kernel_rfl)),
 t0 := Try.underlying0,
 a0 := Try.isAgg0,
 z0 := Try.sizeOf0,
 v0 := Try.zeroValue0,
 t3 := Try.underlying3,
 a3 := Try.isAgg3,
 z3 := Try.sizeOf3,
 v3 := Try.zeroValue3,
 t4 := Try.underlying4,
 a4 := Try.isAgg4,
 z4 := Try.sizeOf4,
 v4 := Try.zeroValue4,
 t5 := Try.underlying5,
 a5 := Try.isAgg5,
 z5 := Try.sizeOf5,
 v5 := Try.zeroValue5,
 t9 := Try.underlying9,
 a9 := Try.isAgg9,
 z9 := Try.sizeOf9,
 v9 := Try.zeroValue9,
 t28 := Try.underlying29,
 a28 := Try.isAgg29,
 z28 := Try.sizeOf29,
 v28 := Try.zeroValue29,
 t46 := Try.underlying112,
 a46 := Try.isAgg112,
 z46 := Try.sizeOf112,
 v46 := Try.zeroValue112,
 t51 := Try.underlying43,
 a51 := Try.isAgg43,
 z51 := Try.sizeOf43,
 v51 := Try.zeroValue43,
 t53 := Try.underlying44,
 a53 := Try.isAgg44,
 z53 := Try.sizeOf44,
 v53 := Try.zeroValue44,
 t131 := Try.underlying69,
 a131 := Try.isAgg69,
 z131 := Try.sizeOf69,
 v131 := Try.zeroValue69,
 t182 := Try.underlying120,
 a182 := Try.isAgg120,
 z182 := Try.sizeOf120,
 v182 := Try.zeroValue120,
 t183 := Try.underlying121,
 a183 := Try.isAgg121,
 z183 := Try.sizeOf121,
 v183 := Try.zeroValue121,
 t218 := Try.underlying130,
 a218 := Try.isAgg130,
 z218 := Try.sizeOf130,
 v218 := Try.zeroValue130,
 t222 := Try.underlying134,
 a222 := Try.isAgg134,
 z222 := Try.sizeOf134,
 v222 := Try.zeroValue134,
 t228 := Try.underlying136,
 a228 := Try.isAgg136,
 z228 := Try.sizeOf136,
 v228 := Try.zeroValue136,
 t229 := Try.underlying137,
 a229 := Try.isAgg137,
 z229 := Try.sizeOf137,
 v229 := Try.zeroValue137 }
def laysCompact_ren : Go.Shelf.Ren := ⟨fun | 20 => 68 | n => n, fun | 22 => 29 | 3 => 3 | 4 => 4 | 0 => 0 | n => n, fun | n => n⟩
theorem laysCompact : Go.Proofs.Lays2.n20 Try.prog laysCompact_ren := {
 mixed := by kernel_rfl,
 f20 := Try.func68.trans (congrArg some (by kernel_rfl)),
 t0 := Try.underlying0,
 a0 := Try.isAgg0,
 z0 := Try.sizeOf0,
 v0 := Try.zeroValue0,
 t3 := Try.underlying3,
 a3 := Try.isAgg3,
 z3 := Try.sizeOf3,
 v3 := Try.zeroValue3,
 t4 := Try.underlying4,
 a4 := Try.isAgg4,
 z4 := Try.sizeOf4,
 v4 := Try.zeroValue4,
 t22 := Try.underlying29,
 a22 := Try.isAgg29,
 z22 := Try.sizeOf29,
 v22 := Try.zeroValue29,
 i3 := by kernel_rfl }
def laysDelete_ren : Go.Shelf.Ren := ⟨fun | 10 => 43 | 6 => 60 | n => n, fun | 22 => 29 | 23 => 3 | 25 => 78 | 3 => 3 | 4 => 4 | 0 => 0 | n => n, fun | n => n⟩
theorem laysDelete : Go.Proofs.SlLaysH.n10 Try.prog laysDelete_ren := {
 mixed := by kernel_rfl,
 f6 := ⟨Try.f60.name, by decide, Try.func60.trans (congrArg some (by kernel_rfl))⟩,
 f10 := ⟨Try.f43.name, by decide, Try.func43.trans (congrArg some (by kernel_rfl))⟩,
 t0 := Try.underlying0,
 a0 := Try.isAgg0,
 z0 := Try.sizeOf0,
 v0 := Try.zeroValue0,
 t3 := Try.underlying3,
 a3 := Try.isAgg3,
 z3 := Try.sizeOf3,
 v3 := Try.zeroValue3,
 t4 := Try.underlying4,
 a4 := Try.isAgg4,
 z4 := Try.sizeOf4,
 v4 := Try.zeroValue4,
 t22 := Try.underlying29,
 a22 := Try.isAgg29,
 z22 := Try.sizeOf29,
 v22 := Try.zeroValue29,
 a23 := Try.isAgg3,
 z23 := Try.sizeOf3,
 t25 := Try.underlying78,
 a25 := Try.isAgg78,
 z25 := Try.sizeOf78,
 v25 := Try.zeroValue78 }
end Go.Proofs.YtngpkbbljnbojaaW.PrintWords
end
section
namespace Go.Proofs.YtngpkbbljnbojaaW.PrintWords
open Go.RowKit Go.Sort
theorem ownsRow_grow {w : World} {base n : Nat} {e : TypeId} {size : Nat} {v : Value} {xs : List Value} (h : w.ownsRow base e size v n xs) (os : Array Obj) : (grow w os).ownsRow base e size v n xs := by
 refine ⟨h.1, ?_⟩
 rcases h.2 with h2 | ⟨g, cap, cur, h1, h2, h3, h4⟩
 ·exact .inl h2
 ·have hg : g < w.heap.size := (Array.getElem?_eq_some_iff.1 h3).1
  exact .inr ⟨g, cap, cur, h1, h2, by rw [heap_grow_old _ _ hg]; exact h3, h4⟩
theorem below_grow {B : Nat} {w0 w : World} (h : Below B w0 w) (hB : B ≤ w.heap.size) (os : Array Obj) : Below B w0 (grow w os) :=
 ⟨h.os, h.tape, h.output, by have := h.size; simp [grow]; omega, fun k hk => by rw [heap_grow_old _ _ (by omega)]; exact h.block k hk⟩
section
variable {e : Nat} {w : World} {base g n cap : Nat} {ok ok' : Nat → Prop} {zs ys : List Int}
theorem int_row (h : (Kd.int .i64).R e w base ok (.slice (some ⟨g, 0, none⟩) n cap) zs) : ok g ∧ base ≤ g ∧ g < w.heap.size ∧ n = zs.length ∧ zs.length ≤ cap ∧ cap ≤ maxLen ∧ Holds (Value.int .i64) w g 0 zs.toArray := by
 have ho := Kd.own_of_R (enc := Value.int .i64) (h1 := fun _ => rfl) h
 obtain ⟨g', cap', e1, h1, h2, h3, h4, h5, h6⟩ := Lib.holds_of_ownsRow (enc := Value.int .i64) (zs := zs) ho (by simp)
 injection e1 with e1 e2 e3
 injection e1 with e1
 injection e1 with e1
 subst e1 e2 e3
 exact ⟨h.1 _ rfl, h1, h2, rfl, h3, h4, h6⟩
theorem int_row_put (h : (Kd.int .i64).R e w base ok (.slice (some ⟨g, 0, none⟩) n cap) zs) (q : Nat) (os : Array Obj) (hy : ys.length = zs.length) {k : Nat} (hk : k ≤ zs.length) (hok : ok' g) :
  (Kd.int .i64).R e (grow (putRow (Value.int .i64) (Sort.ahead w q) g 0 ys.toArray) os) base ok' (.slice (some ⟨g, 0, none⟩) k cap) (ys.take k) := by
 have ho := Kd.own_of_R (enc := Value.int .i64) (h1 := fun _ => rfl) h
 have hn : n = zs.length := (int_row h).2.2.2.1
 subst hn
 have h1 := ownsRow_grow (Lib.ownsRow_putRow (enc := Value.int .i64) (q := q) (k := k) ho hy hk) os
 have hl : (ys.take k).length = k := by rw [List.length_take]; omega
 refine Kd.R_of_own (enc := Value.int .i64) (h1 := fun _ => rfl) ?_ (fun j hj => by simp [Value.ownBlock] at hj; rw [← hj]; exact hok)
 rw [hl]
 exact h1
theorem put_kept (q : Nat) (os : Array Obj) (d : Array Int) (hok : ok g) : Kept w (grow (putRow (Value.int .i64) (Sort.ahead w q) g 0 d) os) ok := by
 refine ⟨by simp [grow, putRow, mapBlock, Sort.ahead], fun i hi hn => ?_⟩
 rw [heap_grow_old _ _ (by simpa [putRow, mapBlock, Sort.ahead] using hi)]
 have : g ≠ i := fun e => hn (e ▸ hok)
 simp [putRow, mapBlock, Sort.ahead, Array.getElem?_modify, this]
theorem put_below {w0 : World} (hB : Below w0.heap.size w0 w) (hg : w0.heap.size ≤ g) (q : Nat) (os : Array Obj) (d : Array Int) : Below w0.heap.size w0 (grow (putRow (Value.int .i64) (Sort.ahead w q) g 0 d) os) :=
 below_grow (Lib.below_putRow hB hg) (by simpa [putRow, mapBlock, Sort.ahead] using hB.size) os
end
end Go.Proofs.YtngpkbbljnbojaaW.PrintWords
end
namespace Go.Proofs.YtngpkbbljnbojaaW.PrintWords
open Go.RowKit
theorem zB {p : Prop} (h : p := by repeat (first | (with_reducible first | exact HB.out | apply below_alloc | apply pw_below_drewN | apply below_drew1 | refine below_set ?_ (Aside0.out (by first | (with_reducible assumption) | assumption))) | exact HB.out)) : p := h
theorem zk {q p : Prop} (x : Aside0 q) (h : q → p := by intro h_; (with_reducible repeat (first | refine blk_drewN ?_ _ | refine blk_drew ?_ | refine blk_alloc ?_ _)); exact h_) : p := h x.out
theorem zR {q p : Prop} (x : Aside0 q) (h : q → p := by intro h_; (with_reducible repeat (first | apply Kd.R_alloc | apply Kd.R_drewN | apply Kd.R_drew)); exact h_) : p := h x.out
theorem zN {q p : Prop} (x : Aside0 q) (h : q → p := by intro h_; (with_reducible repeat (first | apply Kd.N_alloc | apply Kd.N_drewN | apply Kd.N_drew)); exact h_) : p := h x.out
theorem zS {q p : Prop} (x : Aside0 q) (h : q → p := by intro h_; (with_reducible repeat (first | apply Kd.S_alloc | apply Kd.S_drewN | apply Kd.S_drew)); exact h_) : p := h x.out
theorem zV {q p : Prop} (x : Aside0 q) (h : q → p := by intro h_; (with_reducible repeat (first | apply Kd.V_alloc | apply Kd.V_drewN | apply Kd.V_drew)); exact h_) : p := h x.out
theorem zh {p : Prop} (h : p := by first | (with_reducible assumption) | assumption) : p := h
theorem zM {p : Prop} (h : p := by (try simp only [List.map_toArray, List.map_cons, List.map_nil]); first | done | rfl | (simp only [List.length_drop, List.length_take]; rfl)) : p := h
theorem zT {p : Prop} (h : p := by first | rfl | (simp; done) | (simp [*]; done)) : p := h
theorem zK {p : Prop} (h : p := by kernel_rfl) : p := h
end Go.Proofs.YtngpkbbljnbojaaW.PrintWords
namespace Go.Proofs.YtngpkbbljnbojaaW.PrintWords
open Go.RowKit
theorem zA {p : Prop} (h : p) : Aside0 p := ⟨h⟩
theorem zC {q p : Prop} (x : q) (h : q → p := by intro h_; repeat (first | exact h_ | (with_reducible refine Kd.C_alloc ?_ _) | (with_reducible refine Kd.C_drewN ?_ _) | (with_reducible refine Kd.C_drew ?_))) : p := h x
theorem zG {a b c : Nat} (h : c = b) (k : a ≤ b) : a ≤ c := h ▸ k
theorem zl {w : World} {g m : Nat} {o : Obj} (hg : m = w.heap.size) (h : w.heap[g]? = some o) : g ≠ m := by rw [hg]; exact Nat.ne_of_lt (blk_lt h)
theorem zg {w : World} {g m : Nat} {o : Obj} (hg : m = w.heap.size) (h : w.heap[g]? = some o) : m ≠ g := by rw [hg]; exact Nat.ne_of_gt (blk_lt h)
theorem zi {α : Type _} (l : List α) (i : Nat) (a : α) : l.toArray.setIfInBounds i a = (l.set i a).toArray := List.setIfInBounds_toArray l i a
theorem zs {α : Type _} {x : α} {xs : List α} {a : α} : (x :: xs).set 0 a = a :: xs := List.set_cons_zero
theorem zt {α : Type _} {x : α} {xs : List α} {i : Nat} {a : α} : (x :: xs).set (i + 1) a = x :: xs.set i a := List.set_cons_succ
end Go.Proofs.YtngpkbbljnbojaaW.PrintWords
namespace Go.Proofs.YtngpkbbljnbojaaW.PrintWords
open Go.RowKit
theorem zr {q p : Prop} (x : q) (h : q → p := by intro h_; (with_reducible repeat (first | apply Kd.R_alloc | apply Kd.R_drewN | apply Kd.R_drew)); exact h_) : p := h x
theorem zj {q p : Prop} (x : q) (h : q → p := by intro h_; (with_reducible repeat (first | refine blk_drewN ?_ _ | refine blk_drew ?_ | refine blk_alloc ?_ _)); exact h_) : p := h x
theorem zb {W w w1 : World} {g : Nat} {o : Obj} (x : Aside0 (W.heap[g]? = some o)) (hb : Below w.heap.size w w1) (h : W.heap[g]? = some o → w.heap[g]? = some o := by intro h_; (with_reducible repeat (first | refine blk_drewN ?_ _ | refine blk_drew ?_ | refine blk_alloc ?_ _)); exact h_) : w1.heap[g]? = some o := blk_below (h x.out) hb
theorem ze {p : Prop} (h : p := by first | rfl | (simp [errW_none, errW_some] <;> rfl) | (simp [*, errW_none, errW_some] <;> rfl)) : p := h
theorem zv0 {p q : Prop} (x : Aside0 q) (h : q → p := by intro h_; repeat (first | (with_reducible first | exact h_ | apply below_alloc | apply pw_below_drewN | apply below_drew1) | exact h_)) : p := h x.out
theorem zv1 {p q rg0 : Prop} (x : Aside0 q) (g0 : Aside0 rg0) (h : q → rg0 → p := by intro h_ g0_; repeat (first | (with_reducible first | exact h_ | apply below_alloc | apply pw_below_drewN | apply below_drew1 | refine below_set ?_ g0_) | exact h_)) : p := h x.out g0.out
theorem zv2 {p q rg0 rg1 : Prop} (x : Aside0 q) (g0 : Aside0 rg0) (g1 : Aside0 rg1) (h : q → rg0 → rg1 → p := by intro h_ g0_ g1_; repeat (first | (with_reducible first | exact h_ | apply below_alloc | apply pw_below_drewN | apply below_drew1 | refine below_set ?_ g0_ | refine below_set ?_ g1_) | exact h_)) : p := h x.out g0.out g1.out
theorem zv3 {p q rg0 rg1 rg2 : Prop} (x : Aside0 q) (g0 : Aside0 rg0) (g1 : Aside0 rg1) (g2 : Aside0 rg2) (h : q → rg0 → rg1 → rg2 → p := by intro h_ g0_ g1_ g2_; repeat (first | (with_reducible first | exact h_ | apply below_alloc | apply pw_below_drewN | apply below_drew1 | refine below_set ?_ g0_ | refine below_set ?_ g1_ | refine below_set ?_ g2_) | exact h_)) : p := h x.out g0.out g1.out g2.out
end Go.Proofs.YtngpkbbljnbojaaW.PrintWords
