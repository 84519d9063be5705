-- The words that the printed texts of this group use: of the print's own, and of this session's.
import Derived.RangeFuncNested
import Derived.RangeFuncBound
import Derived.RangeFuncCalls
import Derived.RangeFuncLeaves
import Derived.OrdersIn
import Derived.OwnWalkIn
import Derived.TacticsInMore
import Derived.LoopNIn
import Derived.LoopIn
import Derived.Shelf.Abstract
import Derived.Test.YtbagnalcabdlhaaProg
import Derived.Shelf.Sort.Plain
import Derived.Shelf.Slices.In.SortNone
import Derived.Shelf.Slices.CompactI
import Derived.Shelf.SlicesE.DeleteFunc
import Derived.Shelf.Spec.SlicesGrow
import Derived.Sort.OwnSortedInts
import Derived.Lib.OwnBridge
import Derived.Sort.Grow
import Derived.Shelf.GgClosure.Gives
import Derived.Test.YtbagnalcabdlhaaSwa
section
namespace Go.Proofs.YtbagnalcabdlhaaW.PrintWords
open Go.RowKit Go.Shelf
def laysSort_ren : Go.Shelf.Ren := ⟨fun | 189 => 38 | 125 => 70 | 257 => 69 | 128 => 108 | 129 => 109 | 294 => 99 | 295 => 100 | 296 => 101 | 297 => 102 | 298 => 103 | 299 => 104 | 216 => 105 | 300 => 106 | 301 => 107 | 328 => 125 | 329 => 126 | 330 => 127 | 331 => 128 | 332 => 129 | 215 => 130 | 343 => 134 | n => n, fun | 28 => 42 | 3 => 3 | 46 => 96 | 0 => 0 | 51 => 82 | 53 => 83 | 4 => 4 | 183 => 123 | 182 => 122 | 131 => 128 | 5 => 5 | 9 => 9 | 218 => 141 | 222 => 145 | 228 => 149 | 229 => 150 | n => n, fun | n => n⟩
theorem laysSort : Go.Proofs.Lays.n189 Try.prog laysSort_ren := {
 mixed := by kernel_rfl,
 f125 := Try.func70.trans (congrArg some (by kernel_rfl)),
 f128 := Try.func108.trans (congrArg some (by kernel_rfl)),
 f129 := Try.func109.trans (congrArg some (by kernel_rfl)),
 f189 := Try.func38.trans (congrArg some (by kernel_rfl)),
 f215 := Try.func130.trans (congrArg some (by kernel_rfl)),
 f216 := Try.func105.trans (congrArg some (by kernel_rfl)),
 f257 := Try.func69.trans (congrArg some (by kernel_rfl)),
 f294 := Try.func99.trans (congrArg some (by kernel_rfl)),
 f295 := Try.func100.trans (congrArg some (by kernel_rfl)),
 f296 := Try.func101.trans (congrArg some (by kernel_rfl)),
 f297 := Try.func102.trans (congrArg some (by kernel_rfl)),
 f298 := Try.func103.trans (congrArg some (by kernel_rfl)),
 f299 := Try.func104.trans (congrArg some (by kernel_rfl)),
 f300 := Try.func106.trans (congrArg some (by kernel_rfl)),
 f301 := Try.func107.trans (congrArg some (by kernel_rfl)),
 f328 := Try.func125.trans (congrArg some (by kernel_rfl)),
 f329 := Try.func126.trans (congrArg some (by kernel_rfl)),
 f330 := Try.func127.trans (congrArg some (by kernel_rfl)),
 f331 := Try.func128.trans (congrArg some (by kernel_rfl)),
 f332 := Try.func129.trans (congrArg some (by kernel_rfl)),
 f343 := Try.func134.trans (congrArg some (by kernel_rfl)),
 t0 := Try.underlying0,
 a0 := Try.isAgg0,
 z0 := Try.sizeOf0,
 v0 := Try.zeroValue0,
 t3 := Try.underlying3,
 a3 := Try.isAgg3,
 z3 := Try.sizeOf3,
 v3 := Try.zeroValue3,
 t4 := Try.underlying4,
 a4 := Try.isAgg4,
 z4 := Try.sizeOf4,
 v4 := Try.zeroValue4,
 t5 := Try.underlying5,
 a5 := Try.isAgg5,
 z5 := Try.sizeOf5,
 v5 := Try.zeroValue5,
 t9 := Try.underlying9,
 a9 := Try.isAgg9,
 z9 := Try.sizeOf9,
 v9 := Try.zeroValue9,
 t28 := Try.underlying42,
 a28 := Try.isAgg42,
 z28 := Try.sizeOf42,
 v28 := Try.zeroValue42,
 t46 := Try.underlying96,
 a46 := Try.isAgg96,
 z46 := Try.sizeOf96,
 v46 := Try.zeroValue96,
 t51 := Try.underlying82,
 a51 := Try.isAgg82,
 z51 := Try.sizeOf82,
 v51 := Try.zeroValue82,
 t53 := Try.underlying83,
 a53 := Try.isAgg83,
 z53 := Try.sizeOf83,
 v53 := Try.zeroValue83,
 t131 := Try.underlying128,
 a131 := Try.isAgg128,
 z131 := Try.sizeOf128,
 v131 := Try.zeroValue128,
 t182 := Try.underlying122,
 a182 := Try.isAgg122,
 z182 := Try.sizeOf122,
 v182 := Try.zeroValue122,
 t183 := Try.underlying123,
 a183 := Try.isAgg123,
 z183 := Try.sizeOf123,
 v183 := Try.zeroValue123,
 t218 := Try.underlying141,
 a218 := Try.isAgg141,
 z218 := Try.sizeOf141,
 v218 := Try.zeroValue141,
 t222 := Try.underlying145,
 a222 := Try.isAgg145,
 z222 := Try.sizeOf145,
 v222 := Try.zeroValue145,
 t228 := Try.underlying149,
 a228 := Try.isAgg149,
 z228 := Try.sizeOf149,
 v228 := Try.zeroValue149,
 t229 := Try.underlying150,
 a229 := Try.isAgg150,
 z229 := Try.sizeOf150,
 v229 := Try.zeroValue150 }
def laysCompact_ren : Go.Shelf.Ren := ⟨fun | 20 => 84 | n => n, fun | 22 => 42 | 3 => 3 | 4 => 4 | 0 => 0 | n => n, fun | n => n⟩
theorem laysCompact : Go.Proofs.Lays2.n20 Try.prog laysCompact_ren := {
 mixed := by kernel_rfl,
 f20 := Try.func84.trans (congrArg some (by kernel_rfl)),
 t0 := Try.underlying0,
 a0 := Try.isAgg0,
 z0 := Try.sizeOf0,
 v0 := Try.zeroValue0,
 t3 := Try.underlying3,
 a3 := Try.isAgg3,
 z3 := Try.sizeOf3,
 v3 := Try.zeroValue3,
 t4 := Try.underlying4,
 a4 := Try.isAgg4,
 z4 := Try.sizeOf4,
 v4 := Try.zeroValue4,
 t22 := Try.underlying42,
 a22 := Try.isAgg42,
 z22 := Try.sizeOf42,
 v22 := Try.zeroValue42,
 i3 := by kernel_rfl }
def laysGrow_ren : Go.Shelf.Ren := ⟨fun | 4 => 68 | n => n, fun | 22 => 42 | 25 => 3 | 3 => 3 | 4 => 4 | 9 => 9 | 20 => 20 | 0 => 0 | n => n, fun | n => n⟩
theorem laysGrow : Go.Proofs.Lays8.n4 Try.prog laysGrow_ren := {
 mixed := by kernel_rfl,
 f4 := ⟨Try.f68.name, by decide, Try.func68.trans (congrArg some (by kernel_rfl))⟩,
 t0 := Try.underlying0,
 a0 := Try.isAgg0,
 z0 := Try.sizeOf0,
 v0 := Try.zeroValue0,
 t3 := Try.underlying3,
 a3 := Try.isAgg3,
 z3 := Try.sizeOf3,
 v3 := Try.zeroValue3,
 t4 := Try.underlying4,
 a4 := Try.isAgg4,
 z4 := Try.sizeOf4,
 v4 := Try.zeroValue4,
 t9 := Try.underlying9,
 a9 := Try.isAgg9,
 z9 := Try.sizeOf9,
 v9 := Try.zeroValue9,
 t20 := Try.underlying20,
 a20 := Try.isAgg20,
 z20 := Try.sizeOf20,
 v20 := Try.zeroValue20,
 t22 := Try.underlying42,
 a22 := Try.isAgg42,
 z22 := Try.sizeOf42,
 v22 := Try.zeroValue42 }
end Go.Proofs.YtbagnalcabdlhaaW.PrintWords
end
section
namespace Go.Proofs.YtbagnalcabdlhaaW.PrintWords
open Go.RowKit Go.Sort
theorem ownsRow_grow {w : World} {base n : Nat} {e : TypeId} {size : Nat} {v : Value} {xs : List Value} (h : w.ownsRow base e size v n xs) (os : Array Obj) : (grow w os).ownsRow base e size v n xs := by
 refine ⟨h.1, ?_⟩
 rcases h.2 with h2 | ⟨g, cap, cur, h1, h2, h3, h4⟩
 ·exact .inl h2
 ·have hg : g < w.heap.size := (Array.getElem?_eq_some_iff.1 h3).1
  exact .inr ⟨g, cap, cur, h1, h2, by rw [heap_grow_old _ _ hg]; exact h3, h4⟩
theorem below_grow {B : Nat} {w0 w : World} (h : Below B w0 w) (hB : B ≤ w.heap.size) (os : Array Obj) : Below B w0 (grow w os) :=
 ⟨h.os, h.tape, h.output, by have := h.size; simp [grow]; omega, fun k hk => by rw [heap_grow_old _ _ (by omega)]; exact h.block k hk⟩
section
variable {e : Nat} {w : World} {base g n cap : Nat} {ok ok' : Nat → Prop} {zs ys : List Int}
theorem int_row (h : (Kd.int .i64).R e w base ok (.slice (some ⟨g, 0, none⟩) n cap) zs) : ok g ∧ base ≤ g ∧ g < w.heap.size ∧ n = zs.length ∧ zs.length ≤ cap ∧ cap ≤ maxLen ∧ Holds (Value.int .i64) w g 0 zs.toArray := by
 have ho := Kd.own_of_R (enc := Value.int .i64) (h1 := fun _ => rfl) h
 obtain ⟨g', cap', e1, h1, h2, h3, h4, h5, h6⟩ := Lib.holds_of_ownsRow (enc := Value.int .i64) (zs := zs) ho (by simp)
 injection e1 with e1 e2 e3
 injection e1 with e1
 injection e1 with e1
 subst e1 e2 e3
 exact ⟨h.1 _ rfl, h1, h2, rfl, h3, h4, h6⟩
theorem int_row_put (h : (Kd.int .i64).R e w base ok (.slice (some ⟨g, 0, none⟩) n cap) zs) (q : Nat) (os : Array Obj) (hy : ys.length = zs.length) {k : Nat} (hk : k ≤ zs.length) (hok : ok' g) :
  (Kd.int .i64).R e (grow (putRow (Value.int .i64) (Sort.ahead w q) g 0 ys.toArray) os) base ok' (.slice (some ⟨g, 0, none⟩) k cap) (ys.take k) := by
 have ho := Kd.own_of_R (enc := Value.int .i64) (h1 := fun _ => rfl) h
 have hn : n = zs.length := (int_row h).2.2.2.1
 subst hn
 have h1 := ownsRow_grow (Lib.ownsRow_putRow (enc := Value.int .i64) (q := q) (k := k) ho hy hk) os
 have hl : (ys.take k).length = k := by rw [List.length_take]; omega
 refine Kd.R_of_own (enc := Value.int .i64) (h1 := fun _ => rfl) ?_ (fun j hj => by simp [Value.ownBlock] at hj; rw [← hj]; exact hok)
 rw [hl]
 exact h1
theorem put_kept (q : Nat) (os : Array Obj) (d : Array Int) (hok : ok g) : Kept w (grow (putRow (Value.int .i64) (Sort.ahead w q) g 0 d) os) ok := by
 refine ⟨by simp [grow, putRow, mapBlock, Sort.ahead], fun i hi hn => ?_⟩
 rw [heap_grow_old _ _ (by simpa [putRow, mapBlock, Sort.ahead] using hi)]
 have : g ≠ i := fun e => hn (e ▸ hok)
 simp [putRow, mapBlock, Sort.ahead, Array.getElem?_modify, this]
theorem put_below {w0 : World} (hB : Below w0.heap.size w0 w) (hg : w0.heap.size ≤ g) (q : Nat) (os : Array Obj) (d : Array Int) : Below w0.heap.size w0 (grow (putRow (Value.int .i64) (Sort.ahead w q) g 0 d) os) :=
 below_grow (Lib.below_putRow hB hg) (by simpa [putRow, mapBlock, Sort.ahead] using hB.size) os
end
end Go.Proofs.YtbagnalcabdlhaaW.PrintWords
end
namespace Go.Proofs.YtbagnalcabdlhaaW.PrintWords
open Go.RowKit
theorem zB {p : Prop} (h : p := by repeat (first | (with_reducible first | exact HB.out | apply below_alloc | apply pw_below_drewN | apply below_drew1 | refine below_set ?_ (Aside0.out (by first | (with_reducible assumption) | assumption))) | exact HB.out)) : p := h
theorem zk {q p : Prop} (x : Aside0 q) (h : q → p := by intro h_; (with_reducible repeat (first | refine blk_drewN ?_ _ | refine blk_drew ?_ | refine blk_alloc ?_ _)); exact h_) : p := h x.out
theorem zR {q p : Prop} (x : Aside0 q) (h : q → p := by intro h_; (with_reducible repeat (first | apply Kd.R_alloc | apply Kd.R_drewN | apply Kd.R_drew)); exact h_) : p := h x.out
theorem zN {q p : Prop} (x : Aside0 q) (h : q → p := by intro h_; (with_reducible repeat (first | apply Kd.N_alloc | apply Kd.N_drewN | apply Kd.N_drew)); exact h_) : p := h x.out
theorem zS {q p : Prop} (x : Aside0 q) (h : q → p := by intro h_; (with_reducible repeat (first | apply Kd.S_alloc | apply Kd.S_drewN | apply Kd.S_drew)); exact h_) : p := h x.out
theorem zV {q p : Prop} (x : Aside0 q) (h : q → p := by intro h_; (with_reducible repeat (first | apply Kd.V_alloc | apply Kd.V_drewN | apply Kd.V_drew)); exact h_) : p := h x.out
theorem zh {p : Prop} (h : p := by first | (with_reducible assumption) | assumption) : p := h
theorem zM {p : Prop} (h : p := by (try simp only [List.map_toArray, List.map_cons, List.map_nil]); first | done | rfl | (simp only [List.length_drop, List.length_take]; rfl)) : p := h
theorem zT {p : Prop} (h : p := by first | rfl | (simp; done) | (simp [*]; done)) : p := h
theorem zK {p : Prop} (h : p := by kernel_rfl) : p := h
end Go.Proofs.YtbagnalcabdlhaaW.PrintWords
