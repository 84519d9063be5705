-- The words that the printed texts of this group use: of the print's own, and of this session's.
import Derived.RangeFuncNested
import Derived.RangeFuncBound
import Derived.RangeFuncCalls
import Derived.RangeFuncLeaves
import Derived.OrdersIn
import Derived.OwnWalkIn
import Derived.TacticsInMore
import Derived.LoopNIn
import Derived.LoopIn
import Derived.Shelf.Abstract
import Derived.Test.YtanbffoilianhaaProg
import Derived.Shelf.Sort.Plain
import Derived.Shelf.Slices.In.SortNone
import Derived.Shelf.Slices.CompactI
import Derived.Shelf.SlicesE.DeleteFunc
import Derived.Shelf.Spec.SlicesGrow
import Derived.Sort.OwnSortedInts
import Derived.Lib.OwnBridge
import Derived.Sort.Grow
import Derived.Shelf.GgClosure.Gives
import Derived.Test.YtanbffoilianhaaFwa
section
namespace Go.Proofs.Ytanbffoilianhaa.Bridge
open Go.RowKit Go.Proofs.YtanbffoilianhaaW.PrintLast
variable {P : Program} {ops : Array Oper} {Q : Exit → Act → World → Prop}
theorem oper_in {o : Oper} {a : Act} {w : World} {K : Act → World → Prop} {l n : Nat} (hd : ∀ c, o.op ≠ .defer c) (h : o.wp P a w K Q) :
  o.wpIn (Fence.wide.inRound l) n P a w K Q := by
 refine ⟨fun _ _ => trivial, ?_⟩
 rw [Oper.semAt_eq _ _ _ hd]
 unfold Oper.wp at h
 generalize (execOp a.eval o).run P w = r at *
 cases r with
 | ok x w' =>
  cases x <;> simp only [Oper.upon, Oper.uponIn] at h ⊢
  case value => exact h
  case skip => exact h
  case defer => exact h
  case enter => exact ⟨fun h => by simp [Fence.wide] at h, (callsIn_wide.2 h).inRound l⟩
  case row => exact ⟨fun h => by simp [Fence.wide] at h, fun c cs _ => let ⟨v, w2, r, s⟩ := h c cs; ⟨v, w2, r, stepsIn_wide.2 s⟩⟩
  all_goals exact h.elim
 | halt x w' => cases x <;> simp only [Oper.upon, Oper.uponIn] at h ⊢ <;> exact h
def noDefer (ops : Array Oper) : Bool := ops.all fun o => match o.op with | .defer _ => false | _ => true
theorem noDefer_at {i : Nat} {o : Oper} (h : noDefer ops = true) (ho : ops[i]? = some o) : ∀ c, o.op ≠ .defer c := by
 intro c hc
 have h1 := Array.all_eq_true_iff_forall_mem.1 h o (Array.mem_of_getElem? ho)
 simp [hc] at h1
theorem any_in {md : Region.Mode} {l n : Nat} (hd : noDefer ops = true) (hL : ¬ LetsOut Q) : ∀ (fuel : Nat) (listed : Array Bool) (a : Act) (w : World),
  wpAny P md ops Q fuel listed a w → wpAnyIn (Fence.wide.inRound l) n P md ops Q fuel listed a w
 | 0, _, _, _, h => h
 | fuel + 1, listed, a, w, h => by
  refine ⟨h.1, fun i hi => ?_⟩
  have h2 := h.2 i hi
  unfold wpOp at h2
  unfold wpOpIn
  split
  ·rename_i ho; rw [ho] at h2; exact any_in hd hL fuel _ _ _ h2
  ·rename_i o ho
   rw [ho] at h2
   simp only at h2
   split
   ·rename_i hw
    rw [if_pos hw] at h2
    rcases h2 with h2 | h2
    ·exact oper_in (noDefer_at hd ho) (Oper.wp_mono (fun a w => any_in hd hL fuel _ a w) h2)
    ·exact (hL h2.2).elim
   ·rename_i hw
    rw [if_neg hw] at h2
    exact ⟨fun _ _ => trivial, any_in hd hL fuel _ _ _ h2⟩
variable {S : World → Prop} {ds : List Nat}
theorem start_in {id n m l : Nat} {a : Act} {w : World} (lb : Array Bool) (hm : P.follows .mixedOrders = true) (hd : noDefer ops = true) (hL : ¬ LetsOut Q) (hn : ops.size = n) (hl : Array.replicate n false = lb) (hS : S w.drew)
  (h : S w.drew → wpAnyLast P .any ops Q S ds n lb a w.drew) : (Code.region id ops true).wpIn (Fence.wide.inRound l) m P Q a w := by
 subst hn
 subst hl
 exact wpIn_region_any hm (any_in hd hL _ _ _ _ (wpAny_of_last _ _ _ _ (h hS)))
end Go.Proofs.Ytanbffoilianhaa.Bridge
end
section
namespace Go.Proofs.YtanbffoilianhaaW.PrintWords
open Go.RowKit
def cutW (w : World) (m : Nat) : World := { w with heap := w.heap.extract 0 m }
theorem cut_size {w : World} {m : Nat} (h : m ≤ w.heap.size) : (cutW w m).heap.size = m := by
 simp only [cutW, Array.size_extract]; omega
theorem cut_get {w : World} {m k : Nat} (h : k < m) : (cutW w m).heap[k]? = w.heap[k]? := by
 simp only [cutW, Array.getElem?_extract]
 by_cases hk : k < w.heap.size
 ·rw [if_pos (by omega), Nat.zero_add]
 ·rw [if_neg (by omega), Array.getElem?_eq_none (by omega)]
theorem cut_refl {w : World} {m : Nat} (h : m ≤ w.heap.size) : Below (cutW w m).heap.size (cutW w m) w :=
 ⟨rfl, rfl, rfl, by rw [cut_size h]; exact h, fun k hk => (cut_get (by rw [cut_size h] at hk; exact hk)).symm⟩
theorem cut_enter {P : Program} {n : Nat} {args : Array Value} {W : World} {Q : Ending → World → Prop} (m : Nat) (hm : m ≤ W.heap.size) (h : m ≤ W.heap.size → Calls P n args W Q) : Calls P n args W Q := h hm
theorem cut_came {w W : World} {m : Nat} (h : Below w.heap.size w W) (hw : w.heap.size ≤ m) (hm : m ≤ W.heap.size) : Below w.heap.size w (cutW W m) :=
 ⟨h.os, h.tape, h.output, by rw [cut_size hm]; exact hw, fun k hk => (cut_get (by omega)).trans (h.block k hk)⟩
theorem cut_below {w W w' : World} {m : Nat} (h : Below w.heap.size w W) (hw : w.heap.size ≤ m) (hm : m ≤ W.heap.size) (hb : Below (cutW W m).heap.size (cutW W m) w') : Below w.heap.size w w' :=
 (cut_came h hw hm).trans (hb.mono (by rw [cut_size hm]; exact hw))
theorem cut_le {W : World} {m n : Nat} (hm : m ≤ W.heap.size) (h : n ≤ m) : n ≤ (cutW W m).heap.size := by rw [cut_size hm]; exact h
theorem cut_ge {W : World} {m n : Nat} (hm : m ≤ W.heap.size) (h : m ≤ n) : (cutW W m).heap.size ≤ n := by rw [cut_size hm]; exact h
theorem cut_keep {W w' : World} {m k : Nat} (hm : m ≤ W.heap.size) (hb : Below (cutW W m).heap.size (cutW W m) w') (hk : k < m) : w'.heap[k]? = W.heap[k]? :=
 (hb.block k (by rw [cut_size hm]; exact hk)).trans (cut_get hk)
theorem own_len (A : Option Addr) (n m c : Nat) : (Value.slice A n c).ownBlock = (Value.slice A m c).ownBlock := by cases A <;> rfl
namespace Kd
variable {α : Type} {d : Kd α} {e base : Nat} {ok : Nat → Prop} {w : World} {v : Value} {xs : List α}
theorem R_elderLt (h : d.R e w base ok v xs) (a : Nat) (ha : w.heap.size ≤ a) : d.R e w base (fun k => ok k ∧ k < a) v xs := R_mono (R_bound h) (fun k hk => ⟨hk.1, by have := hk.2.2.1; omega⟩)
theorem S_elderLt (h : S d e w base ok v xs) (a : Nat) (ha : w.heap.size ≤ a) : S d e w base (fun k => ok k ∧ k < a) v xs := S_mono (S_bound h) (fun k hk => ⟨hk.1, by have := hk.2.2.1; omega⟩)
theorem cut_F {m n : Nat} {A : Option Addr} (h : F d w ok A n xs) (hok : ∀ k, ok k → k < m) : d.C (cutW w m) A n xs := h _ (fun k hk _ => cut_get (hok k hk))
end Kd
end Go.Proofs.YtanbffoilianhaaW.PrintWords
end
section
namespace Go.Proofs.YtanbffoilianhaaW.PrintWords
open Go.RowKit Go.Shelf
def laysSort_ren : Go.Shelf.Ren := ⟨fun | 189 => 69 | 125 => 77 | 257 => 84 | 128 => 97 | 129 => 98 | 294 => 102 | 295 => 103 | 296 => 104 | 297 => 105 | 298 => 106 | 299 => 107 | 216 => 108 | 300 => 109 | 301 => 110 | 328 => 118 | 329 => 114 | 330 => 115 | 331 => 119 | 332 => 120 | 215 => 78 | 343 => 132 | n => n, fun | 28 => 25 | 3 => 3 | 46 => 95 | 0 => 0 | 51 => 116 | 53 => 86 | 4 => 4 | 183 => 109 | 182 => 108 | 131 => 113 | 5 => 5 | 9 => 9 | 218 => 129 | 222 => 133 | 228 => 144 | 229 => 145 | n => n, fun | n => n⟩
theorem laysSort : Go.Proofs.Lays.n189 Try.prog laysSort_ren := {
 mixed := by kernel_rfl,
 f125 := Try.func77.trans (congrArg some (by kernel_rfl)),
 f128 := Try.func97.trans (congrArg some (by kernel_rfl)),
 f129 := Try.func98.trans (congrArg some (by kernel_rfl)),
 f189 := Try.func69.trans (congrArg some (by kernel_rfl)),
 f215 := Try.func78.trans (congrArg some (by kernel_rfl)),
 f216 := Try.func108.trans (congrArg some (by kernel_rfl)),
 f257 := Try.func84.trans (congrArg some (by kernel_rfl)),
 f294 := Try.func102.trans (congrArg some (by kernel_rfl)),
 f295 := Try.func103.trans (congrArg some (by kernel_rfl)),
 f296 := Try.func104.trans (congrArg some (by kernel_rfl)),
 f297 := Try.func105.trans (congrArg some (by kernel_rfl)),
 f298 := Try.func106.trans (congrArg some (by kernel_rfl)),
 f299 := Try.func107.trans (congrArg some (by kernel_rfl)),
 f300 := Try.func109.trans (congrArg some (by kernel_rfl)),
 f301 := Try.func110.trans (congrArg some (by kernel_rfl)),
 f328 := Try.func118.trans (congrArg some (by kernel_rfl)),
 f329 := Try.func114.trans (congrArg some (by kernel_rfl)),
 f330 := Try.func115.trans (congrArg some (by kernel_rfl)),
 f331 := Try.func119.trans (congrArg some (by kernel_rfl)),
 f332 := Try.func120.trans (congrArg some (by kernel_rfl)),
 f343 := Try.func132.trans (congrArg some (by kernel_rfl)),
 t0 := Try.underlying0,
 a0 := Try.isAgg0,
 z0 := Try.sizeOf0,
 v0 := Try.zeroValue0,
 t3 := Try.underlying3,
 a3 := Try.isAgg3,
 z3 := Try.sizeOf3,
 v3 := Try.zeroValue3,
 t4 := Try.underlying4,
 a4 := Try.isAgg4,
 z4 := Try.sizeOf4,
 v4 := Try.zeroValue4,
 t5 := Try.underlying5,
 a5 := Try.isAgg5,
 z5 := Try.sizeOf5,
 v5 := Try.zeroValue5,
 t9 := Try.underlying9,
 a9 := Try.isAgg9,
 z9 := Try.sizeOf9,
 v9 := Try.zeroValue9,
 t28 := Try.underlying25,
 a28 := Try.isAgg25,
 z28 := Try.sizeOf25,
 v28 := Try.zeroValue25,
 t46 := Try.underlying95,
 a46 := Try.isAgg95,
 z46 := Try.sizeOf95,
 v46 := Try.zeroValue95,
 t51 := Try.underlying116,
 a51 := Try.isAgg116,
 z51 := Try.sizeOf116,
 v51 := Try.zeroValue116,
 t53 := Try.underlying86,
 a53 := Try.isAgg86,
 z53 := Try.sizeOf86,
 v53 := Try.zeroValue86,
 t131 := Try.underlying113,
 a131 := Try.isAgg113,
 z131 := Try.sizeOf113,
 v131 := Try.zeroValue113,
 t182 := Try.underlying108,
 a182 := Try.isAgg108,
 z182 := Try.sizeOf108,
 v182 := Try.zeroValue108,
 t183 := Try.underlying109,
 a183 := Try.isAgg109,
 z183 := Try.sizeOf109,
 v183 := Try.zeroValue109,
 t218 := Try.underlying129,
 a218 := Try.isAgg129,
 z218 := Try.sizeOf129,
 v218 := Try.zeroValue129,
 t222 := Try.underlying133,
 a222 := Try.isAgg133,
 z222 := Try.sizeOf133,
 v222 := Try.zeroValue133,
 t228 := Try.underlying144,
 a228 := Try.isAgg144,
 z228 := Try.sizeOf144,
 v228 := Try.zeroValue144,
 t229 := Try.underlying145,
 a229 := Try.isAgg145,
 z229 := Try.sizeOf145,
 v229 := Try.zeroValue145 }
end Go.Proofs.YtanbffoilianhaaW.PrintWords
end
section
namespace Go.Proofs.YtanbffoilianhaaW.PrintWords
open Go.RowKit Go.Sort
theorem ownsRow_grow {w : World} {base n : Nat} {e : TypeId} {size : Nat} {v : Value} {xs : List Value} (h : w.ownsRow base e size v n xs) (os : Array Obj) : (grow w os).ownsRow base e size v n xs := by
 refine ⟨h.1, ?_⟩
 rcases h.2 with h2 | ⟨g, cap, cur, h1, h2, h3, h4⟩
 ·exact .inl h2
 ·have hg : g < w.heap.size := (Array.getElem?_eq_some_iff.1 h3).1
  exact .inr ⟨g, cap, cur, h1, h2, by rw [heap_grow_old _ _ hg]; exact h3, h4⟩
theorem below_grow {B : Nat} {w0 w : World} (h : Below B w0 w) (hB : B ≤ w.heap.size) (os : Array Obj) : Below B w0 (grow w os) :=
 ⟨h.os, h.tape, h.output, by have := h.size; simp [grow]; omega, fun k hk => by rw [heap_grow_old _ _ (by omega)]; exact h.block k hk⟩
section
variable {e : Nat} {w : World} {base g n cap : Nat} {ok ok' : Nat → Prop} {zs ys : List Int}
theorem int_row (h : (Kd.int .i64).R e w base ok (.slice (some ⟨g, 0, none⟩) n cap) zs) : ok g ∧ base ≤ g ∧ g < w.heap.size ∧ n = zs.length ∧ zs.length ≤ cap ∧ cap ≤ maxLen ∧ Holds (Value.int .i64) w g 0 zs.toArray := by
 have ho := Kd.own_of_R (enc := Value.int .i64) (h1 := fun _ => rfl) h
 obtain ⟨g', cap', e1, h1, h2, h3, h4, h5, h6⟩ := Lib.holds_of_ownsRow (enc := Value.int .i64) (zs := zs) ho (by simp)
 injection e1 with e1 e2 e3
 injection e1 with e1
 injection e1 with e1
 subst e1 e2 e3
 exact ⟨h.1 _ rfl, h1, h2, rfl, h3, h4, h6⟩
theorem int_row_put (h : (Kd.int .i64).R e w base ok (.slice (some ⟨g, 0, none⟩) n cap) zs) (q : Nat) (os : Array Obj) (hy : ys.length = zs.length) {k : Nat} (hk : k ≤ zs.length) (hok : ok' g) :
  (Kd.int .i64).R e (grow (putRow (Value.int .i64) (Sort.ahead w q) g 0 ys.toArray) os) base ok' (.slice (some ⟨g, 0, none⟩) k cap) (ys.take k) := by
 have ho := Kd.own_of_R (enc := Value.int .i64) (h1 := fun _ => rfl) h
 have hn : n = zs.length := (int_row h).2.2.2.1
 subst hn
 have h1 := ownsRow_grow (Lib.ownsRow_putRow (enc := Value.int .i64) (q := q) (k := k) ho hy hk) os
 have hl : (ys.take k).length = k := by rw [List.length_take]; omega
 refine Kd.R_of_own (enc := Value.int .i64) (h1 := fun _ => rfl) ?_ (fun j hj => by simp [Value.ownBlock] at hj; rw [← hj]; exact hok)
 rw [hl]
 exact h1
theorem put_kept (q : Nat) (os : Array Obj) (d : Array Int) (hok : ok g) : Kept w (grow (putRow (Value.int .i64) (Sort.ahead w q) g 0 d) os) ok := by
 refine ⟨by simp [grow, putRow, mapBlock, Sort.ahead], fun i hi hn => ?_⟩
 rw [heap_grow_old _ _ (by simpa [putRow, mapBlock, Sort.ahead] using hi)]
 have : g ≠ i := fun e => hn (e ▸ hok)
 simp [putRow, mapBlock, Sort.ahead, Array.getElem?_modify, this]
theorem put_below {w0 : World} (hB : Below w0.heap.size w0 w) (hg : w0.heap.size ≤ g) (q : Nat) (os : Array Obj) (d : Array Int) : Below w0.heap.size w0 (grow (putRow (Value.int .i64) (Sort.ahead w q) g 0 d) os) :=
 below_grow (Lib.below_putRow hB hg) (by simpa [putRow, mapBlock, Sort.ahead] using hB.size) os
end
end Go.Proofs.YtanbffoilianhaaW.PrintWords
end
namespace Go.Proofs.YtanbffoilianhaaW.PrintWords
open Go.RowKit
theorem zB {p : Prop} (h : p := by repeat (first | (with_reducible first | exact HB.out | apply below_alloc | apply pw_below_drewN | apply below_drew1 | refine below_set ?_ (Aside0.out (by first | (with_reducible assumption) | assumption))) | exact HB.out)) : p := h
theorem zk {q p : Prop} (x : Aside0 q) (h : q → p := by intro h_; (with_reducible repeat (first | refine blk_drewN ?_ _ | refine blk_drew ?_ | refine blk_alloc ?_ _)); exact h_) : p := h x.out
theorem zR {q p : Prop} (x : Aside0 q) (h : q → p := by intro h_; (with_reducible repeat (first | apply Kd.R_alloc | apply Kd.R_drewN | apply Kd.R_drew)); exact h_) : p := h x.out
theorem zN {q p : Prop} (x : Aside0 q) (h : q → p := by intro h_; (with_reducible repeat (first | apply Kd.N_alloc | apply Kd.N_drewN | apply Kd.N_drew)); exact h_) : p := h x.out
theorem zS {q p : Prop} (x : Aside0 q) (h : q → p := by intro h_; (with_reducible repeat (first | apply Kd.S_alloc | apply Kd.S_drewN | apply Kd.S_drew)); exact h_) : p := h x.out
theorem zh {p : Prop} (h : p := by first | (with_reducible assumption) | assumption) : p := h
theorem zM {p : Prop} (h : p := by (try simp only [List.map_toArray, List.map_cons, List.map_nil]); first | done | rfl | (simp only [List.length_drop, List.length_take]; rfl)) : p := h
theorem zT {p : Prop} (h : p := by first | rfl | (simp; done) | (simp [*]; done)) : p := h
theorem zK {p : Prop} (h : p := by kernel_rfl) : p := h
end Go.Proofs.YtanbffoilianhaaW.PrintWords
