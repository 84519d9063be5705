-- The words that the printed texts of this group use: of the print's own, and of this session's.
import Derived.RangeFuncNested
import Derived.RangeFuncBound
import Derived.RangeFuncCalls
import Derived.RangeFuncLeaves
import Derived.OrdersIn
import Derived.OwnWalkIn
import Derived.TacticsInMore
import Derived.LoopNIn
import Derived.LoopIn
import Derived.Shelf.Abstract
import Derived.Test.YthcfmdkhkikbcaaProg
import Derived.Shelf.Sort.Plain
import Derived.Shelf.Slices.In.SortNone
import Derived.Shelf.Slices.CompactI
import Derived.Shelf.SlicesE.DeleteFunc
import Derived.Shelf.Spec.SlicesGrow
import Derived.Sort.OwnSortedInts
import Derived.Lib.OwnBridge
import Derived.Sort.Grow
import Derived.Shelf.GgClosure.Gives
import Derived.Test.YthcfmdkhkikbcaaDwa
section
namespace Go.Proofs.YthcfmdkhkikbcaaW.PrintLast
open Go.RowKit Go.Proofs.YthcfmdkhkikbcaaW.PrintWords
theorem goesV_ {P : Program} {ops : Array Oper} {Q : Exit → Act → World → Prop} {oi : Oper} {N : Option Tmp} {a : Act} {w : World} {K : Act → World → Prop} {f : FuncId} {fn : Func} {t : Operand} {as_ : Array Operand} {ts : Array TypeId} (hf : P.funcs[f]? = some fn) (hname : (fn.name == "runtime.NumGoroutine") = false) (hb : fn.body.isSome = true) (args cap : Array Value)
  (hw : Region.wanted oi (yielded ops a.tmps) = true) (hN : oi.dst = N) (hop : oi.op = .call { callee := .value t, args := as_, argTypes := ts }) (ht : a.eval t = .func (.func f) #[] cap) (hargs : as_.map a.eval ++ cap = args)
  (h : Calls P f args w fun e w' => ∃ v, e = .returned v ∧ K (a.put N v) w') : if Region.wanted oi (yielded ops a.tmps) = true then Oper.wp P oi a w K Q else K (a.put N undef) w := by
 refine call_ f args hw hN ?_ h
 have he := enters_ hf hname hb args w
 unfold execOp
 simp [hop, resolve, Deferred.ofValue, invoke, ht, hargs, he]
end Go.Proofs.YthcfmdkhkikbcaaW.PrintLast
end
section
namespace Go.Proofs.YthcfmdkhkikbcaaW.PrintWords
open Go.RowKit Go.Shelf
def laysSort_ren : Go.Shelf.Ren := ⟨fun | 189 => 70 | 125 => 82 | 257 => 81 | 128 => 94 | 129 => 95 | 294 => 86 | 295 => 87 | 296 => 88 | 297 => 89 | 298 => 90 | 299 => 91 | 216 => 83 | 300 => 92 | 301 => 93 | 328 => 97 | 329 => 98 | 330 => 99 | 331 => 100 | 332 => 101 | 215 => 96 | 343 => 102 | n => n, fun | 28 => 27 | 3 => 3 | 46 => 80 | 0 => 0 | 51 => 22 | 53 => 23 | 4 => 4 | 183 => 85 | 182 => 84 | 131 => 72 | 5 => 5 | 9 => 9 | 218 => 92 | 222 => 96 | 228 => 98 | 229 => 99 | n => n, fun | n => n⟩
theorem laysSort : Go.Proofs.Lays.n189 Try.prog laysSort_ren := {
 mixed := by kernel_rfl,
 f125 := Try.func82.trans (congrArg some (by kernel_rfl)),
 f128 := Try.func94.trans (congrArg some (by kernel_rfl)),
 f129 := Try.func95.trans (congrArg some (by kernel_rfl)),
 f189 := Try.func70.trans (congrArg some (by kernel_rfl)),
 f215 := Try.func96.trans (congrArg some (by kernel_rfl)),
 f216 := Try.func83.trans (congrArg some (by kernel_rfl)),
 f257 := Try.func81.trans (congrArg some (by kernel_rfl)),
 f294 := Try.func86.trans (congrArg some (by kernel_rfl)),
 f295 := Try.func87.trans (congrArg some (by kernel_rfl)),
 f296 := Try.func88.trans (congrArg some (by kernel_rfl)),
 f297 := Try.func89.trans (congrArg some (by kernel_rfl)),
 f298 := Try.func90.trans (congrArg some (by kernel_rfl)),
 f299 := Try.func91.trans (congrArg some (by kernel_rfl)),
 f300 := Try.func92.trans (congrArg some (by kernel_rfl)),
 f301 := Try.func93.trans (congrArg some (by kernel_rfl)),
 f328 := Try.func97.trans (congrArg some (by kernel_rfl)),
 f329 := Try.func98.trans (congrArg some (by kernel_rfl)),
 f330 := Try.func99.trans (congrArg some (by kernel_rfl)),
 f331 := Try.func100.trans (congrArg some (by kernel_rfl)),
 f332 := Try.func101.trans (congrArg some (by kernel_rfl)),
 f343 := Try.func102.trans (congrArg some (by kernel_rfl)),
 t0 := Try.underlying0,
 a0 := Try.isAgg0,
 z0 := Try.sizeOf0,
 v0 := Try.zeroValue0,
 t3 := Try.underlying3,
 a3 := Try.isAgg3,
 z3 := Try.sizeOf3,
 v3 := Try.zeroValue3,
 t4 := Try.underlying4,
 a4 := Try.isAgg4,
 z4 := Try.sizeOf4,
 v4 := Try.zeroValue4,
 t5 := Try.underlying5,
 a5 := Try.isAgg5,
 z5 := Try.sizeOf5,
 v5 := Try.zeroValue5,
 t9 := Try.underlying9,
 a9 := Try.isAgg9,
 z9 := Try.sizeOf9,
 v9 := Try.zeroValue9,
 t28 := Try.underlying27,
 a28 := Try.isAgg27,
 z28 := Try.sizeOf27,
 v28 := Try.zeroValue27,
 t46 := Try.underlying80,
 a46 := Try.isAgg80,
 z46 := Try.sizeOf80,
 v46 := Try.zeroValue80,
 t51 := Try.underlying22,
 a51 := Try.isAgg22,
 z51 := Try.sizeOf22,
 v51 := Try.zeroValue22,
 t53 := Try.underlying23,
 a53 := Try.isAgg23,
 z53 := Try.sizeOf23,
 v53 := Try.zeroValue23,
 t131 := Try.underlying72,
 a131 := Try.isAgg72,
 z131 := Try.sizeOf72,
 v131 := Try.zeroValue72,
 t182 := Try.underlying84,
 a182 := Try.isAgg84,
 z182 := Try.sizeOf84,
 v182 := Try.zeroValue84,
 t183 := Try.underlying85,
 a183 := Try.isAgg85,
 z183 := Try.sizeOf85,
 v183 := Try.zeroValue85,
 t218 := Try.underlying92,
 a218 := Try.isAgg92,
 z218 := Try.sizeOf92,
 v218 := Try.zeroValue92,
 t222 := Try.underlying96,
 a222 := Try.isAgg96,
 z222 := Try.sizeOf96,
 v222 := Try.zeroValue96,
 t228 := Try.underlying98,
 a228 := Try.isAgg98,
 z228 := Try.sizeOf98,
 v228 := Try.zeroValue98,
 t229 := Try.underlying99,
 a229 := Try.isAgg99,
 z229 := Try.sizeOf99,
 v229 := Try.zeroValue99 }
def laysCompact_ren : Go.Shelf.Ren := ⟨fun | 20 => 71 | n => n, fun | 22 => 27 | 3 => 3 | 4 => 4 | 0 => 0 | n => n, fun | n => n⟩
theorem laysCompact : Go.Proofs.Lays2.n20 Try.prog laysCompact_ren := {
 mixed := by kernel_rfl,
 f20 := Try.func71.trans (congrArg some (by kernel_rfl)),
 t0 := Try.underlying0,
 a0 := Try.isAgg0,
 z0 := Try.sizeOf0,
 v0 := Try.zeroValue0,
 t3 := Try.underlying3,
 a3 := Try.isAgg3,
 z3 := Try.sizeOf3,
 v3 := Try.zeroValue3,
 t4 := Try.underlying4,
 a4 := Try.isAgg4,
 z4 := Try.sizeOf4,
 v4 := Try.zeroValue4,
 t22 := Try.underlying27,
 a22 := Try.isAgg27,
 z22 := Try.sizeOf27,
 v22 := Try.zeroValue27,
 i3 := by kernel_rfl }
def laysDelete_ren : Go.Shelf.Ren := ⟨fun | 10 => 77 | 6 => 80 | n => n, fun | 22 => 27 | 23 => 3 | 25 => 68 | 3 => 3 | 4 => 4 | 0 => 0 | n => n, fun | n => n⟩
theorem laysDelete : Go.Proofs.SlLaysH.n10 Try.prog laysDelete_ren := {
 mixed := by kernel_rfl,
 f6 := ⟨Try.f80.name, by decide, Try.func80.trans (congrArg some (by kernel_rfl))⟩,
 f10 := ⟨Try.f77.name, by decide, Try.func77.trans (congrArg some (by kernel_rfl))⟩,
 t0 := Try.underlying0,
 a0 := Try.isAgg0,
 z0 := Try.sizeOf0,
 v0 := Try.zeroValue0,
 t3 := Try.underlying3,
 a3 := Try.isAgg3,
 z3 := Try.sizeOf3,
 v3 := Try.zeroValue3,
 t4 := Try.underlying4,
 a4 := Try.isAgg4,
 z4 := Try.sizeOf4,
 v4 := Try.zeroValue4,
 t22 := Try.underlying27,
 a22 := Try.isAgg27,
 z22 := Try.sizeOf27,
 v22 := Try.zeroValue27,
 a23 := Try.isAgg3,
 z23 := Try.sizeOf3,
 t25 := Try.underlying68,
 a25 := Try.isAgg68,
 z25 := Try.sizeOf68,
 v25 := Try.zeroValue68 }
def laysGrow_ren : Go.Shelf.Ren := ⟨fun | 4 => 85 | n => n, fun | 22 => 27 | 25 => 3 | 3 => 3 | 4 => 4 | 9 => 9 | 20 => 20 | 0 => 0 | n => n, fun | n => n⟩
theorem laysGrow : Go.Proofs.Lays8.n4 Try.prog laysGrow_ren := {
 mixed := by kernel_rfl,
 f4 := ⟨Try.f85.name, by decide, Try.func85.trans (congrArg some (by kernel_rfl))⟩,
 t0 := Try.underlying0,
 a0 := Try.isAgg0,
 z0 := Try.sizeOf0,
 v0 := Try.zeroValue0,
 t3 := Try.underlying3,
 a3 := Try.isAgg3,
 z3 := Try.sizeOf3,
 v3 := Try.zeroValue3,
 t4 := Try.underlying4,
 a4 := Try.isAgg4,
 z4 := Try.sizeOf4,
 v4 := Try.zeroValue4,
 t9 := Try.underlying9,
 a9 := Try.isAgg9,
 z9 := Try.sizeOf9,
 v9 := Try.zeroValue9,
 t20 := Try.underlying20,
 a20 := Try.isAgg20,
 z20 := Try.sizeOf20,
 v20 := Try.zeroValue20,
 t22 := Try.underlying27,
 a22 := Try.isAgg27,
 z22 := Try.sizeOf27,
 v22 := Try.zeroValue27 }
set_option maxHeartbeats 1000000 in
theorem deleteFunc_nil {P : Program} {ρ : Ren} (L : SlLaysH.n10 P ρ) (c : Nat) (fv : Value) (w : World) :
  Calls P (ρ.f 10) #[.slice none 0 c, fv] w fun e w' => e = .returned (.slice none 0 c) ∧ w' = w := by
 have mixed := L.mixed; have t0 := L.t0; have a0 := L.a0; have z0 := L.z0; have v0 := L.v0; have t3 := L.t3; have a3 := L.a3; have z3 := L.z3; have v3 := L.v3; have t4 := L.t4; have a4 := L.a4; have z4 := L.z4; have v4 := L.v4; have t22 := L.t22; have a22 := L.a22; have z22 := L.z22; have v22 := L.v22; have a23 := L.a23; have z23 := L.z23; have t25 := L.t25; have a25 := L.a25; have z25 := L.z25; have v25 := L.v25
 have e6 : ∀ args w, (callFunc (ρ.f 6) args).run P w = .ok (.enter (ρ.f 6) args) w := L.f6.enters rfl
 have hIF := AnyE.slices_IndexFunc_empty (P := P) (ρ := ρ) { L with } none c fv w
 obtain ⟨_, _, FG⟩ := L.f10
 go_enter FG, SlBodyH.n10_ntmps ρ
 go_wp2_with (go_at_fn (ρ.f 6); refine hIF.mono ?_; rintro e w' ⟨rfl, rfl⟩)
 go_ret
 exact ⟨rfl, rfl⟩
end Go.Proofs.YthcfmdkhkikbcaaW.PrintWords
end
section
namespace Go.Proofs.YthcfmdkhkikbcaaW.PrintWords
open Go.RowKit Go.Sort
theorem ownsRow_grow {w : World} {base n : Nat} {e : TypeId} {size : Nat} {v : Value} {xs : List Value} (h : w.ownsRow base e size v n xs) (os : Array Obj) : (grow w os).ownsRow base e size v n xs := by
 refine ⟨h.1, ?_⟩
 rcases h.2 with h2 | ⟨g, cap, cur, h1, h2, h3, h4⟩
 ·exact .inl h2
 ·have hg : g < w.heap.size := (Array.getElem?_eq_some_iff.1 h3).1
  exact .inr ⟨g, cap, cur, h1, h2, by rw [heap_grow_old _ _ hg]; exact h3, h4⟩
theorem below_grow {B : Nat} {w0 w : World} (h : Below B w0 w) (hB : B ≤ w.heap.size) (os : Array Obj) : Below B w0 (grow w os) :=
 ⟨h.os, h.tape, h.output, by have := h.size; simp [grow]; omega, fun k hk => by rw [heap_grow_old _ _ (by omega)]; exact h.block k hk⟩
section
variable {e : Nat} {w : World} {base g n cap : Nat} {ok ok' : Nat → Prop} {zs ys : List Int}
theorem int_row (h : (Kd.int .i64).R e w base ok (.slice (some ⟨g, 0, none⟩) n cap) zs) : ok g ∧ base ≤ g ∧ g < w.heap.size ∧ n = zs.length ∧ zs.length ≤ cap ∧ cap ≤ maxLen ∧ Holds (Value.int .i64) w g 0 zs.toArray := by
 have ho := Kd.own_of_R (enc := Value.int .i64) (h1 := fun _ => rfl) h
 obtain ⟨g', cap', e1, h1, h2, h3, h4, h5, h6⟩ := Lib.holds_of_ownsRow (enc := Value.int .i64) (zs := zs) ho (by simp)
 injection e1 with e1 e2 e3
 injection e1 with e1
 injection e1 with e1
 subst e1 e2 e3
 exact ⟨h.1 _ rfl, h1, h2, rfl, h3, h4, h6⟩
theorem int_row_put (h : (Kd.int .i64).R e w base ok (.slice (some ⟨g, 0, none⟩) n cap) zs) (q : Nat) (os : Array Obj) (hy : ys.length = zs.length) {k : Nat} (hk : k ≤ zs.length) (hok : ok' g) :
  (Kd.int .i64).R e (grow (putRow (Value.int .i64) (Sort.ahead w q) g 0 ys.toArray) os) base ok' (.slice (some ⟨g, 0, none⟩) k cap) (ys.take k) := by
 have ho := Kd.own_of_R (enc := Value.int .i64) (h1 := fun _ => rfl) h
 have hn : n = zs.length := (int_row h).2.2.2.1
 subst hn
 have h1 := ownsRow_grow (Lib.ownsRow_putRow (enc := Value.int .i64) (q := q) (k := k) ho hy hk) os
 have hl : (ys.take k).length = k := by rw [List.length_take]; omega
 refine Kd.R_of_own (enc := Value.int .i64) (h1 := fun _ => rfl) ?_ (fun j hj => by simp [Value.ownBlock] at hj; rw [← hj]; exact hok)
 rw [hl]
 exact h1
theorem put_kept (q : Nat) (os : Array Obj) (d : Array Int) (hok : ok g) : Kept w (grow (putRow (Value.int .i64) (Sort.ahead w q) g 0 d) os) ok := by
 refine ⟨by simp [grow, putRow, mapBlock, Sort.ahead], fun i hi hn => ?_⟩
 rw [heap_grow_old _ _ (by simpa [putRow, mapBlock, Sort.ahead] using hi)]
 have : g ≠ i := fun e => hn (e ▸ hok)
 simp [putRow, mapBlock, Sort.ahead, Array.getElem?_modify, this]
theorem put_below {w0 : World} (hB : Below w0.heap.size w0 w) (hg : w0.heap.size ≤ g) (q : Nat) (os : Array Obj) (d : Array Int) : Below w0.heap.size w0 (grow (putRow (Value.int .i64) (Sort.ahead w q) g 0 d) os) :=
 below_grow (Lib.below_putRow hB hg) (by simpa [putRow, mapBlock, Sort.ahead] using hB.size) os
end
end Go.Proofs.YthcfmdkhkikbcaaW.PrintWords
end
namespace Go.Proofs.YthcfmdkhkikbcaaW.PrintWords
open Go.RowKit
theorem zB {p : Prop} (h : p := by repeat (first | (with_reducible first | exact HB.out | apply below_alloc | apply pw_below_drewN | apply below_drew1 | refine below_set ?_ (Aside0.out (by first | (with_reducible assumption) | assumption))) | exact HB.out)) : p := h
theorem zk {q p : Prop} (x : Aside0 q) (h : q → p := by intro h_; (with_reducible repeat (first | refine blk_drewN ?_ _ | refine blk_drew ?_ | refine blk_alloc ?_ _)); exact h_) : p := h x.out
theorem zR {q p : Prop} (x : Aside0 q) (h : q → p := by intro h_; (with_reducible repeat (first | apply Kd.R_alloc | apply Kd.R_drewN | apply Kd.R_drew)); exact h_) : p := h x.out
theorem zN {q p : Prop} (x : Aside0 q) (h : q → p := by intro h_; (with_reducible repeat (first | apply Kd.N_alloc | apply Kd.N_drewN | apply Kd.N_drew)); exact h_) : p := h x.out
theorem zS {q p : Prop} (x : Aside0 q) (h : q → p := by intro h_; (with_reducible repeat (first | apply Kd.S_alloc | apply Kd.S_drewN | apply Kd.S_drew)); exact h_) : p := h x.out
theorem zV {q p : Prop} (x : Aside0 q) (h : q → p := by intro h_; (with_reducible repeat (first | apply Kd.V_alloc | apply Kd.V_drewN | apply Kd.V_drew)); exact h_) : p := h x.out
theorem zh {p : Prop} (h : p := by first | (with_reducible assumption) | assumption) : p := h
theorem zM {p : Prop} (h : p := by (try simp only [List.map_toArray, List.map_cons, List.map_nil]); first | done | rfl | (simp only [List.length_drop, List.length_take]; rfl)) : p := h
theorem zT {p : Prop} (h : p := by first | rfl | (simp; done) | (simp [*]; done)) : p := h
theorem zK {p : Prop} (h : p := by kernel_rfl) : p := h
end Go.Proofs.YthcfmdkhkikbcaaW.PrintWords
