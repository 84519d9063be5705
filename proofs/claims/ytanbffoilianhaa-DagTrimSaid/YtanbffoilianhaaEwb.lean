-- The words that the printed texts of this group use: of the print's own, and of this session's.
import Derived.RangeFuncNested
import Derived.RangeFuncBound
import Derived.RangeFuncCalls
import Derived.RangeFuncLeaves
import Derived.OrdersIn
import Derived.OwnWalkIn
import Derived.TacticsInMore
import Derived.LoopNIn
import Derived.LoopIn
import Derived.Shelf.Abstract
import Derived.Test.YtanbffoilianhaaEwa
section
namespace Go.Proofs.Ytanbffoilianhaa.Bridge
open Go.RowKit Go.Proofs.YtanbffoilianhaaW.PrintLast
variable {P : Program} {ops : Array Oper} {Q : Exit → Act → World → Prop}
theorem oper_in {o : Oper} {a : Act} {w : World} {K : Act → World → Prop} {l n : Nat} (hd : ∀ c, o.op ≠ .defer c) (h : o.wp P a w K Q) :
  o.wpIn (Fence.wide.inRound l) n P a w K Q := by
 refine ⟨fun _ _ => trivial, ?_⟩
 rw [Oper.semAt_eq _ _ _ hd]
 unfold Oper.wp at h
 generalize (execOp a.eval o).run P w = r at *
 cases r with
 | ok x w' =>
  cases x <;> simp only [Oper.upon, Oper.uponIn] at h ⊢
  case value => exact h
  case skip => exact h
  case defer => exact h
  case enter => exact ⟨fun h => by simp [Fence.wide] at h, (callsIn_wide.2 h).inRound l⟩
  case row => exact ⟨fun h => by simp [Fence.wide] at h, fun c cs _ => let ⟨v, w2, r, s⟩ := h c cs; ⟨v, w2, r, stepsIn_wide.2 s⟩⟩
  all_goals exact h.elim
 | halt x w' => cases x <;> simp only [Oper.upon, Oper.uponIn] at h ⊢ <;> exact h
def noDefer (ops : Array Oper) : Bool := ops.all fun o => match o.op with | .defer _ => false | _ => true
theorem noDefer_at {i : Nat} {o : Oper} (h : noDefer ops = true) (ho : ops[i]? = some o) : ∀ c, o.op ≠ .defer c := by
 intro c hc
 have h1 := Array.all_eq_true_iff_forall_mem.1 h o (Array.mem_of_getElem? ho)
 simp [hc] at h1
theorem any_in {md : Region.Mode} {l n : Nat} (hd : noDefer ops = true) (hL : ¬ LetsOut Q) : ∀ (fuel : Nat) (listed : Array Bool) (a : Act) (w : World),
  wpAny P md ops Q fuel listed a w → wpAnyIn (Fence.wide.inRound l) n P md ops Q fuel listed a w
 | 0, _, _, _, h => h
 | fuel + 1, listed, a, w, h => by
  refine ⟨h.1, fun i hi => ?_⟩
  have h2 := h.2 i hi
  unfold wpOp at h2
  unfold wpOpIn
  split
  ·rename_i ho; rw [ho] at h2; exact any_in hd hL fuel _ _ _ h2
  ·rename_i o ho
   rw [ho] at h2
   simp only at h2
   split
   ·rename_i hw
    rw [if_pos hw] at h2
    rcases h2 with h2 | h2
    ·exact oper_in (noDefer_at hd ho) (Oper.wp_mono (fun a w => any_in hd hL fuel _ a w) h2)
    ·exact (hL h2.2).elim
   ·rename_i hw
    rw [if_neg hw] at h2
    exact ⟨fun _ _ => trivial, any_in hd hL fuel _ _ _ h2⟩
variable {S : World → Prop} {ds : List Nat}
theorem start_in {id n m l : Nat} {a : Act} {w : World} (lb : Array Bool) (hm : P.follows .mixedOrders = true) (hd : noDefer ops = true) (hL : ¬ LetsOut Q) (hn : ops.size = n) (hl : Array.replicate n false = lb) (hS : S w.drew)
  (h : S w.drew → wpAnyLast P .any ops Q S ds n lb a w.drew) : (Code.region id ops true).wpIn (Fence.wide.inRound l) m P Q a w := by
 subst hn
 subst hl
 exact wpIn_region_any hm (any_in hd hL _ _ _ _ (wpAny_of_last _ _ _ _ (h hS)))
end Go.Proofs.Ytanbffoilianhaa.Bridge
end
section
namespace Go.Proofs.YtanbffoilianhaaW.PrintWords
open Go.RowKit
def cutW (w : World) (m : Nat) : World := { w with heap := w.heap.extract 0 m }
theorem cut_size {w : World} {m : Nat} (h : m ≤ w.heap.size) : (cutW w m).heap.size = m := by
 simp only [cutW, Array.size_extract]; omega
theorem cut_get {w : World} {m k : Nat} (h : k < m) : (cutW w m).heap[k]? = w.heap[k]? := by
 simp only [cutW, Array.getElem?_extract]
 by_cases hk : k < w.heap.size
 ·rw [if_pos (by omega), Nat.zero_add]
 ·rw [if_neg (by omega), Array.getElem?_eq_none (by omega)]
theorem cut_refl {w : World} {m : Nat} (h : m ≤ w.heap.size) : Below (cutW w m).heap.size (cutW w m) w :=
 ⟨rfl, rfl, rfl, by rw [cut_size h]; exact h, fun k hk => (cut_get (by rw [cut_size h] at hk; exact hk)).symm⟩
theorem cut_enter {P : Program} {n : Nat} {args : Array Value} {W : World} {Q : Ending → World → Prop} (m : Nat) (hm : m ≤ W.heap.size) (h : m ≤ W.heap.size → Calls P n args W Q) : Calls P n args W Q := h hm
theorem cut_came {w W : World} {m : Nat} (h : Below w.heap.size w W) (hw : w.heap.size ≤ m) (hm : m ≤ W.heap.size) : Below w.heap.size w (cutW W m) :=
 ⟨h.os, h.tape, h.output, by rw [cut_size hm]; exact hw, fun k hk => (cut_get (by omega)).trans (h.block k hk)⟩
theorem cut_below {w W w' : World} {m : Nat} (h : Below w.heap.size w W) (hw : w.heap.size ≤ m) (hm : m ≤ W.heap.size) (hb : Below (cutW W m).heap.size (cutW W m) w') : Below w.heap.size w w' :=
 (cut_came h hw hm).trans (hb.mono (by rw [cut_size hm]; exact hw))
theorem cut_le {W : World} {m n : Nat} (hm : m ≤ W.heap.size) (h : n ≤ m) : n ≤ (cutW W m).heap.size := by rw [cut_size hm]; exact h
theorem cut_ge {W : World} {m n : Nat} (hm : m ≤ W.heap.size) (h : m ≤ n) : (cutW W m).heap.size ≤ n := by rw [cut_size hm]; exact h
theorem cut_keep {W w' : World} {m k : Nat} (hm : m ≤ W.heap.size) (hb : Below (cutW W m).heap.size (cutW W m) w') (hk : k < m) : w'.heap[k]? = W.heap[k]? :=
 (hb.block k (by rw [cut_size hm]; exact hk)).trans (cut_get hk)
theorem own_len (A : Option Addr) (n m c : Nat) : (Value.slice A n c).ownBlock = (Value.slice A m c).ownBlock := by cases A <;> rfl
namespace Kd
variable {α : Type} {d : Kd α} {e base : Nat} {ok : Nat → Prop} {w : World} {v : Value} {xs : List α}
theorem R_elderLt (h : d.R e w base ok v xs) (a : Nat) (ha : w.heap.size ≤ a) : d.R e w base (fun k => ok k ∧ k < a) v xs := R_mono (R_bound h) (fun k hk => ⟨hk.1, by have := hk.2.2.1; omega⟩)
theorem S_elderLt (h : S d e w base ok v xs) (a : Nat) (ha : w.heap.size ≤ a) : S d e w base (fun k => ok k ∧ k < a) v xs := S_mono (S_bound h) (fun k hk => ⟨hk.1, by have := hk.2.2.1; omega⟩)
theorem cut_F {m n : Nat} {A : Option Addr} (h : F d w ok A n xs) (hok : ∀ k, ok k → k < m) : d.C (cutW w m) A n xs := h _ (fun k hk _ => cut_get (hok k hk))
end Kd
end Go.Proofs.YtanbffoilianhaaW.PrintWords
end
namespace Go.Proofs.YtanbffoilianhaaW.PrintWords
open Go.RowKit
theorem zB {p : Prop} (h : p := by repeat (first | (with_reducible first | exact HB.out | apply below_alloc | apply pw_below_drewN | apply below_drew1 | refine below_set ?_ (Aside0.out (by first | (with_reducible assumption) | assumption))) | exact HB.out)) : p := h
theorem zk {q p : Prop} (x : Aside0 q) (h : q → p := by intro h_; (with_reducible repeat (first | refine blk_drewN ?_ _ | refine blk_drew ?_ | refine blk_alloc ?_ _)); exact h_) : p := h x.out
theorem zR {q p : Prop} (x : Aside0 q) (h : q → p := by intro h_; (with_reducible repeat (first | apply Kd.R_alloc | apply Kd.R_drewN | apply Kd.R_drew)); exact h_) : p := h x.out
theorem zN {q p : Prop} (x : Aside0 q) (h : q → p := by intro h_; (with_reducible repeat (first | apply Kd.N_alloc | apply Kd.N_drewN | apply Kd.N_drew)); exact h_) : p := h x.out
theorem zS {q p : Prop} (x : Aside0 q) (h : q → p := by intro h_; (with_reducible repeat (first | apply Kd.S_alloc | apply Kd.S_drewN | apply Kd.S_drew)); exact h_) : p := h x.out
theorem zh {p : Prop} (h : p := by first | (with_reducible assumption) | assumption) : p := h
theorem zM {p : Prop} (h : p := by (try simp only [List.map_toArray, List.map_cons, List.map_nil]); first | done | rfl | (simp only [List.length_drop, List.length_take]; rfl)) : p := h
theorem zT {p : Prop} (h : p := by first | rfl | (simp; done) | (simp [*]; done)) : p := h
theorem zK {p : Prop} (h : p := by kernel_rfl) : p := h
end Go.Proofs.YtanbffoilianhaaW.PrintWords
