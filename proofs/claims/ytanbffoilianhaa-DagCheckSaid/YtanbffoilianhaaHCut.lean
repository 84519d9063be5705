import Derived.Test.YtanbffoilianhaaWShare
import Derived.Test.YtanbffoilianhaaWApart
import Derived.RangeFuncCalls
namespace Go.Proofs.YtanbffoilianhaaW.PrintWords
open Go.RowKit
/-! A world cut down to its first blocks: what a closure only reads lies below those that it changes. -/
def cutW (w : World) (m : Nat) : World := { w with heap := w.heap.extract 0 m }
theorem cut_size {w : World} {m : Nat} (h : m ≤ w.heap.size) : (cutW w m).heap.size = m := by
  simp only [cutW, Array.size_extract]; omega
theorem cut_get {w : World} {m k : Nat} (h : k < m) : (cutW w m).heap[k]? = w.heap[k]? := by
  simp only [cutW, Array.getElem?_extract]
  by_cases hk : k < w.heap.size
  · rw [if_pos (by omega), Nat.zero_add]
  · rw [if_neg (by omega), Array.getElem?_eq_none (by omega)]
theorem cut_refl {w : World} {m : Nat} (h : m ≤ w.heap.size) : Below (cutW w m).heap.size (cutW w m) w :=
  ⟨rfl, rfl, rfl, by rw [cut_size h]; exact h, fun k hk => (cut_get (by rw [cut_size h] at hk; exact hk)).symm⟩
theorem cut_enter {P : Program} {n : Nat} {args : Array Value} {W : World} {Q : Ending → World → Prop} (m : Nat) (hm : m ≤ W.heap.size) (h : m ≤ W.heap.size → Calls P n args W Q) : Calls P n args W Q := h hm
theorem cut_came {w W : World} {m : Nat} (h : Below w.heap.size w W) (hw : w.heap.size ≤ m) (hm : m ≤ W.heap.size) : Below w.heap.size w (cutW W m) :=
  ⟨h.os, h.tape, h.output, by rw [cut_size hm]; exact hw, fun k hk => (cut_get (by omega)).trans (h.block k hk)⟩
theorem cut_below {w W w' : World} {m : Nat} (h : Below w.heap.size w W) (hw : w.heap.size ≤ m) (hm : m ≤ W.heap.size) (hb : Below (cutW W m).heap.size (cutW W m) w') : Below w.heap.size w w' :=
  (cut_came h hw hm).trans (hb.mono (by rw [cut_size hm]; exact hw))
theorem cut_le {W : World} {m n : Nat} (hm : m ≤ W.heap.size) (h : n ≤ m) : n ≤ (cutW W m).heap.size := by rw [cut_size hm]; exact h
theorem cut_ge {W : World} {m n : Nat} (hm : m ≤ W.heap.size) (h : m ≤ n) : (cutW W m).heap.size ≤ n := by rw [cut_size hm]; exact h
theorem cut_keep {W w' : World} {m k : Nat} (hm : m ≤ W.heap.size) (hb : Below (cutW W m).heap.size (cutW W m) w') (hk : k < m) : w'.heap[k]? = W.heap[k]? :=
  (hb.block k (by rw [cut_size hm]; exact hk)).trans (cut_get hk)
theorem own_len (A : Option Addr) (n m c : Nat) : (Value.slice A n c).ownBlock = (Value.slice A m c).ownBlock := by cases A <;> rfl
namespace Kd
variable {α : Type} {d : Kd α} {e base : Nat} {ok : Nat → Prop} {w : World} {v : Value} {xs : List α}
theorem R_elderLt (h : d.R e w base ok v xs) (a : Nat) (ha : w.heap.size ≤ a) : d.R e w base (fun k => ok k ∧ k < a) v xs := R_mono (R_bound h) (fun k hk => ⟨hk.1, by have := hk.2.2.1; omega⟩)
theorem S_elderLt (h : S d e w base ok v xs) (a : Nat) (ha : w.heap.size ≤ a) : S d e w base (fun k => ok k ∧ k < a) v xs := S_mono (S_bound h) (fun k hk => ⟨hk.1, by have := hk.2.2.1; omega⟩)
theorem cut_F {m n : Nat} {A : Option Addr} (h : F d w ok A n xs) (hok : ∀ k, ok k → k < m) : d.C (cutW w m) A n xs := h _ (fun k hk _ => cut_get (hok k hk))
end Kd
end Go.Proofs.YtanbffoilianhaaW.PrintWords
