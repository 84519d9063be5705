import Derived.Test.YtanbffoilianhaaWLast
import Derived.RangeFuncNested
import Derived.RangeFuncBound
import Derived.RangeFuncCalls
import Derived.RangeFuncLeaves
import Derived.OrdersIn
import Derived.OwnWalkIn
import Derived.TacticsInMore
import Derived.LoopNIn
import Derived.LoopIn
import Derived.Shelf.Abstract
namespace Go.Proofs.Ytanbffoilianhaa.Bridge
open Go.RowKit Go.Proofs.YtanbffoilianhaaW.PrintLast
/-! In a round of a range over a function, under the wide fence: what is shown of an operation, or of a region, in the plain way holds there, too (no operation is a defer). -/
variable {P : Program} {ops : Array Oper} {Q : Exit → Act → World → Prop}

theorem oper_in {o : Oper} {a : Act} {w : World} {K : Act → World → Prop} {l n : Nat} (hd : ∀ c, o.op ≠ .defer c) (h : o.wp P a w K Q) :
    o.wpIn (Fence.wide.inRound l) n P a w K Q := by
  refine ⟨fun _ _ => trivial, ?_⟩
  rw [Oper.semAt_eq _ _ _ hd]
  unfold Oper.wp at h
  generalize (execOp a.eval o).run P w = r at *
  cases r with
  | ok x w' =>
    cases x <;> simp only [Oper.upon, Oper.uponIn] at h ⊢
    case value => exact h
    case skip => exact h
    case defer => exact h
    case enter => exact ⟨fun h => by simp [Fence.wide] at h, (callsIn_wide.2 h).inRound l⟩
    case row => exact ⟨fun h => by simp [Fence.wide] at h, fun c cs _ => let ⟨v, w2, r, s⟩ := h c cs; ⟨v, w2, r, stepsIn_wide.2 s⟩⟩
    all_goals exact h.elim
  | halt x w' => cases x <;> simp only [Oper.upon, Oper.uponIn] at h ⊢ <;> exact h

def noDefer (ops : Array Oper) : Bool := ops.all fun o => match o.op with | .defer _ => false | _ => true
theorem noDefer_at {i : Nat} {o : Oper} (h : noDefer ops = true) (ho : ops[i]? = some o) : ∀ c, o.op ≠ .defer c := by
  intro c hc
  have h1 := Array.all_eq_true_iff_forall_mem.1 h o (Array.mem_of_getElem? ho)
  simp [hc] at h1

theorem any_in {md : Region.Mode} {l n : Nat} (hd : noDefer ops = true) (hL : ¬ LetsOut Q) : ∀ (fuel : Nat) (listed : Array Bool) (a : Act) (w : World),
    wpAny P md ops Q fuel listed a w → wpAnyIn (Fence.wide.inRound l) n P md ops Q fuel listed a w
  | 0, _, _, _, h => h
  | fuel + 1, listed, a, w, h => by
    refine ⟨h.1, fun i hi => ?_⟩
    have h2 := h.2 i hi
    unfold wpOp at h2
    unfold wpOpIn
    split
    · rename_i ho; rw [ho] at h2; exact any_in hd hL fuel _ _ _ h2
    · rename_i o ho
      rw [ho] at h2
      simp only at h2
      split
      · rename_i hw
        rw [if_pos hw] at h2
        rcases h2 with h2 | h2
        · exact oper_in (noDefer_at hd ho) (Oper.wp_mono (fun a w => any_in hd hL fuel _ a w) h2)
        · exact (hL h2.2).elim
      · rename_i hw
        rw [if_neg hw] at h2
        exact ⟨fun _ _ => trivial, any_in hd hL fuel _ _ _ h2⟩

theorem list_in {l n : Nat} (hL : ¬ LetsOut Q) : ∀ (os : List Oper) (a : Act) (w : World), (∀ o ∈ os, ∀ c, o.op ≠ .defer c) → wpList P ops Q os a w → wpListIn (Fence.wide.inRound l) n P ops Q os a w
  | [], _, _, _, h => h
  | o :: rest, a, w, hd, h => by
    unfold wpList at h
    unfold wpListIn
    split
    · rename_i hw
      rw [if_pos hw] at h
      rcases h with h | h
      · exact oper_in (hd o (by simp)) (Oper.wp_mono (fun a w => list_in hL rest a w (fun o ho => hd o (by simp [ho]))) h)
      · exact (hL h.2).elim
    · rename_i hw
      rw [if_neg hw] at h
      exact ⟨fun _ _ => trivial, list_in hL rest _ _ (fun o ho => hd o (by simp [ho])) h⟩

/-- A region that does not draw. -/
theorem region_in {id l n : Nat} {os : List Oper} {a : Act} {w : World} (hd : noDefer os.toArray = true) (hL : ¬ LetsOut Q) (h : wpList P os.toArray Q os a w) :
    (Code.region id os.toArray false).wpIn (Fence.wide.inRound l) n P Q a w :=
  wpIn_region_lit (list_in hL os a w (fun o ho => by obtain ⟨i, hi⟩ := List.getElem?_of_mem ho; exact noDefer_at (ops := os.toArray) hd (by simpa using hi)) h)

variable {S : World → Prop} {ds : List Nat}
/-- A region that draws: 'start_' of the printed words, in a round. -/
theorem start_in {id n m l : Nat} {a : Act} {w : World} (lb : Array Bool) (hm : P.follows .mixedOrders = true) (hd : noDefer ops = true) (hL : ¬ LetsOut Q) (hn : ops.size = n) (hl : Array.replicate n false = lb) (hS : S w.drew)
    (h : S w.drew → wpAnyLast P .any ops Q S ds n lb a w.drew) : (Code.region id ops true).wpIn (Fence.wide.inRound l) m P Q a w := by
  subst hn
  subst hl
  exact wpIn_region_any hm (any_in hd hL _ _ _ _ (wpAny_of_last _ _ _ _ (h hS)))
end Go.Proofs.Ytanbffoilianhaa.Bridge
