/-
  No cell of these rows narrows 'for every input' (looked for: loops, veiled, ifaces, maps, wideKeys, modest, calm, conditions, laid).
  DERIVED. THE GIVEN ROWS OF THIS SEAT. 10 by the template 'for every input the law returns true; each argument reads behind the call as it read before'; 0 by the template 'total and deterministic' (their statements: YtanbffoilianhaaTotals.lean).
  GIVEN WITH THE SEED: the statements are not yours to turn. If you find one false, say at which input.
  Laid BY PROGRAM, IN A SANDBOX (cutbox-rows.mjs): the forced cells as the released guide's own fill.sh prints them over the translation 7f979b79f59cc1b0… (all of the seat's roots in one cut). By AI agents, Wed Nov 11 2026. No macro, syntax, notation, axiom, sorry.
-/
import Derived.Test.YtanbffoilianhaaChecked
import GoSem.Claim
import GoSem.ClaimJoined
import GoSem.ClaimMapViews
import Derived.JoinedTies
import Derived.KernelRfl
namespace Go.Proofs.Ytanbffoilianhaa
/- THE CELL 'sum', in the pinned program and in every row, IS THE sha256 OF THE DUMP (.gsa) THAT YtanbffoilianhaaProg.lean LOADS. Nothing in Lean hashes anything: it is a label: what it is worth is what the hold of that sum in a sandbox is worth. -/
noncomputable def Try.pinned : Pinned := { name := "ytanbffoilianhaa", sum := "7f979b79f59cc1b0d6c8e0eb7bbc591c5fd5afabab279bd8791fd8fa9a4bd7cf", checked := Try.checked }
namespace Rows
def none {H : Type} : Left H := { results := [], args := [] }

/-- 'ancepslaw09.DagCheck': WHATEVER THE INPUT: true; the input reads as it did. -/
def dagCheckSpec : ChangeSpec := { name := "dagCheck", fn := fun _ => fun
  | [d1, d2] => { results := [.lit (.bool true)], args := [d1, d2] }
  | _ => none }
def dagCheckRow : OpenClaim := { program := "ytanbffoilianhaa", sum := "7f979b79f59cc1b0d6c8e0eb7bbc591c5fd5afabab279bd8791fd8fa9a4bd7cf", func := "anceps/ancepslaw09.DagCheck", spec := "dagCheck", unfollowed := true, recurses := true, apart := false }
def DagCheckSaid : Prop := dagCheckRow.holds Try.pinned (OpenSpec.ofChange dagCheckSpec)

/-- ITS FALSE NEIGHBOUR: 'it returns false'. Refute it at one input. -/
def dagCheckWrong : ChangeSpec := { name := "dagCheck", fn := fun _ => fun
  | [d1, d2] => { results := [.lit (.bool false)], args := [d1, d2] }
  | _ => none }
def DagCheckWrongFalsely : Prop := dagCheckRow.holds Try.pinned (OpenSpec.ofChange dagCheckWrong)

/-- 'ancepslaw09.DagCount': WHATEVER THE INPUT: true; the input reads as it did. -/
def dagCountSpec : ChangeSpec := { name := "dagCount", fn := fun _ => fun
  | [d] => { results := [.lit (.bool true)], args := [d] }
  | _ => none }
def dagCountRow : OpenClaim := { program := "ytanbffoilianhaa", sum := "7f979b79f59cc1b0d6c8e0eb7bbc591c5fd5afabab279bd8791fd8fa9a4bd7cf", func := "anceps/ancepslaw09.DagCount", spec := "dagCount", unfollowed := true, recurses := true, apart := false }
def DagCountSaid : Prop := dagCountRow.holds Try.pinned (OpenSpec.ofChange dagCountSpec)

/-- ITS FALSE NEIGHBOUR: 'it returns false'. Refute it at one input. -/
def dagCountWrong : ChangeSpec := { name := "dagCount", fn := fun _ => fun
  | [d] => { results := [.lit (.bool false)], args := [d] }
  | _ => none }
def DagCountWrongFalsely : Prop := dagCountRow.holds Try.pinned (OpenSpec.ofChange dagCountWrong)

/-- 'ancepslaw09.DagPaths': WHATEVER THE INPUT: true; the input reads as it did. -/
def dagPathsSpec : ChangeSpec := { name := "dagPaths", fn := fun _ => fun
  | [d] => { results := [.lit (.bool true)], args := [d] }
  | _ => none }
def dagPathsRow : OpenClaim := { program := "ytanbffoilianhaa", sum := "7f979b79f59cc1b0d6c8e0eb7bbc591c5fd5afabab279bd8791fd8fa9a4bd7cf", func := "anceps/ancepslaw09.DagPaths", spec := "dagPaths", unfollowed := true, recurses := true, apart := false }
def DagPathsSaid : Prop := dagPathsRow.holds Try.pinned (OpenSpec.ofChange dagPathsSpec)

/-- ITS FALSE NEIGHBOUR: 'it returns false'. Refute it at one input. -/
def dagPathsWrong : ChangeSpec := { name := "dagPaths", fn := fun _ => fun
  | [d] => { results := [.lit (.bool false)], args := [d] }
  | _ => none }
def DagPathsWrongFalsely : Prop := dagPathsRow.holds Try.pinned (OpenSpec.ofChange dagPathsWrong)

/-- 'ancepslaw09.DagValid': WHATEVER THE INPUT: true; the input reads as it did. -/
def dagValidSpec : ChangeSpec := { name := "dagValid", fn := fun _ => fun
  | [d] => { results := [.lit (.bool true)], args := [d] }
  | _ => none }
def dagValidRow : OpenClaim := { program := "ytanbffoilianhaa", sum := "7f979b79f59cc1b0d6c8e0eb7bbc591c5fd5afabab279bd8791fd8fa9a4bd7cf", func := "anceps/ancepslaw09.DagValid", spec := "dagValid", unfollowed := true, recurses := true, apart := false }
def DagValidSaid : Prop := dagValidRow.holds Try.pinned (OpenSpec.ofChange dagValidSpec)

/-- ITS FALSE NEIGHBOUR: 'it returns false'. Refute it at one input. -/
def dagValidWrong : ChangeSpec := { name := "dagValid", fn := fun _ => fun
  | [d] => { results := [.lit (.bool false)], args := [d] }
  | _ => none }
def DagValidWrongFalsely : Prop := dagValidRow.holds Try.pinned (OpenSpec.ofChange dagValidWrong)

/-- 'ancepslaw09.DagCut': WHATEVER THE INPUT: true; the input reads as it did. -/
def dagCutSpec : ChangeSpec := { name := "dagCut", fn := fun _ => fun
  | [d] => { results := [.lit (.bool true)], args := [d] }
  | _ => none }
def dagCutRow : OpenClaim := { program := "ytanbffoilianhaa", sum := "7f979b79f59cc1b0d6c8e0eb7bbc591c5fd5afabab279bd8791fd8fa9a4bd7cf", func := "anceps/ancepslaw09.DagCut", spec := "dagCut", unfollowed := true, recurses := true, apart := false }
def DagCutSaid : Prop := dagCutRow.holds Try.pinned (OpenSpec.ofChange dagCutSpec)

/-- ITS FALSE NEIGHBOUR: 'it returns false'. Refute it at one input. -/
def dagCutWrong : ChangeSpec := { name := "dagCut", fn := fun _ => fun
  | [d] => { results := [.lit (.bool false)], args := [d] }
  | _ => none }
def DagCutWrongFalsely : Prop := dagCutRow.holds Try.pinned (OpenSpec.ofChange dagCutWrong)

/-- 'ancepslaw09.DagCheckCut': WHATEVER THE INPUT: true; the input reads as it did. -/
def dagCheckCutSpec : ChangeSpec := { name := "dagCheckCut", fn := fun _ => fun
  | [d1, d2] => { results := [.lit (.bool true)], args := [d1, d2] }
  | _ => none }
def dagCheckCutRow : OpenClaim := { program := "ytanbffoilianhaa", sum := "7f979b79f59cc1b0d6c8e0eb7bbc591c5fd5afabab279bd8791fd8fa9a4bd7cf", func := "anceps/ancepslaw09.DagCheckCut", spec := "dagCheckCut", unfollowed := true, recurses := true, apart := false }
def DagCheckCutSaid : Prop := dagCheckCutRow.holds Try.pinned (OpenSpec.ofChange dagCheckCutSpec)

/-- ITS FALSE NEIGHBOUR: 'it returns false'. Refute it at one input. -/
def dagCheckCutWrong : ChangeSpec := { name := "dagCheckCut", fn := fun _ => fun
  | [d1, d2] => { results := [.lit (.bool false)], args := [d1, d2] }
  | _ => none }
def DagCheckCutWrongFalsely : Prop := dagCheckCutRow.holds Try.pinned (OpenSpec.ofChange dagCheckCutWrong)

/-- 'ancepslaw09.DagTrim': WHATEVER THE INPUT: true; the input reads as it did. -/
def dagTrimSpec : ChangeSpec := { name := "dagTrim", fn := fun _ => fun
  | [d] => { results := [.lit (.bool true)], args := [d] }
  | _ => none }
def dagTrimRow : OpenClaim := { program := "ytanbffoilianhaa", sum := "7f979b79f59cc1b0d6c8e0eb7bbc591c5fd5afabab279bd8791fd8fa9a4bd7cf", func := "anceps/ancepslaw09.DagTrim", spec := "dagTrim", unfollowed := true, recurses := true, apart := false }
def DagTrimSaid : Prop := dagTrimRow.holds Try.pinned (OpenSpec.ofChange dagTrimSpec)

/-- ITS FALSE NEIGHBOUR: 'it returns false'. Refute it at one input. -/
def dagTrimWrong : ChangeSpec := { name := "dagTrim", fn := fun _ => fun
  | [d] => { results := [.lit (.bool false)], args := [d] }
  | _ => none }
def DagTrimWrongFalsely : Prop := dagTrimRow.holds Try.pinned (OpenSpec.ofChange dagTrimWrong)

/-- 'ancepslaw09.DagKeeps': WHATEVER THE INPUT: true; the input reads as it did. -/
def dagKeepsSpec : ChangeSpec := { name := "dagKeeps", fn := fun _ => fun
  | [d1, d2] => { results := [.lit (.bool true)], args := [d1, d2] }
  | _ => none }
def dagKeepsRow : OpenClaim := { program := "ytanbffoilianhaa", sum := "7f979b79f59cc1b0d6c8e0eb7bbc591c5fd5afabab279bd8791fd8fa9a4bd7cf", func := "anceps/ancepslaw09.DagKeeps", spec := "dagKeeps", unfollowed := true, recurses := true, apart := false }
def DagKeepsSaid : Prop := dagKeepsRow.holds Try.pinned (OpenSpec.ofChange dagKeepsSpec)

/-- ITS FALSE NEIGHBOUR: 'it returns false'. Refute it at one input. -/
def dagKeepsWrong : ChangeSpec := { name := "dagKeeps", fn := fun _ => fun
  | [d1, d2] => { results := [.lit (.bool false)], args := [d1, d2] }
  | _ => none }
def DagKeepsWrongFalsely : Prop := dagKeepsRow.holds Try.pinned (OpenSpec.ofChange dagKeepsWrong)

/-- 'ancepstop.TopReversed': WHATEVER THE INPUT: true; the input reads as it did. -/
def topReversedSpec : ChangeSpec := { name := "topReversed", fn := fun _ => fun
  | [d1, d2, d3] => { results := [.lit (.bool true)], args := [d1, d2, d3] }
  | _ => none }
def topReversedRow : OpenClaim := { program := "ytanbffoilianhaa", sum := "7f979b79f59cc1b0d6c8e0eb7bbc591c5fd5afabab279bd8791fd8fa9a4bd7cf", func := "anceps/ancepstop.TopReversed", spec := "topReversed", unfollowed := true, recurses := true, apart := false }
def TopReversedSaid : Prop := topReversedRow.holds Try.pinned (OpenSpec.ofChange topReversedSpec)

/-- ITS FALSE NEIGHBOUR: 'it returns false'. Refute it at one input. -/
def topReversedWrong : ChangeSpec := { name := "topReversed", fn := fun _ => fun
  | [d1, d2, d3] => { results := [.lit (.bool false)], args := [d1, d2, d3] }
  | _ => none }
def TopReversedWrongFalsely : Prop := topReversedRow.holds Try.pinned (OpenSpec.ofChange topReversedWrong)

/-- 'ancepstop.TopListed': WHATEVER THE INPUT: true; the input reads as it did. -/
def topListedSpec : ChangeSpec := { name := "topListed", fn := fun _ => fun
  | [d1, d2, d3] => { results := [.lit (.bool true)], args := [d1, d2, d3] }
  | _ => none }
def topListedRow : OpenClaim := { program := "ytanbffoilianhaa", sum := "7f979b79f59cc1b0d6c8e0eb7bbc591c5fd5afabab279bd8791fd8fa9a4bd7cf", func := "anceps/ancepstop.TopListed", spec := "topListed", unfollowed := true, recurses := true, apart := false }
def TopListedSaid : Prop := topListedRow.holds Try.pinned (OpenSpec.ofChange topListedSpec)

/-- ITS FALSE NEIGHBOUR: 'it returns false'. Refute it at one input. -/
def topListedWrong : ChangeSpec := { name := "topListed", fn := fun _ => fun
  | [d1, d2, d3] => { results := [.lit (.bool false)], args := [d1, d2, d3] }
  | _ => none }
def TopListedWrongFalsely : Prop := topListedRow.holds Try.pinned (OpenSpec.ofChange topListedWrong)

/- THE SECOND FORM. 'bulk': how many values and letters a reading holds, each counted each time it is reached (what is shared counts as often as it is met; a slice's spare places count too). A statement '..UptoSaid' is the law's where the arguments, and the package variables that the reading takes, are together of bulk at most 1048576: NARROWER than '..Said'. Prove '..Said' where nothing that the law and all that it calls make is longer than what came in: it says more and counts as full. Else prove '..UptoSaid'. A law counts once. -/
mutual
def uptoBulk {H : Type} : DataW H → Nat
  | .lit (.string bytes) => bytes.length + 1
  | .lit _ => 1
  | .nil => 1
  | .ptr d => uptoBulk d + 1
  | .slice elems spare => uptoBulkAll elems + uptoBulkAll spare + 1
  | .agg parts => uptoBulkAll parts + 1
  | .iface _ d => uptoBulk d + 1
  | .map entries => uptoBulkEntries entries + 1
  | .held _ => 1
def uptoBulkAll {H : Type} : List (DataW H) → Nat
  | [] => 0
  | d :: r => uptoBulk d + uptoBulkAll r
def uptoBulkEntries {H : Type} : List (Lit × DataW H) → Nat
  | [] => 0
  | x :: r => uptoBulkEntry x + uptoBulkEntries r
def uptoBulkEntry {H : Type} : Lit × DataW H → Nat
  | (.string bytes, d) => bytes.length + uptoBulk d + 1
  | (_, d) => uptoBulk d + 1
 end
def uptoSmall : (H : Type) → List (DataW H) → Bool := fun _ ds => decide (uptoBulkAll ds ≤ 1048576)
def OpenSpec.upto (s : _root_.Go.ChangeSpec) : _root_.Go.OpenSpec := { _root_.Go.OpenSpec.ofChange s with cond := some uptoSmall }

/-- 'ancepslaw09.DagCheck', WHERE WHAT IT READS IS OF BULK AT MOST 1048576: true; the input reads as it did. -/
def dagCheckUptoRow : OpenClaim := { program := "ytanbffoilianhaa", sum := "7f979b79f59cc1b0d6c8e0eb7bbc591c5fd5afabab279bd8791fd8fa9a4bd7cf", func := "anceps/ancepslaw09.DagCheck", spec := "dagCheck", unfollowed := true, recurses := true, apart := false, narrowed := true }
def DagCheckUptoSaid : Prop := dagCheckUptoRow.holds Try.pinned (OpenSpec.upto dagCheckSpec)

/-- 'ancepslaw09.DagCount', WHERE WHAT IT READS IS OF BULK AT MOST 1048576: true; the input reads as it did. -/
def dagCountUptoRow : OpenClaim := { program := "ytanbffoilianhaa", sum := "7f979b79f59cc1b0d6c8e0eb7bbc591c5fd5afabab279bd8791fd8fa9a4bd7cf", func := "anceps/ancepslaw09.DagCount", spec := "dagCount", unfollowed := true, recurses := true, apart := false, narrowed := true }
def DagCountUptoSaid : Prop := dagCountUptoRow.holds Try.pinned (OpenSpec.upto dagCountSpec)

/-- 'ancepslaw09.DagPaths', WHERE WHAT IT READS IS OF BULK AT MOST 1048576: true; the input reads as it did. -/
def dagPathsUptoRow : OpenClaim := { program := "ytanbffoilianhaa", sum := "7f979b79f59cc1b0d6c8e0eb7bbc591c5fd5afabab279bd8791fd8fa9a4bd7cf", func := "anceps/ancepslaw09.DagPaths", spec := "dagPaths", unfollowed := true, recurses := true, apart := false, narrowed := true }
def DagPathsUptoSaid : Prop := dagPathsUptoRow.holds Try.pinned (OpenSpec.upto dagPathsSpec)

/-- 'ancepslaw09.DagValid', WHERE WHAT IT READS IS OF BULK AT MOST 1048576: true; the input reads as it did. -/
def dagValidUptoRow : OpenClaim := { program := "ytanbffoilianhaa", sum := "7f979b79f59cc1b0d6c8e0eb7bbc591c5fd5afabab279bd8791fd8fa9a4bd7cf", func := "anceps/ancepslaw09.DagValid", spec := "dagValid", unfollowed := true, recurses := true, apart := false, narrowed := true }
def DagValidUptoSaid : Prop := dagValidUptoRow.holds Try.pinned (OpenSpec.upto dagValidSpec)

/-- 'ancepslaw09.DagCut', WHERE WHAT IT READS IS OF BULK AT MOST 1048576: true; the input reads as it did. -/
def dagCutUptoRow : OpenClaim := { program := "ytanbffoilianhaa", sum := "7f979b79f59cc1b0d6c8e0eb7bbc591c5fd5afabab279bd8791fd8fa9a4bd7cf", func := "anceps/ancepslaw09.DagCut", spec := "dagCut", unfollowed := true, recurses := true, apart := false, narrowed := true }
def DagCutUptoSaid : Prop := dagCutUptoRow.holds Try.pinned (OpenSpec.upto dagCutSpec)

/-- 'ancepslaw09.DagCheckCut', WHERE WHAT IT READS IS OF BULK AT MOST 1048576: true; the input reads as it did. -/
def dagCheckCutUptoRow : OpenClaim := { program := "ytanbffoilianhaa", sum := "7f979b79f59cc1b0d6c8e0eb7bbc591c5fd5afabab279bd8791fd8fa9a4bd7cf", func := "anceps/ancepslaw09.DagCheckCut", spec := "dagCheckCut", unfollowed := true, recurses := true, apart := false, narrowed := true }
def DagCheckCutUptoSaid : Prop := dagCheckCutUptoRow.holds Try.pinned (OpenSpec.upto dagCheckCutSpec)

/-- 'ancepslaw09.DagTrim', WHERE WHAT IT READS IS OF BULK AT MOST 1048576: true; the input reads as it did. -/
def dagTrimUptoRow : OpenClaim := { program := "ytanbffoilianhaa", sum := "7f979b79f59cc1b0d6c8e0eb7bbc591c5fd5afabab279bd8791fd8fa9a4bd7cf", func := "anceps/ancepslaw09.DagTrim", spec := "dagTrim", unfollowed := true, recurses := true, apart := false, narrowed := true }
def DagTrimUptoSaid : Prop := dagTrimUptoRow.holds Try.pinned (OpenSpec.upto dagTrimSpec)

/-- 'ancepslaw09.DagKeeps', WHERE WHAT IT READS IS OF BULK AT MOST 1048576: true; the input reads as it did. -/
def dagKeepsUptoRow : OpenClaim := { program := "ytanbffoilianhaa", sum := "7f979b79f59cc1b0d6c8e0eb7bbc591c5fd5afabab279bd8791fd8fa9a4bd7cf", func := "anceps/ancepslaw09.DagKeeps", spec := "dagKeeps", unfollowed := true, recurses := true, apart := false, narrowed := true }
def DagKeepsUptoSaid : Prop := dagKeepsUptoRow.holds Try.pinned (OpenSpec.upto dagKeepsSpec)

/-- 'ancepstop.TopReversed', WHERE WHAT IT READS IS OF BULK AT MOST 1048576: true; the input reads as it did. -/
def topReversedUptoRow : OpenClaim := { program := "ytanbffoilianhaa", sum := "7f979b79f59cc1b0d6c8e0eb7bbc591c5fd5afabab279bd8791fd8fa9a4bd7cf", func := "anceps/ancepstop.TopReversed", spec := "topReversed", unfollowed := true, recurses := true, apart := false, narrowed := true }
def TopReversedUptoSaid : Prop := topReversedUptoRow.holds Try.pinned (OpenSpec.upto topReversedSpec)

/-- 'ancepstop.TopListed', WHERE WHAT IT READS IS OF BULK AT MOST 1048576: true; the input reads as it did. -/
def topListedUptoRow : OpenClaim := { program := "ytanbffoilianhaa", sum := "7f979b79f59cc1b0d6c8e0eb7bbc591c5fd5afabab279bd8791fd8fa9a4bd7cf", func := "anceps/ancepstop.TopListed", spec := "topListed", unfollowed := true, recurses := true, apart := false, narrowed := true }
def TopListedUptoSaid : Prop := topListedUptoRow.holds Try.pinned (OpenSpec.upto topListedSpec)

end Rows
end Go.Proofs.Ytanbffoilianhaa
