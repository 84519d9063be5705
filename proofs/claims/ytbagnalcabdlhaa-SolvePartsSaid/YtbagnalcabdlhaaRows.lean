/-
  No cell of these rows narrows 'for every input' (looked for: loops, veiled, ifaces, maps, wideKeys, modest, calm, conditions, laid).
  DERIVED. THE GIVEN ROWS OF THIS SEAT. 9 by the template 'for every input the law returns true; each argument reads behind the call as it read before'; 0 by the template 'total and deterministic' (their statements: YtbagnalcabdlhaaTotals.lean).
  GIVEN WITH THE SEED: the statements are not yours to turn. If you find one false, say at which input.
  Laid BY PROGRAM, IN A SANDBOX (cutbox-rows.mjs): the forced cells as the released guide's own fill.sh prints them over the translation 4cfe2bcb8eab2b07… (all of the seat's roots in one cut). By AI agents, Wed Nov 11 2026. No macro, syntax, notation, axiom, sorry.
-/
import Derived.Test.YtbagnalcabdlhaaChecked
import GoSem.Claim
import GoSem.ClaimJoined
import GoSem.ClaimMapViews
import Derived.JoinedTies
import Derived.KernelRfl
namespace Go.Proofs.Ytbagnalcabdlhaa
/- THE CELL 'sum', in the pinned program and in every row, IS THE sha256 OF THE DUMP (.gsa) THAT YtbagnalcabdlhaaProg.lean LOADS. Nothing in Lean hashes anything: it is a label: what it is worth is what the hold of that sum in a sandbox is worth. -/
noncomputable def Try.pinned : Pinned := { name := "ytbagnalcabdlhaa", sum := "4cfe2bcb8eab2b075b2d0ad9938367e6158a65b41f5c957fdd187f6fd07a4389", checked := Try.checked }
namespace Rows
def none {H : Type} : Left H := { results := [], args := [] }

/-- 'ancepslaw40.SolveRefute': WHATEVER THE INPUT: true; the input reads as it did. -/
def solveRefuteSpec : ChangeSpec := { name := "solveRefute", fn := fun _ => fun
  | [d] => { results := [.lit (.bool true)], args := [d] }
  | _ => none }
def solveRefuteRow : OpenClaim := { program := "ytbagnalcabdlhaa", sum := "4cfe2bcb8eab2b075b2d0ad9938367e6158a65b41f5c957fdd187f6fd07a4389", func := "anceps/ancepslaw40.SolveRefute", spec := "solveRefute", unfollowed := true, recurses := true, apart := false }
def SolveRefuteSaid : Prop := solveRefuteRow.holds Try.pinned (OpenSpec.ofChange solveRefuteSpec)

/-- ITS FALSE NEIGHBOUR: 'it returns false'. Refute it at one input. -/
def solveRefuteWrong : ChangeSpec := { name := "solveRefute", fn := fun _ => fun
  | [d] => { results := [.lit (.bool false)], args := [d] }
  | _ => none }
def SolveRefuteWrongFalsely : Prop := solveRefuteRow.holds Try.pinned (OpenSpec.ofChange solveRefuteWrong)

/-- 'ancepslaw40.SolveCheck': WHATEVER THE INPUT: true; the input reads as it did. -/
def solveCheckSpec : ChangeSpec := { name := "solveCheck", fn := fun _ => fun
  | [d1, d2] => { results := [.lit (.bool true)], args := [d1, d2] }
  | _ => none }
def solveCheckRow : OpenClaim := { program := "ytbagnalcabdlhaa", sum := "4cfe2bcb8eab2b075b2d0ad9938367e6158a65b41f5c957fdd187f6fd07a4389", func := "anceps/ancepslaw40.SolveCheck", spec := "solveCheck", unfollowed := true, recurses := true, apart := false }
def SolveCheckSaid : Prop := solveCheckRow.holds Try.pinned (OpenSpec.ofChange solveCheckSpec)

/-- ITS FALSE NEIGHBOUR: 'it returns false'. Refute it at one input. -/
def solveCheckWrong : ChangeSpec := { name := "solveCheck", fn := fun _ => fun
  | [d1, d2] => { results := [.lit (.bool false)], args := [d1, d2] }
  | _ => none }
def SolveCheckWrongFalsely : Prop := solveCheckRow.holds Try.pinned (OpenSpec.ofChange solveCheckWrong)

/-- 'ancepslaw40.SolveHolds': WHATEVER THE INPUT: true; the input reads as it did. -/
def solveHoldsSpec : ChangeSpec := { name := "solveHolds", fn := fun _ => fun
  | [d1, d2] => { results := [.lit (.bool true)], args := [d1, d2] }
  | _ => none }
def solveHoldsRow : OpenClaim := { program := "ytbagnalcabdlhaa", sum := "4cfe2bcb8eab2b075b2d0ad9938367e6158a65b41f5c957fdd187f6fd07a4389", func := "anceps/ancepslaw40.SolveHolds", spec := "solveHolds", unfollowed := true, recurses := true, apart := false }
def SolveHoldsSaid : Prop := solveHoldsRow.holds Try.pinned (OpenSpec.ofChange solveHoldsSpec)

/-- ITS FALSE NEIGHBOUR: 'it returns false'. Refute it at one input. -/
def solveHoldsWrong : ChangeSpec := { name := "solveHolds", fn := fun _ => fun
  | [d1, d2] => { results := [.lit (.bool false)], args := [d1, d2] }
  | _ => none }
def SolveHoldsWrongFalsely : Prop := solveHoldsRow.holds Try.pinned (OpenSpec.ofChange solveHoldsWrong)

/-- 'ancepslaw40.SolveEither': WHATEVER THE INPUT: true; the input reads as it did. -/
def solveEitherSpec : ChangeSpec := { name := "solveEither", fn := fun _ => fun
  | [d] => { results := [.lit (.bool true)], args := [d] }
  | _ => none }
def solveEitherRow : OpenClaim := { program := "ytbagnalcabdlhaa", sum := "4cfe2bcb8eab2b075b2d0ad9938367e6158a65b41f5c957fdd187f6fd07a4389", func := "anceps/ancepslaw40.SolveEither", spec := "solveEither", unfollowed := true, recurses := true, apart := false }
def SolveEitherSaid : Prop := solveEitherRow.holds Try.pinned (OpenSpec.ofChange solveEitherSpec)

/-- ITS FALSE NEIGHBOUR: 'it returns false'. Refute it at one input. -/
def solveEitherWrong : ChangeSpec := { name := "solveEither", fn := fun _ => fun
  | [d] => { results := [.lit (.bool false)], args := [d] }
  | _ => none }
def SolveEitherWrongFalsely : Prop := solveEitherRow.holds Try.pinned (OpenSpec.ofChange solveEitherWrong)

/-- 'ancepslaw40.SolveFirst': WHATEVER THE INPUT: true; the input reads as it did. -/
def solveFirstSpec : ChangeSpec := { name := "solveFirst", fn := fun _ => fun
  | [d] => { results := [.lit (.bool true)], args := [d] }
  | _ => none }
def solveFirstRow : OpenClaim := { program := "ytbagnalcabdlhaa", sum := "4cfe2bcb8eab2b075b2d0ad9938367e6158a65b41f5c957fdd187f6fd07a4389", func := "anceps/ancepslaw40.SolveFirst", spec := "solveFirst", unfollowed := true, recurses := true, apart := false }
def SolveFirstSaid : Prop := solveFirstRow.holds Try.pinned (OpenSpec.ofChange solveFirstSpec)

/-- ITS FALSE NEIGHBOUR: 'it returns false'. Refute it at one input. -/
def solveFirstWrong : ChangeSpec := { name := "solveFirst", fn := fun _ => fun
  | [d] => { results := [.lit (.bool false)], args := [d] }
  | _ => none }
def SolveFirstWrongFalsely : Prop := solveFirstRow.holds Try.pinned (OpenSpec.ofChange solveFirstWrong)

/-- 'ancepslaw40.SolveGiven': WHATEVER THE INPUT: true; the input reads as it did. -/
def solveGivenSpec : ChangeSpec := { name := "solveGiven", fn := fun _ => fun
  | [d1, d2, d3] => { results := [.lit (.bool true)], args := [d1, d2, d3] }
  | _ => none }
def solveGivenRow : OpenClaim := { program := "ytbagnalcabdlhaa", sum := "4cfe2bcb8eab2b075b2d0ad9938367e6158a65b41f5c957fdd187f6fd07a4389", func := "anceps/ancepslaw40.SolveGiven", spec := "solveGiven", unfollowed := true, recurses := true, apart := false }
def SolveGivenSaid : Prop := solveGivenRow.holds Try.pinned (OpenSpec.ofChange solveGivenSpec)

/-- ITS FALSE NEIGHBOUR: 'it returns false'. Refute it at one input. -/
def solveGivenWrong : ChangeSpec := { name := "solveGiven", fn := fun _ => fun
  | [d1, d2, d3] => { results := [.lit (.bool false)], args := [d1, d2, d3] }
  | _ => none }
def SolveGivenWrongFalsely : Prop := solveGivenRow.holds Try.pinned (OpenSpec.ofChange solveGivenWrong)

/-- 'ancepslaw40.SolveTrim': WHATEVER THE INPUT: true; the input reads as it did. -/
def solveTrimSpec : ChangeSpec := { name := "solveTrim", fn := fun _ => fun
  | [d1, d2] => { results := [.lit (.bool true)], args := [d1, d2] }
  | _ => none }
def solveTrimRow : OpenClaim := { program := "ytbagnalcabdlhaa", sum := "4cfe2bcb8eab2b075b2d0ad9938367e6158a65b41f5c957fdd187f6fd07a4389", func := "anceps/ancepslaw40.SolveTrim", spec := "solveTrim", unfollowed := true, recurses := true, apart := false }
def SolveTrimSaid : Prop := solveTrimRow.holds Try.pinned (OpenSpec.ofChange solveTrimSpec)

/-- ITS FALSE NEIGHBOUR: 'it returns false'. Refute it at one input. -/
def solveTrimWrong : ChangeSpec := { name := "solveTrim", fn := fun _ => fun
  | [d1, d2] => { results := [.lit (.bool false)], args := [d1, d2] }
  | _ => none }
def SolveTrimWrongFalsely : Prop := solveTrimRow.holds Try.pinned (OpenSpec.ofChange solveTrimWrong)

/-- 'ancepslaw40.SolveParts': WHATEVER THE INPUT: true; the input reads as it did. -/
def solvePartsSpec : ChangeSpec := { name := "solveParts", fn := fun _ => fun
  | [d1, d2] => { results := [.lit (.bool true)], args := [d1, d2] }
  | _ => none }
def solvePartsRow : OpenClaim := { program := "ytbagnalcabdlhaa", sum := "4cfe2bcb8eab2b075b2d0ad9938367e6158a65b41f5c957fdd187f6fd07a4389", func := "anceps/ancepslaw40.SolveParts", spec := "solveParts", unfollowed := true, recurses := true, apart := false }
def SolvePartsSaid : Prop := solvePartsRow.holds Try.pinned (OpenSpec.ofChange solvePartsSpec)

/-- ITS FALSE NEIGHBOUR: 'it returns false'. Refute it at one input. -/
def solvePartsWrong : ChangeSpec := { name := "solveParts", fn := fun _ => fun
  | [d1, d2] => { results := [.lit (.bool false)], args := [d1, d2] }
  | _ => none }
def SolvePartsWrongFalsely : Prop := solvePartsRow.holds Try.pinned (OpenSpec.ofChange solvePartsWrong)

/-- 'ancepslaw42.ConflictSolved': WHATEVER THE INPUT: true; the input reads as it did. -/
def conflictSolvedSpec : ChangeSpec := { name := "conflictSolved", fn := fun _ => fun
  | [d] => { results := [.lit (.bool true)], args := [d] }
  | _ => none }
def conflictSolvedRow : OpenClaim := { program := "ytbagnalcabdlhaa", sum := "4cfe2bcb8eab2b075b2d0ad9938367e6158a65b41f5c957fdd187f6fd07a4389", func := "anceps/ancepslaw42.ConflictSolved", spec := "conflictSolved", unfollowed := true, recurses := true, apart := false }
def ConflictSolvedSaid : Prop := conflictSolvedRow.holds Try.pinned (OpenSpec.ofChange conflictSolvedSpec)

/-- ITS FALSE NEIGHBOUR: 'it returns false'. Refute it at one input. -/
def conflictSolvedWrong : ChangeSpec := { name := "conflictSolved", fn := fun _ => fun
  | [d] => { results := [.lit (.bool false)], args := [d] }
  | _ => none }
def ConflictSolvedWrongFalsely : Prop := conflictSolvedRow.holds Try.pinned (OpenSpec.ofChange conflictSolvedWrong)

/- THE SECOND FORM. 'bulk': how many values and letters a reading holds, each counted each time it is reached (what is shared counts as often as it is met; a slice's spare places count too). A statement '..UptoSaid' is the law's where the arguments, and the package variables that the reading takes, are together of bulk at most 1048576: NARROWER than '..Said'. Prove '..Said' where nothing that the law and all that it calls make is longer than what came in: it says more and counts as full. Else prove '..UptoSaid'. A law counts once. -/
mutual
def uptoBulk {H : Type} : DataW H → Nat
  | .lit (.string bytes) => bytes.length + 1
  | .lit _ => 1
  | .nil => 1
  | .ptr d => uptoBulk d + 1
  | .slice elems spare => uptoBulkAll elems + uptoBulkAll spare + 1
  | .agg parts => uptoBulkAll parts + 1
  | .iface _ d => uptoBulk d + 1
  | .map entries => uptoBulkEntries entries + 1
  | .held _ => 1
def uptoBulkAll {H : Type} : List (DataW H) → Nat
  | [] => 0
  | d :: r => uptoBulk d + uptoBulkAll r
def uptoBulkEntries {H : Type} : List (Lit × DataW H) → Nat
  | [] => 0
  | x :: r => uptoBulkEntry x + uptoBulkEntries r
def uptoBulkEntry {H : Type} : Lit × DataW H → Nat
  | (.string bytes, d) => bytes.length + uptoBulk d + 1
  | (_, d) => uptoBulk d + 1
 end
def uptoSmall : (H : Type) → List (DataW H) → Bool := fun _ ds => decide (uptoBulkAll ds ≤ 1048576)
def OpenSpec.upto (s : _root_.Go.ChangeSpec) : _root_.Go.OpenSpec := { _root_.Go.OpenSpec.ofChange s with cond := some uptoSmall }

/-- 'ancepslaw40.SolveRefute', WHERE WHAT IT READS IS OF BULK AT MOST 1048576: true; the input reads as it did. -/
def solveRefuteUptoRow : OpenClaim := { program := "ytbagnalcabdlhaa", sum := "4cfe2bcb8eab2b075b2d0ad9938367e6158a65b41f5c957fdd187f6fd07a4389", func := "anceps/ancepslaw40.SolveRefute", spec := "solveRefute", unfollowed := true, recurses := true, apart := false, narrowed := true }
def SolveRefuteUptoSaid : Prop := solveRefuteUptoRow.holds Try.pinned (OpenSpec.upto solveRefuteSpec)

/-- 'ancepslaw40.SolveCheck', WHERE WHAT IT READS IS OF BULK AT MOST 1048576: true; the input reads as it did. -/
def solveCheckUptoRow : OpenClaim := { program := "ytbagnalcabdlhaa", sum := "4cfe2bcb8eab2b075b2d0ad9938367e6158a65b41f5c957fdd187f6fd07a4389", func := "anceps/ancepslaw40.SolveCheck", spec := "solveCheck", unfollowed := true, recurses := true, apart := false, narrowed := true }
def SolveCheckUptoSaid : Prop := solveCheckUptoRow.holds Try.pinned (OpenSpec.upto solveCheckSpec)

/-- 'ancepslaw40.SolveHolds', WHERE WHAT IT READS IS OF BULK AT MOST 1048576: true; the input reads as it did. -/
def solveHoldsUptoRow : OpenClaim := { program := "ytbagnalcabdlhaa", sum := "4cfe2bcb8eab2b075b2d0ad9938367e6158a65b41f5c957fdd187f6fd07a4389", func := "anceps/ancepslaw40.SolveHolds", spec := "solveHolds", unfollowed := true, recurses := true, apart := false, narrowed := true }
def SolveHoldsUptoSaid : Prop := solveHoldsUptoRow.holds Try.pinned (OpenSpec.upto solveHoldsSpec)

/-- 'ancepslaw40.SolveEither', WHERE WHAT IT READS IS OF BULK AT MOST 1048576: true; the input reads as it did. -/
def solveEitherUptoRow : OpenClaim := { program := "ytbagnalcabdlhaa", sum := "4cfe2bcb8eab2b075b2d0ad9938367e6158a65b41f5c957fdd187f6fd07a4389", func := "anceps/ancepslaw40.SolveEither", spec := "solveEither", unfollowed := true, recurses := true, apart := false, narrowed := true }
def SolveEitherUptoSaid : Prop := solveEitherUptoRow.holds Try.pinned (OpenSpec.upto solveEitherSpec)

/-- 'ancepslaw40.SolveFirst', WHERE WHAT IT READS IS OF BULK AT MOST 1048576: true; the input reads as it did. -/
def solveFirstUptoRow : OpenClaim := { program := "ytbagnalcabdlhaa", sum := "4cfe2bcb8eab2b075b2d0ad9938367e6158a65b41f5c957fdd187f6fd07a4389", func := "anceps/ancepslaw40.SolveFirst", spec := "solveFirst", unfollowed := true, recurses := true, apart := false, narrowed := true }
def SolveFirstUptoSaid : Prop := solveFirstUptoRow.holds Try.pinned (OpenSpec.upto solveFirstSpec)

/-- 'ancepslaw40.SolveGiven', WHERE WHAT IT READS IS OF BULK AT MOST 1048576: true; the input reads as it did. -/
def solveGivenUptoRow : OpenClaim := { program := "ytbagnalcabdlhaa", sum := "4cfe2bcb8eab2b075b2d0ad9938367e6158a65b41f5c957fdd187f6fd07a4389", func := "anceps/ancepslaw40.SolveGiven", spec := "solveGiven", unfollowed := true, recurses := true, apart := false, narrowed := true }
def SolveGivenUptoSaid : Prop := solveGivenUptoRow.holds Try.pinned (OpenSpec.upto solveGivenSpec)

/-- 'ancepslaw40.SolveTrim', WHERE WHAT IT READS IS OF BULK AT MOST 1048576: true; the input reads as it did. -/
def solveTrimUptoRow : OpenClaim := { program := "ytbagnalcabdlhaa", sum := "4cfe2bcb8eab2b075b2d0ad9938367e6158a65b41f5c957fdd187f6fd07a4389", func := "anceps/ancepslaw40.SolveTrim", spec := "solveTrim", unfollowed := true, recurses := true, apart := false, narrowed := true }
def SolveTrimUptoSaid : Prop := solveTrimUptoRow.holds Try.pinned (OpenSpec.upto solveTrimSpec)

/-- 'ancepslaw40.SolveParts', WHERE WHAT IT READS IS OF BULK AT MOST 1048576: true; the input reads as it did. -/
def solvePartsUptoRow : OpenClaim := { program := "ytbagnalcabdlhaa", sum := "4cfe2bcb8eab2b075b2d0ad9938367e6158a65b41f5c957fdd187f6fd07a4389", func := "anceps/ancepslaw40.SolveParts", spec := "solveParts", unfollowed := true, recurses := true, apart := false, narrowed := true }
def SolvePartsUptoSaid : Prop := solvePartsUptoRow.holds Try.pinned (OpenSpec.upto solvePartsSpec)

/-- 'ancepslaw42.ConflictSolved', WHERE WHAT IT READS IS OF BULK AT MOST 1048576: true; the input reads as it did. -/
def conflictSolvedUptoRow : OpenClaim := { program := "ytbagnalcabdlhaa", sum := "4cfe2bcb8eab2b075b2d0ad9938367e6158a65b41f5c957fdd187f6fd07a4389", func := "anceps/ancepslaw42.ConflictSolved", spec := "conflictSolved", unfollowed := true, recurses := true, apart := false, narrowed := true }
def ConflictSolvedUptoSaid : Prop := conflictSolvedUptoRow.holds Try.pinned (OpenSpec.upto conflictSolvedSpec)

end Rows
end Go.Proofs.Ytbagnalcabdlhaa
