/-
  No cell of these rows narrows 'for every input' (looked for: loops, veiled, ifaces, maps, wideKeys, modest, calm, conditions, laid).
  DERIVED. THE GIVEN ROWS OF THIS SEAT. 6 by the template 'for every input the law returns true; each argument reads behind the call as it read before'; 0 by the template 'total and deterministic' (their statements: YtkjghablbeaioaaTotals.lean).
  GIVEN WITH THE SEED: the statements are not yours to turn. If you find one false, say at which input.
  Laid BY PROGRAM, IN A SANDBOX (cutbox-rows.mjs): the forced cells as the released guide's own fill.sh prints them over the translation def97284c5bf8ba0… (all of the seat's roots in one cut). By AI agents, Wed Nov 11 2026. No macro, syntax, notation, axiom, sorry.
-/
import Derived.Test.YtkjghablbeaioaaChecked
import GoSem.Claim
import GoSem.ClaimJoined
import GoSem.ClaimMapViews
import Derived.JoinedTies
import Derived.KernelRfl
namespace Go.Proofs.Ytkjghablbeaioaa
/- THE CELL 'sum', in the pinned program and in every row, IS THE sha256 OF THE DUMP (.gsa) THAT YtkjghablbeaioaaProg.lean LOADS. Nothing in Lean hashes anything: it is a label: what it is worth is what the hold of that sum in a sandbox is worth. -/
noncomputable def Try.pinned : Pinned := { name := "ytkjghablbeaioaa", sum := "def97284c5bf8ba0e3042d6abc60b934464c6fdcf22f8d212e935b69cc969824", checked := Try.checked }
namespace Rows
def none {H : Type} : Left H := { results := [], args := [] }

/-- 'ancepslaw42.ConflictCores': WHATEVER THE INPUT: true; the input reads as it did. -/
def conflictCoresSpec : ChangeSpec := { name := "conflictCores", fn := fun _ => fun
  | [d] => { results := [.lit (.bool true)], args := [d] }
  | _ => none }
def conflictCoresRow : OpenClaim := { program := "ytkjghablbeaioaa", sum := "def97284c5bf8ba0e3042d6abc60b934464c6fdcf22f8d212e935b69cc969824", func := "anceps/ancepslaw42.ConflictCores", spec := "conflictCores", unfollowed := true, recurses := true, apart := false }
def ConflictCoresSaid : Prop := conflictCoresRow.holds Try.pinned (OpenSpec.ofChange conflictCoresSpec)

/-- ITS FALSE NEIGHBOUR: 'it returns false'. Refute it at one input. -/
def conflictCoresWrong : ChangeSpec := { name := "conflictCores", fn := fun _ => fun
  | [d] => { results := [.lit (.bool false)], args := [d] }
  | _ => none }
def ConflictCoresWrongFalsely : Prop := conflictCoresRow.holds Try.pinned (OpenSpec.ofChange conflictCoresWrong)

/-- 'ancepslaw42.ConflictShrinks': WHATEVER THE INPUT: true; the input reads as it did. -/
def conflictShrinksSpec : ChangeSpec := { name := "conflictShrinks", fn := fun _ => fun
  | [d1, d2] => { results := [.lit (.bool true)], args := [d1, d2] }
  | _ => none }
def conflictShrinksRow : OpenClaim := { program := "ytkjghablbeaioaa", sum := "def97284c5bf8ba0e3042d6abc60b934464c6fdcf22f8d212e935b69cc969824", func := "anceps/ancepslaw42.ConflictShrinks", spec := "conflictShrinks", unfollowed := true, recurses := true, apart := false }
def ConflictShrinksSaid : Prop := conflictShrinksRow.holds Try.pinned (OpenSpec.ofChange conflictShrinksSpec)

/-- ITS FALSE NEIGHBOUR: 'it returns false'. Refute it at one input. -/
def conflictShrinksWrong : ChangeSpec := { name := "conflictShrinks", fn := fun _ => fun
  | [d1, d2] => { results := [.lit (.bool false)], args := [d1, d2] }
  | _ => none }
def ConflictShrinksWrongFalsely : Prop := conflictShrinksRow.holds Try.pinned (OpenSpec.ofChange conflictShrinksWrong)

/-- 'ancepslaw42.ConflictDual': WHATEVER THE INPUT: true; the input reads as it did. -/
def conflictDualSpec : ChangeSpec := { name := "conflictDual", fn := fun _ => fun
  | [d] => { results := [.lit (.bool true)], args := [d] }
  | _ => none }
def conflictDualRow : OpenClaim := { program := "ytkjghablbeaioaa", sum := "def97284c5bf8ba0e3042d6abc60b934464c6fdcf22f8d212e935b69cc969824", func := "anceps/ancepslaw42.ConflictDual", spec := "conflictDual", unfollowed := true, recurses := true, apart := false }
def ConflictDualSaid : Prop := conflictDualRow.holds Try.pinned (OpenSpec.ofChange conflictDualSpec)

/-- ITS FALSE NEIGHBOUR: 'it returns false'. Refute it at one input. -/
def conflictDualWrong : ChangeSpec := { name := "conflictDual", fn := fun _ => fun
  | [d] => { results := [.lit (.bool false)], args := [d] }
  | _ => none }
def ConflictDualWrongFalsely : Prop := conflictDualRow.holds Try.pinned (OpenSpec.ofChange conflictDualWrong)

/-- 'ancepslaw42.ConflictSolved': WHATEVER THE INPUT: true; the input reads as it did. -/
def conflictSolvedSpec : ChangeSpec := { name := "conflictSolved", fn := fun _ => fun
  | [d] => { results := [.lit (.bool true)], args := [d] }
  | _ => none }
def conflictSolvedRow : OpenClaim := { program := "ytkjghablbeaioaa", sum := "def97284c5bf8ba0e3042d6abc60b934464c6fdcf22f8d212e935b69cc969824", func := "anceps/ancepslaw42.ConflictSolved", spec := "conflictSolved", unfollowed := true, recurses := true, apart := false }
def ConflictSolvedSaid : Prop := conflictSolvedRow.holds Try.pinned (OpenSpec.ofChange conflictSolvedSpec)

/-- ITS FALSE NEIGHBOUR: 'it returns false'. Refute it at one input. -/
def conflictSolvedWrong : ChangeSpec := { name := "conflictSolved", fn := fun _ => fun
  | [d] => { results := [.lit (.bool false)], args := [d] }
  | _ => none }
def ConflictSolvedWrongFalsely : Prop := conflictSolvedRow.holds Try.pinned (OpenSpec.ofChange conflictSolvedWrong)

/-- 'ancepslaw42.ConflictGrows': WHATEVER THE INPUT: true; the input reads as it did. -/
def conflictGrowsSpec : ChangeSpec := { name := "conflictGrows", fn := fun _ => fun
  | [d1, d2] => { results := [.lit (.bool true)], args := [d1, d2] }
  | _ => none }
def conflictGrowsRow : OpenClaim := { program := "ytkjghablbeaioaa", sum := "def97284c5bf8ba0e3042d6abc60b934464c6fdcf22f8d212e935b69cc969824", func := "anceps/ancepslaw42.ConflictGrows", spec := "conflictGrows", unfollowed := true, recurses := true, apart := false }
def ConflictGrowsSaid : Prop := conflictGrowsRow.holds Try.pinned (OpenSpec.ofChange conflictGrowsSpec)

/-- ITS FALSE NEIGHBOUR: 'it returns false'. Refute it at one input. -/
def conflictGrowsWrong : ChangeSpec := { name := "conflictGrows", fn := fun _ => fun
  | [d1, d2] => { results := [.lit (.bool false)], args := [d1, d2] }
  | _ => none }
def ConflictGrowsWrongFalsely : Prop := conflictGrowsRow.holds Try.pinned (OpenSpec.ofChange conflictGrowsWrong)

/-- 'ancepslaw42.ConflictOthers': WHATEVER THE INPUT: true; the input reads as it did. -/
def conflictOthersSpec : ChangeSpec := { name := "conflictOthers", fn := fun _ => fun
  | [d1, d2] => { results := [.lit (.bool true)], args := [d1, d2] }
  | _ => none }
def conflictOthersRow : OpenClaim := { program := "ytkjghablbeaioaa", sum := "def97284c5bf8ba0e3042d6abc60b934464c6fdcf22f8d212e935b69cc969824", func := "anceps/ancepslaw42.ConflictOthers", spec := "conflictOthers", unfollowed := true, recurses := true, apart := false }
def ConflictOthersSaid : Prop := conflictOthersRow.holds Try.pinned (OpenSpec.ofChange conflictOthersSpec)

/-- ITS FALSE NEIGHBOUR: 'it returns false'. Refute it at one input. -/
def conflictOthersWrong : ChangeSpec := { name := "conflictOthers", fn := fun _ => fun
  | [d1, d2] => { results := [.lit (.bool false)], args := [d1, d2] }
  | _ => none }
def ConflictOthersWrongFalsely : Prop := conflictOthersRow.holds Try.pinned (OpenSpec.ofChange conflictOthersWrong)

/- THE SECOND FORM. 'bulk': how many values and letters a reading holds, each counted each time it is reached (what is shared counts as often as it is met; a slice's spare places count too). A statement '..UptoSaid' is the law's where the arguments, and the package variables that the reading takes, are together of bulk at most 1048576: NARROWER than '..Said'. Prove '..Said' where nothing that the law and all that it calls make is longer than what came in: it says more and counts as full. Else prove '..UptoSaid'. A law counts once. -/
mutual
def uptoBulk {H : Type} : DataW H → Nat
  | .lit (.string bytes) => bytes.length + 1
  | .lit _ => 1
  | .nil => 1
  | .ptr d => uptoBulk d + 1
  | .slice elems spare => uptoBulkAll elems + uptoBulkAll spare + 1
  | .agg parts => uptoBulkAll parts + 1
  | .iface _ d => uptoBulk d + 1
  | .map entries => uptoBulkEntries entries + 1
  | .held _ => 1
def uptoBulkAll {H : Type} : List (DataW H) → Nat
  | [] => 0
  | d :: r => uptoBulk d + uptoBulkAll r
def uptoBulkEntries {H : Type} : List (Lit × DataW H) → Nat
  | [] => 0
  | x :: r => uptoBulkEntry x + uptoBulkEntries r
def uptoBulkEntry {H : Type} : Lit × DataW H → Nat
  | (.string bytes, d) => bytes.length + uptoBulk d + 1
  | (_, d) => uptoBulk d + 1
 end
def uptoSmall : (H : Type) → List (DataW H) → Bool := fun _ ds => decide (uptoBulkAll ds ≤ 1048576)
def OpenSpec.upto (s : _root_.Go.ChangeSpec) : _root_.Go.OpenSpec := { _root_.Go.OpenSpec.ofChange s with cond := some uptoSmall }

/-- 'ancepslaw42.ConflictCores', WHERE WHAT IT READS IS OF BULK AT MOST 1048576: true; the input reads as it did. -/
def conflictCoresUptoRow : OpenClaim := { program := "ytkjghablbeaioaa", sum := "def97284c5bf8ba0e3042d6abc60b934464c6fdcf22f8d212e935b69cc969824", func := "anceps/ancepslaw42.ConflictCores", spec := "conflictCores", unfollowed := true, recurses := true, apart := false, narrowed := true }
def ConflictCoresUptoSaid : Prop := conflictCoresUptoRow.holds Try.pinned (OpenSpec.upto conflictCoresSpec)

/-- 'ancepslaw42.ConflictShrinks', WHERE WHAT IT READS IS OF BULK AT MOST 1048576: true; the input reads as it did. -/
def conflictShrinksUptoRow : OpenClaim := { program := "ytkjghablbeaioaa", sum := "def97284c5bf8ba0e3042d6abc60b934464c6fdcf22f8d212e935b69cc969824", func := "anceps/ancepslaw42.ConflictShrinks", spec := "conflictShrinks", unfollowed := true, recurses := true, apart := false, narrowed := true }
def ConflictShrinksUptoSaid : Prop := conflictShrinksUptoRow.holds Try.pinned (OpenSpec.upto conflictShrinksSpec)

/-- 'ancepslaw42.ConflictDual', WHERE WHAT IT READS IS OF BULK AT MOST 1048576: true; the input reads as it did. -/
def conflictDualUptoRow : OpenClaim := { program := "ytkjghablbeaioaa", sum := "def97284c5bf8ba0e3042d6abc60b934464c6fdcf22f8d212e935b69cc969824", func := "anceps/ancepslaw42.ConflictDual", spec := "conflictDual", unfollowed := true, recurses := true, apart := false, narrowed := true }
def ConflictDualUptoSaid : Prop := conflictDualUptoRow.holds Try.pinned (OpenSpec.upto conflictDualSpec)

/-- 'ancepslaw42.ConflictSolved', WHERE WHAT IT READS IS OF BULK AT MOST 1048576: true; the input reads as it did. -/
def conflictSolvedUptoRow : OpenClaim := { program := "ytkjghablbeaioaa", sum := "def97284c5bf8ba0e3042d6abc60b934464c6fdcf22f8d212e935b69cc969824", func := "anceps/ancepslaw42.ConflictSolved", spec := "conflictSolved", unfollowed := true, recurses := true, apart := false, narrowed := true }
def ConflictSolvedUptoSaid : Prop := conflictSolvedUptoRow.holds Try.pinned (OpenSpec.upto conflictSolvedSpec)

/-- 'ancepslaw42.ConflictGrows', WHERE WHAT IT READS IS OF BULK AT MOST 1048576: true; the input reads as it did. -/
def conflictGrowsUptoRow : OpenClaim := { program := "ytkjghablbeaioaa", sum := "def97284c5bf8ba0e3042d6abc60b934464c6fdcf22f8d212e935b69cc969824", func := "anceps/ancepslaw42.ConflictGrows", spec := "conflictGrows", unfollowed := true, recurses := true, apart := false, narrowed := true }
def ConflictGrowsUptoSaid : Prop := conflictGrowsUptoRow.holds Try.pinned (OpenSpec.upto conflictGrowsSpec)

/-- 'ancepslaw42.ConflictOthers', WHERE WHAT IT READS IS OF BULK AT MOST 1048576: true; the input reads as it did. -/
def conflictOthersUptoRow : OpenClaim := { program := "ytkjghablbeaioaa", sum := "def97284c5bf8ba0e3042d6abc60b934464c6fdcf22f8d212e935b69cc969824", func := "anceps/ancepslaw42.ConflictOthers", spec := "conflictOthers", unfollowed := true, recurses := true, apart := false, narrowed := true }
def ConflictOthersUptoSaid : Prop := conflictOthersUptoRow.holds Try.pinned (OpenSpec.upto conflictOthersSpec)

end Rows
end Go.Proofs.Ytkjghablbeaioaa
