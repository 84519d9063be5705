/-
  No cell of these rows narrows 'for every input' (looked for: loops, veiled, ifaces, maps, wideKeys, modest, calm, conditions, laid).
  DERIVED. THE GIVEN ROWS OF THIS SEAT. 4 by the template 'for every input the law returns true; each argument reads behind the call as it read before'; 0 by the template 'total and deterministic' (their statements: YtngpkbbljnbojaaGreatTotals.lean).
  GIVEN WITH THE SEED: the statements are not yours to turn. If you find one false, say at which input.
  Laid BY PROGRAM, IN A SANDBOX (cutbox-rows.mjs): the forced cells as the released guide's own fill.sh prints them over the translation 88e3745895104c35… (all of the seat's roots in one cut). By AI agents, Wed Nov 11 2026. No macro, syntax, notation, axiom, sorry.
-/
import Derived.Test.YtngpkbbljnbojaaGreatChecked
import GoSem.Claim
import GoSem.ClaimJoined
import GoSem.ClaimMapViews
import Derived.JoinedTies
import Derived.KernelRfl
namespace Go.Proofs.YtngpkbbljnbojaaGreat
/- THE CELL 'sum', in the pinned program and in every row, IS THE sha256 OF THE DUMP (.gsa) THAT YtngpkbbljnbojaaGreatProg.lean LOADS. Nothing in Lean hashes anything: it is a label: what it is worth is what the hold of that sum in a sandbox is worth. -/
noncomputable def Tryz.pinned : Pinned := { name := "ytngpkbbljnbojaagreat", sum := "88e3745895104c35161e09fcbf2dc8216e4c28450f69e94950371966d863d0e2", checked := Tryz.checked }
namespace Rows
def none {H : Type} : Left H := { results := [], args := [] }

/-- 'ancepslaw41.SharedAll': WHATEVER THE INPUT: true; the input reads as it did. -/
def sharedAllSpec : ChangeSpec := { name := "sharedAll", fn := fun _ => fun
  | [d] => { results := [.lit (.bool true)], args := [d] }
  | _ => none }
def sharedAllRow : OpenClaim := { program := "ytngpkbbljnbojaagreat", sum := "88e3745895104c35161e09fcbf2dc8216e4c28450f69e94950371966d863d0e2", func := "anceps/ancepslaw41.SharedAll", spec := "sharedAll", unfollowed := true, recurses := true, apart := false }
def SharedAllSaid : Prop := sharedAllRow.holds Tryz.pinned (OpenSpec.ofChange sharedAllSpec)

/-- ITS FALSE NEIGHBOUR: 'it returns false'. Refute it at one input. -/
def sharedAllWrong : ChangeSpec := { name := "sharedAll", fn := fun _ => fun
  | [d] => { results := [.lit (.bool false)], args := [d] }
  | _ => none }
def SharedAllWrongFalsely : Prop := sharedAllRow.holds Tryz.pinned (OpenSpec.ofChange sharedAllWrong)

/-- 'ancepslaw41.SharedFix': WHATEVER THE INPUT: true; the input reads as it did. -/
def sharedFixSpec : ChangeSpec := { name := "sharedFix", fn := fun _ => fun
  | [d1, d2] => { results := [.lit (.bool true)], args := [d1, d2] }
  | _ => none }
def sharedFixRow : OpenClaim := { program := "ytngpkbbljnbojaagreat", sum := "88e3745895104c35161e09fcbf2dc8216e4c28450f69e94950371966d863d0e2", func := "anceps/ancepslaw41.SharedFix", spec := "sharedFix", unfollowed := true, recurses := true, apart := false }
def SharedFixSaid : Prop := sharedFixRow.holds Tryz.pinned (OpenSpec.ofChange sharedFixSpec)

/-- ITS FALSE NEIGHBOUR: 'it returns false'. Refute it at one input. -/
def sharedFixWrong : ChangeSpec := { name := "sharedFix", fn := fun _ => fun
  | [d1, d2] => { results := [.lit (.bool false)], args := [d1, d2] }
  | _ => none }
def SharedFixWrongFalsely : Prop := sharedFixRow.holds Tryz.pinned (OpenSpec.ofChange sharedFixWrong)

/-- 'ancepslaw41.SharedFixed': WHATEVER THE INPUT: true; the input reads as it did. -/
def sharedFixedSpec : ChangeSpec := { name := "sharedFixed", fn := fun _ => fun
  | [d] => { results := [.lit (.bool true)], args := [d] }
  | _ => none }
def sharedFixedRow : OpenClaim := { program := "ytngpkbbljnbojaagreat", sum := "88e3745895104c35161e09fcbf2dc8216e4c28450f69e94950371966d863d0e2", func := "anceps/ancepslaw41.SharedFixed", spec := "sharedFixed", unfollowed := true, recurses := true, apart := false }
def SharedFixedSaid : Prop := sharedFixedRow.holds Tryz.pinned (OpenSpec.ofChange sharedFixedSpec)

/-- ITS FALSE NEIGHBOUR: 'it returns false'. Refute it at one input. -/
def sharedFixedWrong : ChangeSpec := { name := "sharedFixed", fn := fun _ => fun
  | [d] => { results := [.lit (.bool false)], args := [d] }
  | _ => none }
def SharedFixedWrongFalsely : Prop := sharedFixedRow.holds Tryz.pinned (OpenSpec.ofChange sharedFixedWrong)

/-- 'ancepslaw41.SharedLinked': WHATEVER THE INPUT: true; the input reads as it did. -/
def sharedLinkedSpec : ChangeSpec := { name := "sharedLinked", fn := fun _ => fun
  | [d] => { results := [.lit (.bool true)], args := [d] }
  | _ => none }
def sharedLinkedRow : OpenClaim := { program := "ytngpkbbljnbojaagreat", sum := "88e3745895104c35161e09fcbf2dc8216e4c28450f69e94950371966d863d0e2", func := "anceps/ancepslaw41.SharedLinked", spec := "sharedLinked", unfollowed := true, recurses := true, apart := false }
def SharedLinkedSaid : Prop := sharedLinkedRow.holds Tryz.pinned (OpenSpec.ofChange sharedLinkedSpec)

/-- ITS FALSE NEIGHBOUR: 'it returns false'. Refute it at one input. -/
def sharedLinkedWrong : ChangeSpec := { name := "sharedLinked", fn := fun _ => fun
  | [d] => { results := [.lit (.bool false)], args := [d] }
  | _ => none }
def SharedLinkedWrongFalsely : Prop := sharedLinkedRow.holds Tryz.pinned (OpenSpec.ofChange sharedLinkedWrong)

/- THE SECOND FORM. 'bulk': how many values and letters a reading holds, each counted each time it is reached (what is shared counts as often as it is met; a slice's spare places count too). A statement '..UptoSaid' is the law's where the arguments, and the package variables that the reading takes, are together of bulk at most 1048576: NARROWER than '..Said'. Prove '..Said' where nothing that the law and all that it calls make is longer than what came in: it says more and counts as full. Else prove '..UptoSaid'. A law counts once. -/
mutual
def uptoBulk {H : Type} : DataW H → Nat
  | .lit (.string bytes) => bytes.length + 1
  | .lit _ => 1
  | .nil => 1
  | .ptr d => uptoBulk d + 1
  | .slice elems spare => uptoBulkAll elems + uptoBulkAll spare + 1
  | .agg parts => uptoBulkAll parts + 1
  | .iface _ d => uptoBulk d + 1
  | .map entries => uptoBulkEntries entries + 1
  | .held _ => 1
def uptoBulkAll {H : Type} : List (DataW H) → Nat
  | [] => 0
  | d :: r => uptoBulk d + uptoBulkAll r
def uptoBulkEntries {H : Type} : List (Lit × DataW H) → Nat
  | [] => 0
  | x :: r => uptoBulkEntry x + uptoBulkEntries r
def uptoBulkEntry {H : Type} : Lit × DataW H → Nat
  | (.string bytes, d) => bytes.length + uptoBulk d + 1
  | (_, d) => uptoBulk d + 1
 end
def uptoSmall : (H : Type) → List (DataW H) → Bool := fun _ ds => decide (uptoBulkAll ds ≤ 1048576)
def OpenSpec.upto (s : _root_.Go.ChangeSpec) : _root_.Go.OpenSpec := { _root_.Go.OpenSpec.ofChange s with cond := some uptoSmall }

/-- 'ancepslaw41.SharedAll', WHERE WHAT IT READS IS OF BULK AT MOST 1048576: true; the input reads as it did. -/
def sharedAllUptoRow : OpenClaim := { program := "ytngpkbbljnbojaagreat", sum := "88e3745895104c35161e09fcbf2dc8216e4c28450f69e94950371966d863d0e2", func := "anceps/ancepslaw41.SharedAll", spec := "sharedAll", unfollowed := true, recurses := true, apart := false, narrowed := true }
def SharedAllUptoSaid : Prop := sharedAllUptoRow.holds Tryz.pinned (OpenSpec.upto sharedAllSpec)

/-- 'ancepslaw41.SharedFix', WHERE WHAT IT READS IS OF BULK AT MOST 1048576: true; the input reads as it did. -/
def sharedFixUptoRow : OpenClaim := { program := "ytngpkbbljnbojaagreat", sum := "88e3745895104c35161e09fcbf2dc8216e4c28450f69e94950371966d863d0e2", func := "anceps/ancepslaw41.SharedFix", spec := "sharedFix", unfollowed := true, recurses := true, apart := false, narrowed := true }
def SharedFixUptoSaid : Prop := sharedFixUptoRow.holds Tryz.pinned (OpenSpec.upto sharedFixSpec)

/-- 'ancepslaw41.SharedFixed', WHERE WHAT IT READS IS OF BULK AT MOST 1048576: true; the input reads as it did. -/
def sharedFixedUptoRow : OpenClaim := { program := "ytngpkbbljnbojaagreat", sum := "88e3745895104c35161e09fcbf2dc8216e4c28450f69e94950371966d863d0e2", func := "anceps/ancepslaw41.SharedFixed", spec := "sharedFixed", unfollowed := true, recurses := true, apart := false, narrowed := true }
def SharedFixedUptoSaid : Prop := sharedFixedUptoRow.holds Tryz.pinned (OpenSpec.upto sharedFixedSpec)

/-- 'ancepslaw41.SharedLinked', WHERE WHAT IT READS IS OF BULK AT MOST 1048576: true; the input reads as it did. -/
def sharedLinkedUptoRow : OpenClaim := { program := "ytngpkbbljnbojaagreat", sum := "88e3745895104c35161e09fcbf2dc8216e4c28450f69e94950371966d863d0e2", func := "anceps/ancepslaw41.SharedLinked", spec := "sharedLinked", unfollowed := true, recurses := true, apart := false, narrowed := true }
def SharedLinkedUptoSaid : Prop := sharedLinkedUptoRow.holds Tryz.pinned (OpenSpec.upto sharedLinkedSpec)

end Rows
end Go.Proofs.YtngpkbbljnbojaaGreat
