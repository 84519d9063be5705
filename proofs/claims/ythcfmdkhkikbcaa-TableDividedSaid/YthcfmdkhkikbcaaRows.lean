/-
  No cell of these rows narrows 'for every input' (looked for: loops, veiled, ifaces, maps, wideKeys, modest, calm, conditions, laid).
  DERIVED. THE GIVEN ROWS OF THIS SEAT. 9 by the template 'for every input the law returns true; each argument reads behind the call as it read before'; 0 by the template 'total and deterministic' (their statements: YthcfmdkhkikbcaaTotals.lean).
  GIVEN WITH THE SEED: the statements are not yours to turn. If you find one false, say at which input.
  Laid BY PROGRAM, IN A SANDBOX (cutbox-rows.mjs): the forced cells as the released guide's own fill.sh prints them over the translation f6e16d9c0a213bc6… (all of the seat's roots in one cut). By AI agents, Wed Nov 11 2026. No macro, syntax, notation, axiom, sorry.
-/
import Derived.Test.YthcfmdkhkikbcaaChecked
import GoSem.Claim
import GoSem.ClaimJoined
import GoSem.ClaimMapViews
import Derived.JoinedTies
import Derived.KernelRfl
namespace Go.Proofs.Ythcfmdkhkikbcaa
/- THE CELL 'sum', in the pinned program and in every row, IS THE sha256 OF THE DUMP (.gsa) THAT YthcfmdkhkikbcaaProg.lean LOADS. Nothing in Lean hashes anything: it is a label: what it is worth is what the hold of that sum in a sandbox is worth. -/
noncomputable def Try.pinned : Pinned := { name := "ythcfmdkhkikbcaa", sum := "f6e16d9c0a213bc679b287ccd3f75dca64c82e004b3162bcd6adb404f724e7b0", checked := Try.checked }
namespace Rows
def none {H : Type} : Left H := { results := [], args := [] }

/-- 'ancepslaw38.TableAlgebra': WHATEVER THE INPUT: true; the input reads as it did. -/
def tableAlgebraSpec : ChangeSpec := { name := "tableAlgebra", fn := fun _ => fun
  | [d1, d2, d3] => { results := [.lit (.bool true)], args := [d1, d2, d3] }
  | _ => none }
def tableAlgebraRow : OpenClaim := { program := "ythcfmdkhkikbcaa", sum := "f6e16d9c0a213bc679b287ccd3f75dca64c82e004b3162bcd6adb404f724e7b0", func := "anceps/ancepslaw38.TableAlgebra", spec := "tableAlgebra", unfollowed := true, recurses := true, apart := false }
def TableAlgebraSaid : Prop := tableAlgebraRow.holds Try.pinned (OpenSpec.ofChange tableAlgebraSpec)

/-- ITS FALSE NEIGHBOUR: 'it returns false'. Refute it at one input. -/
def tableAlgebraWrong : ChangeSpec := { name := "tableAlgebra", fn := fun _ => fun
  | [d1, d2, d3] => { results := [.lit (.bool false)], args := [d1, d2, d3] }
  | _ => none }
def TableAlgebraWrongFalsely : Prop := tableAlgebraRow.holds Try.pinned (OpenSpec.ofChange tableAlgebraWrong)

/-- 'ancepslaw38.TableValid': WHATEVER THE INPUT: true; the input reads as it did. -/
def tableValidSpec : ChangeSpec := { name := "tableValid", fn := fun _ => fun
  | [d1, d2] => { results := [.lit (.bool true)], args := [d1, d2] }
  | _ => none }
def tableValidRow : OpenClaim := { program := "ythcfmdkhkikbcaa", sum := "f6e16d9c0a213bc679b287ccd3f75dca64c82e004b3162bcd6adb404f724e7b0", func := "anceps/ancepslaw38.TableValid", spec := "tableValid", unfollowed := true, recurses := true, apart := false }
def TableValidSaid : Prop := tableValidRow.holds Try.pinned (OpenSpec.ofChange tableValidSpec)

/-- ITS FALSE NEIGHBOUR: 'it returns false'. Refute it at one input. -/
def tableValidWrong : ChangeSpec := { name := "tableValid", fn := fun _ => fun
  | [d1, d2] => { results := [.lit (.bool false)], args := [d1, d2] }
  | _ => none }
def TableValidWrongFalsely : Prop := tableValidRow.holds Try.pinned (OpenSpec.ofChange tableValidWrong)

/-- 'ancepslaw38.TableMeaning': WHATEVER THE INPUT: true; the input reads as it did. -/
def tableMeaningSpec : ChangeSpec := { name := "tableMeaning", fn := fun _ => fun
  | [d1, d2, d3] => { results := [.lit (.bool true)], args := [d1, d2, d3] }
  | _ => none }
def tableMeaningRow : OpenClaim := { program := "ythcfmdkhkikbcaa", sum := "f6e16d9c0a213bc679b287ccd3f75dca64c82e004b3162bcd6adb404f724e7b0", func := "anceps/ancepslaw38.TableMeaning", spec := "tableMeaning", unfollowed := true, recurses := true, apart := false }
def TableMeaningSaid : Prop := tableMeaningRow.holds Try.pinned (OpenSpec.ofChange tableMeaningSpec)

/-- ITS FALSE NEIGHBOUR: 'it returns false'. Refute it at one input. -/
def tableMeaningWrong : ChangeSpec := { name := "tableMeaning", fn := fun _ => fun
  | [d1, d2, d3] => { results := [.lit (.bool false)], args := [d1, d2, d3] }
  | _ => none }
def TableMeaningWrongFalsely : Prop := tableMeaningRow.holds Try.pinned (OpenSpec.ofChange tableMeaningWrong)

/-- 'ancepslaw38.TableTwo': WHATEVER THE INPUT: true; the input reads as it did. -/
def tableTwoSpec : ChangeSpec := { name := "tableTwo", fn := fun _ => fun
  | [d1, d2] => { results := [.lit (.bool true)], args := [d1, d2] }
  | _ => none }
def tableTwoRow : OpenClaim := { program := "ythcfmdkhkikbcaa", sum := "f6e16d9c0a213bc679b287ccd3f75dca64c82e004b3162bcd6adb404f724e7b0", func := "anceps/ancepslaw38.TableTwo", spec := "tableTwo", unfollowed := true, recurses := true, apart := false }
def TableTwoSaid : Prop := tableTwoRow.holds Try.pinned (OpenSpec.ofChange tableTwoSpec)

/-- ITS FALSE NEIGHBOUR: 'it returns false'. Refute it at one input. -/
def tableTwoWrong : ChangeSpec := { name := "tableTwo", fn := fun _ => fun
  | [d1, d2] => { results := [.lit (.bool false)], args := [d1, d2] }
  | _ => none }
def TableTwoWrongFalsely : Prop := tableTwoRow.holds Try.pinned (OpenSpec.ofChange tableTwoWrong)

/-- 'ancepslaw38.TableRestrict': WHATEVER THE INPUT: true; the input reads as it did. -/
def tableRestrictSpec : ChangeSpec := { name := "tableRestrict", fn := fun _ => fun
  | [d1, d2, d3] => { results := [.lit (.bool true)], args := [d1, d2, d3] }
  | _ => none }
def tableRestrictRow : OpenClaim := { program := "ythcfmdkhkikbcaa", sum := "f6e16d9c0a213bc679b287ccd3f75dca64c82e004b3162bcd6adb404f724e7b0", func := "anceps/ancepslaw38.TableRestrict", spec := "tableRestrict", unfollowed := true, recurses := true, apart := false }
def TableRestrictSaid : Prop := tableRestrictRow.holds Try.pinned (OpenSpec.ofChange tableRestrictSpec)

/-- ITS FALSE NEIGHBOUR: 'it returns false'. Refute it at one input. -/
def tableRestrictWrong : ChangeSpec := { name := "tableRestrict", fn := fun _ => fun
  | [d1, d2, d3] => { results := [.lit (.bool false)], args := [d1, d2, d3] }
  | _ => none }
def TableRestrictWrongFalsely : Prop := tableRestrictRow.holds Try.pinned (OpenSpec.ofChange tableRestrictWrong)

/-- 'ancepslaw38.TableVital': WHATEVER THE INPUT: true; the input reads as it did. -/
def tableVitalSpec : ChangeSpec := { name := "tableVital", fn := fun _ => fun
  | [d1, d2] => { results := [.lit (.bool true)], args := [d1, d2] }
  | _ => none }
def tableVitalRow : OpenClaim := { program := "ythcfmdkhkikbcaa", sum := "f6e16d9c0a213bc679b287ccd3f75dca64c82e004b3162bcd6adb404f724e7b0", func := "anceps/ancepslaw38.TableVital", spec := "tableVital", unfollowed := true, recurses := true, apart := false }
def TableVitalSaid : Prop := tableVitalRow.holds Try.pinned (OpenSpec.ofChange tableVitalSpec)

/-- ITS FALSE NEIGHBOUR: 'it returns false'. Refute it at one input. -/
def tableVitalWrong : ChangeSpec := { name := "tableVital", fn := fun _ => fun
  | [d1, d2] => { results := [.lit (.bool false)], args := [d1, d2] }
  | _ => none }
def TableVitalWrongFalsely : Prop := tableVitalRow.holds Try.pinned (OpenSpec.ofChange tableVitalWrong)

/-- 'ancepslaw38.TableDivided': WHATEVER THE INPUT: true; the input reads as it did. -/
def tableDividedSpec : ChangeSpec := { name := "tableDivided", fn := fun _ => fun
  | [d1, d2] => { results := [.lit (.bool true)], args := [d1, d2] }
  | _ => none }
def tableDividedRow : OpenClaim := { program := "ythcfmdkhkikbcaa", sum := "f6e16d9c0a213bc679b287ccd3f75dca64c82e004b3162bcd6adb404f724e7b0", func := "anceps/ancepslaw38.TableDivided", spec := "tableDivided", unfollowed := true, recurses := true, apart := false }
def TableDividedSaid : Prop := tableDividedRow.holds Try.pinned (OpenSpec.ofChange tableDividedSpec)

/-- ITS FALSE NEIGHBOUR: 'it returns false'. Refute it at one input. -/
def tableDividedWrong : ChangeSpec := { name := "tableDivided", fn := fun _ => fun
  | [d1, d2] => { results := [.lit (.bool false)], args := [d1, d2] }
  | _ => none }
def TableDividedWrongFalsely : Prop := tableDividedRow.holds Try.pinned (OpenSpec.ofChange tableDividedWrong)

/-- 'ancepslaw38.TableOver': WHATEVER THE INPUT: true; the input reads as it did. -/
def tableOverSpec : ChangeSpec := { name := "tableOver", fn := fun _ => fun
  | [d1, d2] => { results := [.lit (.bool true)], args := [d1, d2] }
  | _ => none }
def tableOverRow : OpenClaim := { program := "ythcfmdkhkikbcaa", sum := "f6e16d9c0a213bc679b287ccd3f75dca64c82e004b3162bcd6adb404f724e7b0", func := "anceps/ancepslaw38.TableOver", spec := "tableOver", unfollowed := true, recurses := true, apart := false }
def TableOverSaid : Prop := tableOverRow.holds Try.pinned (OpenSpec.ofChange tableOverSpec)

/-- ITS FALSE NEIGHBOUR: 'it returns false'. Refute it at one input. -/
def tableOverWrong : ChangeSpec := { name := "tableOver", fn := fun _ => fun
  | [d1, d2] => { results := [.lit (.bool false)], args := [d1, d2] }
  | _ => none }
def TableOverWrongFalsely : Prop := tableOverRow.holds Try.pinned (OpenSpec.ofChange tableOverWrong)

/-- 'ancepslaw38.TableProject': WHATEVER THE INPUT: true; the input reads as it did. -/
def tableProjectSpec : ChangeSpec := { name := "tableProject", fn := fun _ => fun
  | [d1, d2, d3] => { results := [.lit (.bool true)], args := [d1, d2, d3] }
  | _ => none }
def tableProjectRow : OpenClaim := { program := "ythcfmdkhkikbcaa", sum := "f6e16d9c0a213bc679b287ccd3f75dca64c82e004b3162bcd6adb404f724e7b0", func := "anceps/ancepslaw38.TableProject", spec := "tableProject", unfollowed := true, recurses := true, apart := false }
def TableProjectSaid : Prop := tableProjectRow.holds Try.pinned (OpenSpec.ofChange tableProjectSpec)

/-- ITS FALSE NEIGHBOUR: 'it returns false'. Refute it at one input. -/
def tableProjectWrong : ChangeSpec := { name := "tableProject", fn := fun _ => fun
  | [d1, d2, d3] => { results := [.lit (.bool false)], args := [d1, d2, d3] }
  | _ => none }
def TableProjectWrongFalsely : Prop := tableProjectRow.holds Try.pinned (OpenSpec.ofChange tableProjectWrong)

/- THE SECOND FORM. 'bulk': how many values and letters a reading holds, each counted each time it is reached (what is shared counts as often as it is met; a slice's spare places count too). A statement '..UptoSaid' is the law's where the arguments, and the package variables that the reading takes, are together of bulk at most 1048576: NARROWER than '..Said'. Prove '..Said' where nothing that the law and all that it calls make is longer than what came in: it says more and counts as full. Else prove '..UptoSaid'. A law counts once. -/
mutual
def uptoBulk {H : Type} : DataW H → Nat
  | .lit (.string bytes) => bytes.length + 1
  | .lit _ => 1
  | .nil => 1
  | .ptr d => uptoBulk d + 1
  | .slice elems spare => uptoBulkAll elems + uptoBulkAll spare + 1
  | .agg parts => uptoBulkAll parts + 1
  | .iface _ d => uptoBulk d + 1
  | .map entries => uptoBulkEntries entries + 1
  | .held _ => 1
def uptoBulkAll {H : Type} : List (DataW H) → Nat
  | [] => 0
  | d :: r => uptoBulk d + uptoBulkAll r
def uptoBulkEntries {H : Type} : List (Lit × DataW H) → Nat
  | [] => 0
  | x :: r => uptoBulkEntry x + uptoBulkEntries r
def uptoBulkEntry {H : Type} : Lit × DataW H → Nat
  | (.string bytes, d) => bytes.length + uptoBulk d + 1
  | (_, d) => uptoBulk d + 1
 end
def uptoSmall : (H : Type) → List (DataW H) → Bool := fun _ ds => decide (uptoBulkAll ds ≤ 1048576)
def OpenSpec.upto (s : _root_.Go.ChangeSpec) : _root_.Go.OpenSpec := { _root_.Go.OpenSpec.ofChange s with cond := some uptoSmall }

/-- 'ancepslaw38.TableAlgebra', WHERE WHAT IT READS IS OF BULK AT MOST 1048576: true; the input reads as it did. -/
def tableAlgebraUptoRow : OpenClaim := { program := "ythcfmdkhkikbcaa", sum := "f6e16d9c0a213bc679b287ccd3f75dca64c82e004b3162bcd6adb404f724e7b0", func := "anceps/ancepslaw38.TableAlgebra", spec := "tableAlgebra", unfollowed := true, recurses := true, apart := false, narrowed := true }
def TableAlgebraUptoSaid : Prop := tableAlgebraUptoRow.holds Try.pinned (OpenSpec.upto tableAlgebraSpec)

/-- 'ancepslaw38.TableValid', WHERE WHAT IT READS IS OF BULK AT MOST 1048576: true; the input reads as it did. -/
def tableValidUptoRow : OpenClaim := { program := "ythcfmdkhkikbcaa", sum := "f6e16d9c0a213bc679b287ccd3f75dca64c82e004b3162bcd6adb404f724e7b0", func := "anceps/ancepslaw38.TableValid", spec := "tableValid", unfollowed := true, recurses := true, apart := false, narrowed := true }
def TableValidUptoSaid : Prop := tableValidUptoRow.holds Try.pinned (OpenSpec.upto tableValidSpec)

/-- 'ancepslaw38.TableMeaning', WHERE WHAT IT READS IS OF BULK AT MOST 1048576: true; the input reads as it did. -/
def tableMeaningUptoRow : OpenClaim := { program := "ythcfmdkhkikbcaa", sum := "f6e16d9c0a213bc679b287ccd3f75dca64c82e004b3162bcd6adb404f724e7b0", func := "anceps/ancepslaw38.TableMeaning", spec := "tableMeaning", unfollowed := true, recurses := true, apart := false, narrowed := true }
def TableMeaningUptoSaid : Prop := tableMeaningUptoRow.holds Try.pinned (OpenSpec.upto tableMeaningSpec)

/-- 'ancepslaw38.TableTwo', WHERE WHAT IT READS IS OF BULK AT MOST 1048576: true; the input reads as it did. -/
def tableTwoUptoRow : OpenClaim := { program := "ythcfmdkhkikbcaa", sum := "f6e16d9c0a213bc679b287ccd3f75dca64c82e004b3162bcd6adb404f724e7b0", func := "anceps/ancepslaw38.TableTwo", spec := "tableTwo", unfollowed := true, recurses := true, apart := false, narrowed := true }
def TableTwoUptoSaid : Prop := tableTwoUptoRow.holds Try.pinned (OpenSpec.upto tableTwoSpec)

/-- 'ancepslaw38.TableRestrict', WHERE WHAT IT READS IS OF BULK AT MOST 1048576: true; the input reads as it did. -/
def tableRestrictUptoRow : OpenClaim := { program := "ythcfmdkhkikbcaa", sum := "f6e16d9c0a213bc679b287ccd3f75dca64c82e004b3162bcd6adb404f724e7b0", func := "anceps/ancepslaw38.TableRestrict", spec := "tableRestrict", unfollowed := true, recurses := true, apart := false, narrowed := true }
def TableRestrictUptoSaid : Prop := tableRestrictUptoRow.holds Try.pinned (OpenSpec.upto tableRestrictSpec)

/-- 'ancepslaw38.TableVital', WHERE WHAT IT READS IS OF BULK AT MOST 1048576: true; the input reads as it did. -/
def tableVitalUptoRow : OpenClaim := { program := "ythcfmdkhkikbcaa", sum := "f6e16d9c0a213bc679b287ccd3f75dca64c82e004b3162bcd6adb404f724e7b0", func := "anceps/ancepslaw38.TableVital", spec := "tableVital", unfollowed := true, recurses := true, apart := false, narrowed := true }
def TableVitalUptoSaid : Prop := tableVitalUptoRow.holds Try.pinned (OpenSpec.upto tableVitalSpec)

/-- 'ancepslaw38.TableDivided', WHERE WHAT IT READS IS OF BULK AT MOST 1048576: true; the input reads as it did. -/
def tableDividedUptoRow : OpenClaim := { program := "ythcfmdkhkikbcaa", sum := "f6e16d9c0a213bc679b287ccd3f75dca64c82e004b3162bcd6adb404f724e7b0", func := "anceps/ancepslaw38.TableDivided", spec := "tableDivided", unfollowed := true, recurses := true, apart := false, narrowed := true }
def TableDividedUptoSaid : Prop := tableDividedUptoRow.holds Try.pinned (OpenSpec.upto tableDividedSpec)

/-- 'ancepslaw38.TableOver', WHERE WHAT IT READS IS OF BULK AT MOST 1048576: true; the input reads as it did. -/
def tableOverUptoRow : OpenClaim := { program := "ythcfmdkhkikbcaa", sum := "f6e16d9c0a213bc679b287ccd3f75dca64c82e004b3162bcd6adb404f724e7b0", func := "anceps/ancepslaw38.TableOver", spec := "tableOver", unfollowed := true, recurses := true, apart := false, narrowed := true }
def TableOverUptoSaid : Prop := tableOverUptoRow.holds Try.pinned (OpenSpec.upto tableOverSpec)

/-- 'ancepslaw38.TableProject', WHERE WHAT IT READS IS OF BULK AT MOST 1048576: true; the input reads as it did. -/
def tableProjectUptoRow : OpenClaim := { program := "ythcfmdkhkikbcaa", sum := "f6e16d9c0a213bc679b287ccd3f75dca64c82e004b3162bcd6adb404f724e7b0", func := "anceps/ancepslaw38.TableProject", spec := "tableProject", unfollowed := true, recurses := true, apart := false, narrowed := true }
def TableProjectUptoSaid : Prop := tableProjectUptoRow.holds Try.pinned (OpenSpec.upto tableProjectSpec)

end Rows
end Go.Proofs.Ythcfmdkhkikbcaa
