/-
  NARROWER THAN 'FOR EVERY INPUT', by the rows' own cells (each row's printed sentence says how): ExprValid: loops · ExprLengths: loops · ExprReverse: loops.
  DERIVED. THE GIVEN ROWS OF THIS SEAT. 4 by the template 'for every input the law returns true; each argument reads behind the call as it read before'; 0 by the template 'total and deterministic' (their statements: YtpojokndmkhpkaaTotals.lean).
  GIVEN WITH THE SEED: the statements are not yours to turn. If you find one false, say at which input.
  Laid BY PROGRAM, IN A SANDBOX (cutbox-rows.mjs): the forced cells as the released guide's own fill.sh prints them over the translation 7f5f9b055cfc844a… (all of the seat's roots in one cut). By AI agents, Wed Nov 11 2026. No macro, syntax, notation, axiom, sorry.
-/
import Derived.Test.YtpojokndmkhpkaaChecked
import GoSem.Claim
import GoSem.ClaimJoined
import GoSem.ClaimMapViews
import Derived.JoinedTies
import Derived.KernelRfl
namespace Go.Proofs.Ytpojokndmkhpkaa
/- THE CELL 'sum', in the pinned program and in every row, IS THE sha256 OF THE DUMP (.gsa) THAT YtpojokndmkhpkaaProg.lean LOADS. Nothing in Lean hashes anything: it is a label: what it is worth is what the hold of that sum in a sandbox is worth. -/
noncomputable def Try.pinned : Pinned := { name := "ytpojokndmkhpkaa", sum := "7f5f9b055cfc844a7b45ed88b1ce455e5ea67cd1880bc1e66b954b9121ad5656", checked := Try.checked }
namespace Rows
def none {H : Type} : Left H := { results := [], args := [] }

/-- 'ancepslaw08.ExprValid': WHATEVER THE INPUT: true; the input reads as it did. -/
def exprValidSpec : ChangeSpec := { name := "exprValid", fn := fun _ => fun
  | [d] => { results := [.lit (.bool true)], args := [d] }
  | _ => none }
def exprValidRow : OpenClaim := { program := "ytpojokndmkhpkaa", sum := "7f5f9b055cfc844a7b45ed88b1ce455e5ea67cd1880bc1e66b954b9121ad5656", func := "anceps/ancepslaw08.ExprValid", spec := "exprValid", unfollowed := true, recurses := true, loops := true, plainKeys := false, apart := false }
def ExprValidSaid : Prop := exprValidRow.holds Try.pinned (OpenSpec.ofChange exprValidSpec)

/-- ITS FALSE NEIGHBOUR: 'it returns false'. Refute it at one input. -/
def exprValidWrong : ChangeSpec := { name := "exprValid", fn := fun _ => fun
  | [d] => { results := [.lit (.bool false)], args := [d] }
  | _ => none }
def ExprValidWrongFalsely : Prop := exprValidRow.holds Try.pinned (OpenSpec.ofChange exprValidWrong)

/-- 'ancepslaw08.ExprParse': WHATEVER THE INPUT: true; the input reads as it did. -/
def exprParseSpec : ChangeSpec := { name := "exprParse", fn := fun _ => fun
  | [d] => { results := [.lit (.bool true)], args := [d] }
  | _ => none }
def exprParseRow : OpenClaim := { program := "ytpojokndmkhpkaa", sum := "7f5f9b055cfc844a7b45ed88b1ce455e5ea67cd1880bc1e66b954b9121ad5656", func := "anceps/ancepslaw08.ExprParse", spec := "exprParse", unfollowed := true, recurses := true, plainKeys := false, apart := false }
def ExprParseSaid : Prop := exprParseRow.holds Try.pinned (OpenSpec.ofChange exprParseSpec)

/-- ITS FALSE NEIGHBOUR: 'it returns false'. Refute it at one input. -/
def exprParseWrong : ChangeSpec := { name := "exprParse", fn := fun _ => fun
  | [d] => { results := [.lit (.bool false)], args := [d] }
  | _ => none }
def ExprParseWrongFalsely : Prop := exprParseRow.holds Try.pinned (OpenSpec.ofChange exprParseWrong)

/-- 'ancepslaw08.ExprLengths': WHATEVER THE INPUT: true; the input reads as it did. -/
def exprLengthsSpec : ChangeSpec := { name := "exprLengths", fn := fun _ => fun
  | [d] => { results := [.lit (.bool true)], args := [d] }
  | _ => none }
def exprLengthsRow : OpenClaim := { program := "ytpojokndmkhpkaa", sum := "7f5f9b055cfc844a7b45ed88b1ce455e5ea67cd1880bc1e66b954b9121ad5656", func := "anceps/ancepslaw08.ExprLengths", spec := "exprLengths", unfollowed := true, recurses := true, loops := true, plainKeys := false, apart := false }
def ExprLengthsSaid : Prop := exprLengthsRow.holds Try.pinned (OpenSpec.ofChange exprLengthsSpec)

/-- ITS FALSE NEIGHBOUR: 'it returns false'. Refute it at one input. -/
def exprLengthsWrong : ChangeSpec := { name := "exprLengths", fn := fun _ => fun
  | [d] => { results := [.lit (.bool false)], args := [d] }
  | _ => none }
def ExprLengthsWrongFalsely : Prop := exprLengthsRow.holds Try.pinned (OpenSpec.ofChange exprLengthsWrong)

/-- 'ancepslaw08.ExprReverse': WHATEVER THE INPUT: true; the input reads as it did. -/
def exprReverseSpec : ChangeSpec := { name := "exprReverse", fn := fun _ => fun
  | [d1, d2] => { results := [.lit (.bool true)], args := [d1, d2] }
  | _ => none }
def exprReverseRow : OpenClaim := { program := "ytpojokndmkhpkaa", sum := "7f5f9b055cfc844a7b45ed88b1ce455e5ea67cd1880bc1e66b954b9121ad5656", func := "anceps/ancepslaw08.ExprReverse", spec := "exprReverse", unfollowed := true, recurses := true, loops := true, plainKeys := false, apart := false }
def ExprReverseSaid : Prop := exprReverseRow.holds Try.pinned (OpenSpec.ofChange exprReverseSpec)

/-- ITS FALSE NEIGHBOUR: 'it returns false'. Refute it at one input. -/
def exprReverseWrong : ChangeSpec := { name := "exprReverse", fn := fun _ => fun
  | [d1, d2] => { results := [.lit (.bool false)], args := [d1, d2] }
  | _ => none }
def ExprReverseWrongFalsely : Prop := exprReverseRow.holds Try.pinned (OpenSpec.ofChange exprReverseWrong)

/- THE SECOND FORM. 'bulk': how many values and letters a reading holds, each counted each time it is reached (what is shared counts as often as it is met; a slice's spare places count too). A statement '..UptoSaid' is the law's where the arguments, and the package variables that the reading takes, are together of bulk at most 1048576: NARROWER than '..Said'. Prove '..Said' where nothing that the law and all that it calls make is longer than what came in: it says more and counts as full. Else prove '..UptoSaid'. A law counts once. -/
mutual
def uptoBulk {H : Type} : DataW H → Nat
  | .lit (.string bytes) => bytes.length + 1
  | .lit _ => 1
  | .nil => 1
  | .ptr d => uptoBulk d + 1
  | .slice elems spare => uptoBulkAll elems + uptoBulkAll spare + 1
  | .agg parts => uptoBulkAll parts + 1
  | .iface _ d => uptoBulk d + 1
  | .map entries => uptoBulkEntries entries + 1
  | .held _ => 1
def uptoBulkAll {H : Type} : List (DataW H) → Nat
  | [] => 0
  | d :: r => uptoBulk d + uptoBulkAll r
def uptoBulkEntries {H : Type} : List (Lit × DataW H) → Nat
  | [] => 0
  | x :: r => uptoBulkEntry x + uptoBulkEntries r
def uptoBulkEntry {H : Type} : Lit × DataW H → Nat
  | (.string bytes, d) => bytes.length + uptoBulk d + 1
  | (_, d) => uptoBulk d + 1
 end
def uptoSmall : (H : Type) → List (DataW H) → Bool := fun _ ds => decide (uptoBulkAll ds ≤ 1048576)
def OpenSpec.upto (s : _root_.Go.ChangeSpec) : _root_.Go.OpenSpec := { _root_.Go.OpenSpec.ofChange s with cond := some uptoSmall }

/-- 'ancepslaw08.ExprValid', WHERE WHAT IT READS IS OF BULK AT MOST 1048576: true; the input reads as it did. -/
def exprValidUptoRow : OpenClaim := { program := "ytpojokndmkhpkaa", sum := "7f5f9b055cfc844a7b45ed88b1ce455e5ea67cd1880bc1e66b954b9121ad5656", func := "anceps/ancepslaw08.ExprValid", spec := "exprValid", unfollowed := true, recurses := true, loops := true, plainKeys := false, apart := false, narrowed := true }
def ExprValidUptoSaid : Prop := exprValidUptoRow.holds Try.pinned (OpenSpec.upto exprValidSpec)

/-- 'ancepslaw08.ExprParse', WHERE WHAT IT READS IS OF BULK AT MOST 1048576: true; the input reads as it did. -/
def exprParseUptoRow : OpenClaim := { program := "ytpojokndmkhpkaa", sum := "7f5f9b055cfc844a7b45ed88b1ce455e5ea67cd1880bc1e66b954b9121ad5656", func := "anceps/ancepslaw08.ExprParse", spec := "exprParse", unfollowed := true, recurses := true, plainKeys := false, apart := false, narrowed := true }
def ExprParseUptoSaid : Prop := exprParseUptoRow.holds Try.pinned (OpenSpec.upto exprParseSpec)

/-- 'ancepslaw08.ExprLengths', WHERE WHAT IT READS IS OF BULK AT MOST 1048576: true; the input reads as it did. -/
def exprLengthsUptoRow : OpenClaim := { program := "ytpojokndmkhpkaa", sum := "7f5f9b055cfc844a7b45ed88b1ce455e5ea67cd1880bc1e66b954b9121ad5656", func := "anceps/ancepslaw08.ExprLengths", spec := "exprLengths", unfollowed := true, recurses := true, loops := true, plainKeys := false, apart := false, narrowed := true }
def ExprLengthsUptoSaid : Prop := exprLengthsUptoRow.holds Try.pinned (OpenSpec.upto exprLengthsSpec)

/-- 'ancepslaw08.ExprReverse', WHERE WHAT IT READS IS OF BULK AT MOST 1048576: true; the input reads as it did. -/
def exprReverseUptoRow : OpenClaim := { program := "ytpojokndmkhpkaa", sum := "7f5f9b055cfc844a7b45ed88b1ce455e5ea67cd1880bc1e66b954b9121ad5656", func := "anceps/ancepslaw08.ExprReverse", spec := "exprReverse", unfollowed := true, recurses := true, loops := true, plainKeys := false, apart := false, narrowed := true }
def ExprReverseUptoSaid : Prop := exprReverseUptoRow.holds Try.pinned (OpenSpec.upto exprReverseSpec)

end Rows
end Go.Proofs.Ytpojokndmkhpkaa
