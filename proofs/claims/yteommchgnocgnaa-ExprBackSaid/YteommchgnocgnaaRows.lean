/-
  No cell of these rows narrows 'for every input' (looked for: loops, veiled, ifaces, maps, wideKeys, modest, calm, conditions, laid).
  DERIVED. THE GIVEN ROWS OF THIS SEAT. 10 by the template 'for every input the law returns true; each argument reads behind the call as it read before'; 0 by the template 'total and deterministic' (their statements: YteommchgnocgnaaTotals.lean).
  GIVEN WITH THE SEED: the statements are not yours to turn. If you find one false, say at which input.
  Laid BY PROGRAM, IN A SANDBOX (cutbox-rows.mjs): the forced cells as the released guide's own fill.sh prints them over the translation cf1c079f04169d64… (all of the seat's roots in one cut). By AI agents, Wed Nov 11 2026. No macro, syntax, notation, axiom, sorry.
-/
import Derived.Test.YteommchgnocgnaaChecked
import GoSem.Claim
import GoSem.ClaimJoined
import GoSem.ClaimMapViews
import Derived.JoinedTies
import Derived.KernelRfl
namespace Go.Proofs.Yteommchgnocgnaa
/- THE CELL 'sum', in the pinned program and in every row, IS THE sha256 OF THE DUMP (.gsa) THAT YteommchgnocgnaaProg.lean LOADS. Nothing in Lean hashes anything: it is a label: what it is worth is what the hold of that sum in a sandbox is worth. -/
noncomputable def Try.pinned : Pinned := { name := "yteommchgnocgnaa", sum := "cf1c079f04169d646e3a62df202aca7d608d62dbc2c0c24bcfad99be0c51abd5", checked := Try.checked }
namespace Rows
def none {H : Type} : Left H := { results := [], args := [] }

/-- 'towncrierlaw08.ExprTells': WHATEVER THE INPUT: true; the input reads as it did. -/
def exprTellsSpec : ChangeSpec := { name := "exprTells", fn := fun _ => fun
  | [d1, d2, d3, d4, d5] => { results := [.lit (.bool true)], args := [d1, d2, d3, d4, d5] }
  | _ => none }
def exprTellsRow : OpenClaim := { program := "yteommchgnocgnaa", sum := "cf1c079f04169d646e3a62df202aca7d608d62dbc2c0c24bcfad99be0c51abd5", func := "towncrier/towncrierlaw08.ExprTells", spec := "exprTells", unfollowed := true, recurses := true, apart := false }
def ExprTellsSaid : Prop := exprTellsRow.holds Try.pinned (OpenSpec.ofChange exprTellsSpec)

/-- ITS FALSE NEIGHBOUR: 'it returns false'. Refute it at one input. -/
def exprTellsWrong : ChangeSpec := { name := "exprTells", fn := fun _ => fun
  | [d1, d2, d3, d4, d5] => { results := [.lit (.bool false)], args := [d1, d2, d3, d4, d5] }
  | _ => none }
def ExprTellsWrongFalsely : Prop := exprTellsRow.holds Try.pinned (OpenSpec.ofChange exprTellsWrong)

/-- 'towncrierlaw08.ExprBack': WHATEVER THE INPUT: true; the input reads as it did. -/
def exprBackSpec : ChangeSpec := { name := "exprBack", fn := fun _ => fun
  | [d1, d2] => { results := [.lit (.bool true)], args := [d1, d2] }
  | _ => none }
def exprBackRow : OpenClaim := { program := "yteommchgnocgnaa", sum := "cf1c079f04169d646e3a62df202aca7d608d62dbc2c0c24bcfad99be0c51abd5", func := "towncrier/towncrierlaw08.ExprBack", spec := "exprBack", unfollowed := true, recurses := true, apart := false }
def ExprBackSaid : Prop := exprBackRow.holds Try.pinned (OpenSpec.ofChange exprBackSpec)

/-- ITS FALSE NEIGHBOUR: 'it returns false'. Refute it at one input. -/
def exprBackWrong : ChangeSpec := { name := "exprBack", fn := fun _ => fun
  | [d1, d2] => { results := [.lit (.bool false)], args := [d1, d2] }
  | _ => none }
def ExprBackWrongFalsely : Prop := exprBackRow.holds Try.pinned (OpenSpec.ofChange exprBackWrong)

/-- 'towncrierlaw08.ExprSums': WHATEVER THE INPUT: true; the input reads as it did. -/
def exprSumsSpec : ChangeSpec := { name := "exprSums", fn := fun _ => fun
  | [d1, d2, d3] => { results := [.lit (.bool true)], args := [d1, d2, d3] }
  | _ => none }
def exprSumsRow : OpenClaim := { program := "yteommchgnocgnaa", sum := "cf1c079f04169d646e3a62df202aca7d608d62dbc2c0c24bcfad99be0c51abd5", func := "towncrier/towncrierlaw08.ExprSums", spec := "exprSums", unfollowed := true, recurses := true, apart := false }
def ExprSumsSaid : Prop := exprSumsRow.holds Try.pinned (OpenSpec.ofChange exprSumsSpec)

/-- ITS FALSE NEIGHBOUR: 'it returns false'. Refute it at one input. -/
def exprSumsWrong : ChangeSpec := { name := "exprSums", fn := fun _ => fun
  | [d1, d2, d3] => { results := [.lit (.bool false)], args := [d1, d2, d3] }
  | _ => none }
def ExprSumsWrongFalsely : Prop := exprSumsRow.holds Try.pinned (OpenSpec.ofChange exprSumsWrong)

/-- 'towncrierlaw08.ExprNot': WHATEVER THE INPUT: true; the input reads as it did. -/
def exprNotSpec : ChangeSpec := { name := "exprNot", fn := fun _ => fun
  | [d1, d2, d3] => { results := [.lit (.bool true)], args := [d1, d2, d3] }
  | _ => none }
def exprNotRow : OpenClaim := { program := "yteommchgnocgnaa", sum := "cf1c079f04169d646e3a62df202aca7d608d62dbc2c0c24bcfad99be0c51abd5", func := "towncrier/towncrierlaw08.ExprNot", spec := "exprNot", unfollowed := true, recurses := true, apart := false }
def ExprNotSaid : Prop := exprNotRow.holds Try.pinned (OpenSpec.ofChange exprNotSpec)

/-- ITS FALSE NEIGHBOUR: 'it returns false'. Refute it at one input. -/
def exprNotWrong : ChangeSpec := { name := "exprNot", fn := fun _ => fun
  | [d1, d2, d3] => { results := [.lit (.bool false)], args := [d1, d2, d3] }
  | _ => none }
def ExprNotWrongFalsely : Prop := exprNotRow.holds Try.pinned (OpenSpec.ofChange exprNotWrong)

/-- 'towncrierlaw08.ExprLess': WHATEVER THE INPUT: true; the input reads as it did. -/
def exprLessSpec : ChangeSpec := { name := "exprLess", fn := fun _ => fun
  | [d1, d2] => { results := [.lit (.bool true)], args := [d1, d2] }
  | _ => none }
def exprLessRow : OpenClaim := { program := "yteommchgnocgnaa", sum := "cf1c079f04169d646e3a62df202aca7d608d62dbc2c0c24bcfad99be0c51abd5", func := "towncrier/towncrierlaw08.ExprLess", spec := "exprLess", unfollowed := true, recurses := true, apart := false }
def ExprLessSaid : Prop := exprLessRow.holds Try.pinned (OpenSpec.ofChange exprLessSpec)

/-- ITS FALSE NEIGHBOUR: 'it returns false'. Refute it at one input. -/
def exprLessWrong : ChangeSpec := { name := "exprLess", fn := fun _ => fun
  | [d1, d2] => { results := [.lit (.bool false)], args := [d1, d2] }
  | _ => none }
def ExprLessWrongFalsely : Prop := exprLessRow.holds Try.pinned (OpenSpec.ofChange exprLessWrong)

/-- 'towncrierlaw08.ExprLoads': WHATEVER THE INPUT: true; the input reads as it did. -/
def exprLoadsSpec : ChangeSpec := { name := "exprLoads", fn := fun _ => fun
  | [d1, d2] => { results := [.lit (.bool true)], args := [d1, d2] }
  | _ => none }
def exprLoadsRow : OpenClaim := { program := "yteommchgnocgnaa", sum := "cf1c079f04169d646e3a62df202aca7d608d62dbc2c0c24bcfad99be0c51abd5", func := "towncrier/towncrierlaw08.ExprLoads", spec := "exprLoads", unfollowed := true, recurses := true, apart := false }
def ExprLoadsSaid : Prop := exprLoadsRow.holds Try.pinned (OpenSpec.ofChange exprLoadsSpec)

/-- ITS FALSE NEIGHBOUR: 'it returns false'. Refute it at one input. -/
def exprLoadsWrong : ChangeSpec := { name := "exprLoads", fn := fun _ => fun
  | [d1, d2] => { results := [.lit (.bool false)], args := [d1, d2] }
  | _ => none }
def ExprLoadsWrongFalsely : Prop := exprLoadsRow.holds Try.pinned (OpenSpec.ofChange exprLoadsWrong)

/-- 'towncrierlaw08.ExprForm': WHATEVER THE INPUT: true; the input reads as it did. -/
def exprFormSpec : ChangeSpec := { name := "exprForm", fn := fun _ => fun
  | [d1, d2, d3] => { results := [.lit (.bool true)], args := [d1, d2, d3] }
  | _ => none }
def exprFormRow : OpenClaim := { program := "yteommchgnocgnaa", sum := "cf1c079f04169d646e3a62df202aca7d608d62dbc2c0c24bcfad99be0c51abd5", func := "towncrier/towncrierlaw08.ExprForm", spec := "exprForm", unfollowed := true, recurses := true, apart := false }
def ExprFormSaid : Prop := exprFormRow.holds Try.pinned (OpenSpec.ofChange exprFormSpec)

/-- ITS FALSE NEIGHBOUR: 'it returns false'. Refute it at one input. -/
def exprFormWrong : ChangeSpec := { name := "exprForm", fn := fun _ => fun
  | [d1, d2, d3] => { results := [.lit (.bool false)], args := [d1, d2, d3] }
  | _ => none }
def ExprFormWrongFalsely : Prop := exprFormRow.holds Try.pinned (OpenSpec.ofChange exprFormWrong)

/-- 'towncrierlaw08.ExprKinds': WHATEVER THE INPUT: true; the input reads as it did. -/
def exprKindsSpec : ChangeSpec := { name := "exprKinds", fn := fun _ => fun
  | [d1, d2, d3] => { results := [.lit (.bool true)], args := [d1, d2, d3] }
  | _ => none }
def exprKindsRow : OpenClaim := { program := "yteommchgnocgnaa", sum := "cf1c079f04169d646e3a62df202aca7d608d62dbc2c0c24bcfad99be0c51abd5", func := "towncrier/towncrierlaw08.ExprKinds", spec := "exprKinds", unfollowed := true, recurses := true, apart := false }
def ExprKindsSaid : Prop := exprKindsRow.holds Try.pinned (OpenSpec.ofChange exprKindsSpec)

/-- ITS FALSE NEIGHBOUR: 'it returns false'. Refute it at one input. -/
def exprKindsWrong : ChangeSpec := { name := "exprKinds", fn := fun _ => fun
  | [d1, d2, d3] => { results := [.lit (.bool false)], args := [d1, d2, d3] }
  | _ => none }
def ExprKindsWrongFalsely : Prop := exprKindsRow.holds Try.pinned (OpenSpec.ofChange exprKindsWrong)

/-- 'towncrierlaw09.QueryBack': WHATEVER THE INPUT: true; the input reads as it did. -/
def queryBackSpec : ChangeSpec := { name := "queryBack", fn := fun _ => fun
  | [d1, d2] => { results := [.lit (.bool true)], args := [d1, d2] }
  | _ => none }
def queryBackRow : OpenClaim := { program := "yteommchgnocgnaa", sum := "cf1c079f04169d646e3a62df202aca7d608d62dbc2c0c24bcfad99be0c51abd5", func := "towncrier/towncrierlaw09.QueryBack", spec := "queryBack", unfollowed := true, recurses := true, apart := false }
def QueryBackSaid : Prop := queryBackRow.holds Try.pinned (OpenSpec.ofChange queryBackSpec)

/-- ITS FALSE NEIGHBOUR: 'it returns false'. Refute it at one input. -/
def queryBackWrong : ChangeSpec := { name := "queryBack", fn := fun _ => fun
  | [d1, d2] => { results := [.lit (.bool false)], args := [d1, d2] }
  | _ => none }
def QueryBackWrongFalsely : Prop := queryBackRow.holds Try.pinned (OpenSpec.ofChange queryBackWrong)

/-- 'towncrierlaw09.QueryNames': WHATEVER THE INPUT: true; the input reads as it did. -/
def queryNamesSpec : ChangeSpec := { name := "queryNames", fn := fun _ => fun
  | [d1, d2] => { results := [.lit (.bool true)], args := [d1, d2] }
  | _ => none }
def queryNamesRow : OpenClaim := { program := "yteommchgnocgnaa", sum := "cf1c079f04169d646e3a62df202aca7d608d62dbc2c0c24bcfad99be0c51abd5", func := "towncrier/towncrierlaw09.QueryNames", spec := "queryNames", unfollowed := true, recurses := true, apart := false }
def QueryNamesSaid : Prop := queryNamesRow.holds Try.pinned (OpenSpec.ofChange queryNamesSpec)

/-- ITS FALSE NEIGHBOUR: 'it returns false'. Refute it at one input. -/
def queryNamesWrong : ChangeSpec := { name := "queryNames", fn := fun _ => fun
  | [d1, d2] => { results := [.lit (.bool false)], args := [d1, d2] }
  | _ => none }
def QueryNamesWrongFalsely : Prop := queryNamesRow.holds Try.pinned (OpenSpec.ofChange queryNamesWrong)

/- THE SECOND FORM. 'bulk': how many values and letters a reading holds, each counted each time it is reached (what is shared counts as often as it is met; a slice's spare places count too). A statement '..UptoSaid' is the law's where the arguments, and the package variables that the reading takes, are together of bulk at most 1048576: NARROWER than '..Said'. Prove '..Said' where nothing that the law and all that it calls make is longer than what came in: it says more and counts as full. Else prove '..UptoSaid'. A law counts once. -/
mutual
def uptoBulk {H : Type} : DataW H → Nat
  | .lit (.string bytes) => bytes.length + 1
  | .lit _ => 1
  | .nil => 1
  | .ptr d => uptoBulk d + 1
  | .slice elems spare => uptoBulkAll elems + uptoBulkAll spare + 1
  | .agg parts => uptoBulkAll parts + 1
  | .iface _ d => uptoBulk d + 1
  | .map entries => uptoBulkEntries entries + 1
  | .held _ => 1
def uptoBulkAll {H : Type} : List (DataW H) → Nat
  | [] => 0
  | d :: r => uptoBulk d + uptoBulkAll r
def uptoBulkEntries {H : Type} : List (Lit × DataW H) → Nat
  | [] => 0
  | x :: r => uptoBulkEntry x + uptoBulkEntries r
def uptoBulkEntry {H : Type} : Lit × DataW H → Nat
  | (.string bytes, d) => bytes.length + uptoBulk d + 1
  | (_, d) => uptoBulk d + 1
 end
def uptoSmall : (H : Type) → List (DataW H) → Bool := fun _ ds => decide (uptoBulkAll ds ≤ 1048576)
def OpenSpec.upto (s : _root_.Go.ChangeSpec) : _root_.Go.OpenSpec := { _root_.Go.OpenSpec.ofChange s with cond := some uptoSmall }

/-- 'towncrierlaw08.ExprTells', WHERE WHAT IT READS IS OF BULK AT MOST 1048576: true; the input reads as it did. -/
def exprTellsUptoRow : OpenClaim := { program := "yteommchgnocgnaa", sum := "cf1c079f04169d646e3a62df202aca7d608d62dbc2c0c24bcfad99be0c51abd5", func := "towncrier/towncrierlaw08.ExprTells", spec := "exprTells", unfollowed := true, recurses := true, apart := false, narrowed := true }
def ExprTellsUptoSaid : Prop := exprTellsUptoRow.holds Try.pinned (OpenSpec.upto exprTellsSpec)

/-- 'towncrierlaw08.ExprBack', WHERE WHAT IT READS IS OF BULK AT MOST 1048576: true; the input reads as it did. -/
def exprBackUptoRow : OpenClaim := { program := "yteommchgnocgnaa", sum := "cf1c079f04169d646e3a62df202aca7d608d62dbc2c0c24bcfad99be0c51abd5", func := "towncrier/towncrierlaw08.ExprBack", spec := "exprBack", unfollowed := true, recurses := true, apart := false, narrowed := true }
def ExprBackUptoSaid : Prop := exprBackUptoRow.holds Try.pinned (OpenSpec.upto exprBackSpec)

/-- 'towncrierlaw08.ExprSums', WHERE WHAT IT READS IS OF BULK AT MOST 1048576: true; the input reads as it did. -/
def exprSumsUptoRow : OpenClaim := { program := "yteommchgnocgnaa", sum := "cf1c079f04169d646e3a62df202aca7d608d62dbc2c0c24bcfad99be0c51abd5", func := "towncrier/towncrierlaw08.ExprSums", spec := "exprSums", unfollowed := true, recurses := true, apart := false, narrowed := true }
def ExprSumsUptoSaid : Prop := exprSumsUptoRow.holds Try.pinned (OpenSpec.upto exprSumsSpec)

/-- 'towncrierlaw08.ExprNot', WHERE WHAT IT READS IS OF BULK AT MOST 1048576: true; the input reads as it did. -/
def exprNotUptoRow : OpenClaim := { program := "yteommchgnocgnaa", sum := "cf1c079f04169d646e3a62df202aca7d608d62dbc2c0c24bcfad99be0c51abd5", func := "towncrier/towncrierlaw08.ExprNot", spec := "exprNot", unfollowed := true, recurses := true, apart := false, narrowed := true }
def ExprNotUptoSaid : Prop := exprNotUptoRow.holds Try.pinned (OpenSpec.upto exprNotSpec)

/-- 'towncrierlaw08.ExprLess', WHERE WHAT IT READS IS OF BULK AT MOST 1048576: true; the input reads as it did. -/
def exprLessUptoRow : OpenClaim := { program := "yteommchgnocgnaa", sum := "cf1c079f04169d646e3a62df202aca7d608d62dbc2c0c24bcfad99be0c51abd5", func := "towncrier/towncrierlaw08.ExprLess", spec := "exprLess", unfollowed := true, recurses := true, apart := false, narrowed := true }
def ExprLessUptoSaid : Prop := exprLessUptoRow.holds Try.pinned (OpenSpec.upto exprLessSpec)

/-- 'towncrierlaw08.ExprLoads', WHERE WHAT IT READS IS OF BULK AT MOST 1048576: true; the input reads as it did. -/
def exprLoadsUptoRow : OpenClaim := { program := "yteommchgnocgnaa", sum := "cf1c079f04169d646e3a62df202aca7d608d62dbc2c0c24bcfad99be0c51abd5", func := "towncrier/towncrierlaw08.ExprLoads", spec := "exprLoads", unfollowed := true, recurses := true, apart := false, narrowed := true }
def ExprLoadsUptoSaid : Prop := exprLoadsUptoRow.holds Try.pinned (OpenSpec.upto exprLoadsSpec)

/-- 'towncrierlaw08.ExprForm', WHERE WHAT IT READS IS OF BULK AT MOST 1048576: true; the input reads as it did. -/
def exprFormUptoRow : OpenClaim := { program := "yteommchgnocgnaa", sum := "cf1c079f04169d646e3a62df202aca7d608d62dbc2c0c24bcfad99be0c51abd5", func := "towncrier/towncrierlaw08.ExprForm", spec := "exprForm", unfollowed := true, recurses := true, apart := false, narrowed := true }
def ExprFormUptoSaid : Prop := exprFormUptoRow.holds Try.pinned (OpenSpec.upto exprFormSpec)

/-- 'towncrierlaw08.ExprKinds', WHERE WHAT IT READS IS OF BULK AT MOST 1048576: true; the input reads as it did. -/
def exprKindsUptoRow : OpenClaim := { program := "yteommchgnocgnaa", sum := "cf1c079f04169d646e3a62df202aca7d608d62dbc2c0c24bcfad99be0c51abd5", func := "towncrier/towncrierlaw08.ExprKinds", spec := "exprKinds", unfollowed := true, recurses := true, apart := false, narrowed := true }
def ExprKindsUptoSaid : Prop := exprKindsUptoRow.holds Try.pinned (OpenSpec.upto exprKindsSpec)

/-- 'towncrierlaw09.QueryBack', WHERE WHAT IT READS IS OF BULK AT MOST 1048576: true; the input reads as it did. -/
def queryBackUptoRow : OpenClaim := { program := "yteommchgnocgnaa", sum := "cf1c079f04169d646e3a62df202aca7d608d62dbc2c0c24bcfad99be0c51abd5", func := "towncrier/towncrierlaw09.QueryBack", spec := "queryBack", unfollowed := true, recurses := true, apart := false, narrowed := true }
def QueryBackUptoSaid : Prop := queryBackUptoRow.holds Try.pinned (OpenSpec.upto queryBackSpec)

/-- 'towncrierlaw09.QueryNames', WHERE WHAT IT READS IS OF BULK AT MOST 1048576: true; the input reads as it did. -/
def queryNamesUptoRow : OpenClaim := { program := "yteommchgnocgnaa", sum := "cf1c079f04169d646e3a62df202aca7d608d62dbc2c0c24bcfad99be0c51abd5", func := "towncrier/towncrierlaw09.QueryNames", spec := "queryNames", unfollowed := true, recurses := true, apart := false, narrowed := true }
def QueryNamesUptoSaid : Prop := queryNamesUptoRow.holds Try.pinned (OpenSpec.upto queryNamesSpec)

end Rows
end Go.Proofs.Yteommchgnocgnaa
