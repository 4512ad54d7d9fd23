/-
  No cell of these rows narrows 'for every input' (looked for: loops, veiled, ifaces, maps, wideKeys, modest, calm, conditions, laid).
  DERIVED. THE GIVEN ROWS OF THIS SEAT. 4 by the template 'for every input the law returns true; each argument reads behind the call as it read before'; 0 by the template 'total and deterministic' (their statements: YtpaadeiopflfgaaTotals.lean).
  GIVEN WITH THE SEED: the statements are not yours to turn. If you find one false, say at which input.
  Laid BY PROGRAM, IN A SANDBOX (cutbox-rows.mjs): the forced cells as the released guide's own fill.sh prints them over the translation 9a0fbbfaf7c499e7… (all of the seat's roots in one cut). By AI agents, Wed Nov 11 2026. No macro, syntax, notation, axiom, sorry.
-/
import Derived.Test.YtpaadeiopflfgaaChecked
import GoSem.Claim
import GoSem.ClaimJoined
import GoSem.ClaimMapViews
import Derived.JoinedTies
import Derived.KernelRfl
namespace Go.Proofs.Ytpaadeiopflfgaa
/- THE CELL 'sum', in the pinned program and in every row, IS THE sha256 OF THE DUMP (.gsa) THAT YtpaadeiopflfgaaProg.lean LOADS. Nothing in Lean hashes anything: it is a label: what it is worth is what the hold of that sum in a sandbox is worth. -/
noncomputable def Try.pinned : Pinned := { name := "ytpaadeiopflfgaa", sum := "9a0fbbfaf7c499e7c55ea177314d8591b19a93d0523773858d56e4f175f29e0a", checked := Try.checked }
namespace Rows
def none {H : Type} : Left H := { results := [], args := [] }

/-- 'typecaselaw04.WideDecodes': WHATEVER THE INPUT: true; the input reads as it did. -/
def wideDecodesSpec : ChangeSpec := { name := "wideDecodes", fn := fun _ => fun
  | [d] => { results := [.lit (.bool true)], args := [d] }
  | _ => none }
def wideDecodesRow : OpenClaim := { program := "ytpaadeiopflfgaa", sum := "9a0fbbfaf7c499e7c55ea177314d8591b19a93d0523773858d56e4f175f29e0a", func := "typecase/typecaselaw04.WideDecodes", spec := "wideDecodes", apart := false }
def WideDecodesSaid : Prop := wideDecodesRow.holds Try.pinned (OpenSpec.ofChange wideDecodesSpec)

/-- ITS FALSE NEIGHBOUR: 'it returns false'. Refute it at one input. -/
def wideDecodesWrong : ChangeSpec := { name := "wideDecodes", fn := fun _ => fun
  | [d] => { results := [.lit (.bool false)], args := [d] }
  | _ => none }
def WideDecodesWrongFalsely : Prop := wideDecodesRow.holds Try.pinned (OpenSpec.ofChange wideDecodesWrong)

/-- 'typecaselaw04.WideNumbers': WHATEVER THE INPUT: true; the input reads as it did. -/
def wideNumbersSpec : ChangeSpec := { name := "wideNumbers", fn := fun _ => fun
  | [d] => { results := [.lit (.bool true)], args := [d] }
  | _ => none }
def wideNumbersRow : OpenClaim := { program := "ytpaadeiopflfgaa", sum := "9a0fbbfaf7c499e7c55ea177314d8591b19a93d0523773858d56e4f175f29e0a", func := "typecase/typecaselaw04.WideNumbers", spec := "wideNumbers", apart := false }
def WideNumbersSaid : Prop := wideNumbersRow.holds Try.pinned (OpenSpec.ofChange wideNumbersSpec)

/-- ITS FALSE NEIGHBOUR: 'it returns false'. Refute it at one input. -/
def wideNumbersWrong : ChangeSpec := { name := "wideNumbers", fn := fun _ => fun
  | [d] => { results := [.lit (.bool false)], args := [d] }
  | _ => none }
def WideNumbersWrongFalsely : Prop := wideNumbersRow.holds Try.pinned (OpenSpec.ofChange wideNumbersWrong)

/-- 'typecaselaw04.WideApart': WHATEVER THE INPUT: true; the input reads as it did. -/
def wideApartSpec : ChangeSpec := { name := "wideApart", fn := fun _ => fun
  | [d1, d2] => { results := [.lit (.bool true)], args := [d1, d2] }
  | _ => none }
def wideApartRow : OpenClaim := { program := "ytpaadeiopflfgaa", sum := "9a0fbbfaf7c499e7c55ea177314d8591b19a93d0523773858d56e4f175f29e0a", func := "typecase/typecaselaw04.WideApart", spec := "wideApart", apart := false }
def WideApartSaid : Prop := wideApartRow.holds Try.pinned (OpenSpec.ofChange wideApartSpec)

/-- ITS FALSE NEIGHBOUR: 'it returns false'. Refute it at one input. -/
def wideApartWrong : ChangeSpec := { name := "wideApart", fn := fun _ => fun
  | [d1, d2] => { results := [.lit (.bool false)], args := [d1, d2] }
  | _ => none }
def WideApartWrongFalsely : Prop := wideApartRow.holds Try.pinned (OpenSpec.ofChange wideApartWrong)

/-- 'typecaselaw04.WideEven': WHATEVER THE INPUT: true; the input reads as it did. -/
def wideEvenSpec : ChangeSpec := { name := "wideEven", fn := fun _ => fun
  | [d] => { results := [.lit (.bool true)], args := [d] }
  | _ => none }
def wideEvenRow : OpenClaim := { program := "ytpaadeiopflfgaa", sum := "9a0fbbfaf7c499e7c55ea177314d8591b19a93d0523773858d56e4f175f29e0a", func := "typecase/typecaselaw04.WideEven", spec := "wideEven", apart := false }
def WideEvenSaid : Prop := wideEvenRow.holds Try.pinned (OpenSpec.ofChange wideEvenSpec)

/-- ITS FALSE NEIGHBOUR: 'it returns false'. Refute it at one input. -/
def wideEvenWrong : ChangeSpec := { name := "wideEven", fn := fun _ => fun
  | [d] => { results := [.lit (.bool false)], args := [d] }
  | _ => none }
def WideEvenWrongFalsely : Prop := wideEvenRow.holds Try.pinned (OpenSpec.ofChange wideEvenWrong)

/- THE SECOND FORM. 'bulk': how many values and letters a reading holds, each counted each time it is reached (what is shared counts as often as it is met; a slice's spare places count too). A statement '..UptoSaid' is the law's where the arguments, and the package variables that the reading takes, are together of bulk at most 1048576: NARROWER than '..Said'. Prove '..Said' where nothing that the law and all that it calls make is longer than what came in: it says more and counts as full. Else prove '..UptoSaid'. A law counts once. -/
mutual
def uptoBulk {H : Type} : DataW H → Nat
  | .lit (.string bytes) => bytes.length + 1
  | .lit _ => 1
  | .nil => 1
  | .ptr d => uptoBulk d + 1
  | .slice elems spare => uptoBulkAll elems + uptoBulkAll spare + 1
  | .agg parts => uptoBulkAll parts + 1
  | .iface _ d => uptoBulk d + 1
  | .map entries => uptoBulkEntries entries + 1
  | .held _ => 1
def uptoBulkAll {H : Type} : List (DataW H) → Nat
  | [] => 0
  | d :: r => uptoBulk d + uptoBulkAll r
def uptoBulkEntries {H : Type} : List (Lit × DataW H) → Nat
  | [] => 0
  | x :: r => uptoBulkEntry x + uptoBulkEntries r
def uptoBulkEntry {H : Type} : Lit × DataW H → Nat
  | (.string bytes, d) => bytes.length + uptoBulk d + 1
  | (_, d) => uptoBulk d + 1
 end
def uptoSmall : (H : Type) → List (DataW H) → Bool := fun _ ds => decide (uptoBulkAll ds ≤ 1048576)
def OpenSpec.upto (s : _root_.Go.ChangeSpec) : _root_.Go.OpenSpec := { _root_.Go.OpenSpec.ofChange s with cond := some uptoSmall }

/-- 'typecaselaw04.WideDecodes', WHERE WHAT IT READS IS OF BULK AT MOST 1048576: true; the input reads as it did. -/
def wideDecodesUptoRow : OpenClaim := { program := "ytpaadeiopflfgaa", sum := "9a0fbbfaf7c499e7c55ea177314d8591b19a93d0523773858d56e4f175f29e0a", func := "typecase/typecaselaw04.WideDecodes", spec := "wideDecodes", apart := false, narrowed := true }
def WideDecodesUptoSaid : Prop := wideDecodesUptoRow.holds Try.pinned (OpenSpec.upto wideDecodesSpec)

/-- 'typecaselaw04.WideNumbers', WHERE WHAT IT READS IS OF BULK AT MOST 1048576: true; the input reads as it did. -/
def wideNumbersUptoRow : OpenClaim := { program := "ytpaadeiopflfgaa", sum := "9a0fbbfaf7c499e7c55ea177314d8591b19a93d0523773858d56e4f175f29e0a", func := "typecase/typecaselaw04.WideNumbers", spec := "wideNumbers", apart := false, narrowed := true }
def WideNumbersUptoSaid : Prop := wideNumbersUptoRow.holds Try.pinned (OpenSpec.upto wideNumbersSpec)

/-- 'typecaselaw04.WideApart', WHERE WHAT IT READS IS OF BULK AT MOST 1048576: true; the input reads as it did. -/
def wideApartUptoRow : OpenClaim := { program := "ytpaadeiopflfgaa", sum := "9a0fbbfaf7c499e7c55ea177314d8591b19a93d0523773858d56e4f175f29e0a", func := "typecase/typecaselaw04.WideApart", spec := "wideApart", apart := false, narrowed := true }
def WideApartUptoSaid : Prop := wideApartUptoRow.holds Try.pinned (OpenSpec.upto wideApartSpec)

/-- 'typecaselaw04.WideEven', WHERE WHAT IT READS IS OF BULK AT MOST 1048576: true; the input reads as it did. -/
def wideEvenUptoRow : OpenClaim := { program := "ytpaadeiopflfgaa", sum := "9a0fbbfaf7c499e7c55ea177314d8591b19a93d0523773858d56e4f175f29e0a", func := "typecase/typecaselaw04.WideEven", spec := "wideEven", apart := false, narrowed := true }
def WideEvenUptoSaid : Prop := wideEvenUptoRow.holds Try.pinned (OpenSpec.upto wideEvenSpec)

end Rows
end Go.Proofs.Ytpaadeiopflfgaa
