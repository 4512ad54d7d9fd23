/-
  No cell of these rows narrows 'for every input' (looked for: loops, veiled, ifaces, maps, wideKeys, modest, calm, conditions, laid).
  DERIVED. THE GIVEN ROWS OF THIS SEAT. 5 by the template 'for every input the law returns true; each argument reads behind the call as it read before'; 0 by the template 'total and deterministic' (their statements: YtppnmaklggkogaaTotals.lean).
  GIVEN WITH THE SEED: the statements are not yours to turn. If you find one false, say at which input.
  Laid BY PROGRAM, IN A SANDBOX (cutbox-rows.mjs): the forced cells as the released guide's own fill.sh prints them over the translation 33feaa9f5e3cf212… (all of the seat's roots in one cut). By AI agents, Wed Nov 11 2026. No macro, syntax, notation, axiom, sorry.
-/
import Derived.Test.YtppnmaklggkogaaChecked
import GoSem.Claim
import GoSem.ClaimJoined
import GoSem.ClaimMapViews
import Derived.JoinedTies
import Derived.KernelRfl
namespace Go.Proofs.Ytppnmaklggkogaa
/- THE CELL 'sum', in the pinned program and in every row, IS THE sha256 OF THE DUMP (.gsa) THAT YtppnmaklggkogaaProg.lean LOADS. Nothing in Lean hashes anything: it is a label: what it is worth is what the hold of that sum in a sandbox is worth. -/
noncomputable def Try.pinned : Pinned := { name := "ytppnmaklggkogaa", sum := "33feaa9f5e3cf212f51144e6c671110d9e0757db5b0eaaa26e0db8fdb73cc26e", checked := Try.checked }
namespace Rows
def none {H : Type} : Left H := { results := [], args := [] }

/-- 'typecaselaw09.PressPuts': WHATEVER THE INPUT: true; the input reads as it did. -/
def pressPutsSpec : ChangeSpec := { name := "pressPuts", fn := fun _ => fun
  | [d1, d2] => { results := [.lit (.bool true)], args := [d1, d2] }
  | _ => none }
def pressPutsRow : OpenClaim := { program := "ytppnmaklggkogaa", sum := "33feaa9f5e3cf212f51144e6c671110d9e0757db5b0eaaa26e0db8fdb73cc26e", func := "typecase/typecaselaw09.PressPuts", spec := "pressPuts", apart := false }
def PressPutsSaid : Prop := pressPutsRow.holds Try.pinned (OpenSpec.ofChange pressPutsSpec)

/-- ITS FALSE NEIGHBOUR: 'it returns false'. Refute it at one input. -/
def pressPutsWrong : ChangeSpec := { name := "pressPuts", fn := fun _ => fun
  | [d1, d2] => { results := [.lit (.bool false)], args := [d1, d2] }
  | _ => none }
def PressPutsWrongFalsely : Prop := pressPutsRow.holds Try.pinned (OpenSpec.ofChange pressPutsWrong)

/-- 'typecaselaw09.PressGets': WHATEVER THE INPUT: true; the input reads as it did. -/
def pressGetsSpec : ChangeSpec := { name := "pressGets", fn := fun _ => fun
  | [d] => { results := [.lit (.bool true)], args := [d] }
  | _ => none }
def pressGetsRow : OpenClaim := { program := "ytppnmaklggkogaa", sum := "33feaa9f5e3cf212f51144e6c671110d9e0757db5b0eaaa26e0db8fdb73cc26e", func := "typecase/typecaselaw09.PressGets", spec := "pressGets", apart := false }
def PressGetsSaid : Prop := pressGetsRow.holds Try.pinned (OpenSpec.ofChange pressGetsSpec)

/-- ITS FALSE NEIGHBOUR: 'it returns false'. Refute it at one input. -/
def pressGetsWrong : ChangeSpec := { name := "pressGets", fn := fun _ => fun
  | [d] => { results := [.lit (.bool false)], args := [d] }
  | _ => none }
def PressGetsWrongFalsely : Prop := pressGetsRow.holds Try.pinned (OpenSpec.ofChange pressGetsWrong)

/-- 'typecaselaw09.PressApart': WHATEVER THE INPUT: true; the input reads as it did. -/
def pressApartSpec : ChangeSpec := { name := "pressApart", fn := fun _ => fun
  | [d1, d2, d3, d4] => { results := [.lit (.bool true)], args := [d1, d2, d3, d4] }
  | _ => none }
def pressApartRow : OpenClaim := { program := "ytppnmaklggkogaa", sum := "33feaa9f5e3cf212f51144e6c671110d9e0757db5b0eaaa26e0db8fdb73cc26e", func := "typecase/typecaselaw09.PressApart", spec := "pressApart", apart := false }
def PressApartSaid : Prop := pressApartRow.holds Try.pinned (OpenSpec.ofChange pressApartSpec)

/-- ITS FALSE NEIGHBOUR: 'it returns false'. Refute it at one input. -/
def pressApartWrong : ChangeSpec := { name := "pressApart", fn := fun _ => fun
  | [d1, d2, d3, d4] => { results := [.lit (.bool false)], args := [d1, d2, d3, d4] }
  | _ => none }
def PressApartWrongFalsely : Prop := pressApartRow.holds Try.pinned (OpenSpec.ofChange pressApartWrong)

/-- 'typecaselaw09.PressFits': WHATEVER THE INPUT: true; the input reads as it did. -/
def pressFitsSpec : ChangeSpec := { name := "pressFits", fn := fun _ => fun
  | [d1, d2] => { results := [.lit (.bool true)], args := [d1, d2] }
  | _ => none }
def pressFitsRow : OpenClaim := { program := "ytppnmaklggkogaa", sum := "33feaa9f5e3cf212f51144e6c671110d9e0757db5b0eaaa26e0db8fdb73cc26e", func := "typecase/typecaselaw09.PressFits", spec := "pressFits", apart := false }
def PressFitsSaid : Prop := pressFitsRow.holds Try.pinned (OpenSpec.ofChange pressFitsSpec)

/-- ITS FALSE NEIGHBOUR: 'it returns false'. Refute it at one input. -/
def pressFitsWrong : ChangeSpec := { name := "pressFits", fn := fun _ => fun
  | [d1, d2] => { results := [.lit (.bool false)], args := [d1, d2] }
  | _ => none }
def PressFitsWrongFalsely : Prop := pressFitsRow.holds Try.pinned (OpenSpec.ofChange pressFitsWrong)

/-- 'typecaselaw09.PressShort': WHATEVER THE INPUT: true; the input reads as it did. -/
def pressShortSpec : ChangeSpec := { name := "pressShort", fn := fun _ => fun
  | [d] => { results := [.lit (.bool true)], args := [d] }
  | _ => none }
def pressShortRow : OpenClaim := { program := "ytppnmaklggkogaa", sum := "33feaa9f5e3cf212f51144e6c671110d9e0757db5b0eaaa26e0db8fdb73cc26e", func := "typecase/typecaselaw09.PressShort", spec := "pressShort", apart := false }
def PressShortSaid : Prop := pressShortRow.holds Try.pinned (OpenSpec.ofChange pressShortSpec)

/-- ITS FALSE NEIGHBOUR: 'it returns false'. Refute it at one input. -/
def pressShortWrong : ChangeSpec := { name := "pressShort", fn := fun _ => fun
  | [d] => { results := [.lit (.bool false)], args := [d] }
  | _ => none }
def PressShortWrongFalsely : Prop := pressShortRow.holds Try.pinned (OpenSpec.ofChange pressShortWrong)

/- THE SECOND FORM. 'bulk': how many values and letters a reading holds, each counted each time it is reached (what is shared counts as often as it is met; a slice's spare places count too). A statement '..UptoSaid' is the law's where the arguments, and the package variables that the reading takes, are together of bulk at most 1048576: NARROWER than '..Said'. Prove '..Said' where nothing that the law and all that it calls make is longer than what came in: it says more and counts as full. Else prove '..UptoSaid'. A law counts once. -/
mutual
def uptoBulk {H : Type} : DataW H → Nat
  | .lit (.string bytes) => bytes.length + 1
  | .lit _ => 1
  | .nil => 1
  | .ptr d => uptoBulk d + 1
  | .slice elems spare => uptoBulkAll elems + uptoBulkAll spare + 1
  | .agg parts => uptoBulkAll parts + 1
  | .iface _ d => uptoBulk d + 1
  | .map entries => uptoBulkEntries entries + 1
  | .held _ => 1
def uptoBulkAll {H : Type} : List (DataW H) → Nat
  | [] => 0
  | d :: r => uptoBulk d + uptoBulkAll r
def uptoBulkEntries {H : Type} : List (Lit × DataW H) → Nat
  | [] => 0
  | x :: r => uptoBulkEntry x + uptoBulkEntries r
def uptoBulkEntry {H : Type} : Lit × DataW H → Nat
  | (.string bytes, d) => bytes.length + uptoBulk d + 1
  | (_, d) => uptoBulk d + 1
 end
def uptoSmall : (H : Type) → List (DataW H) → Bool := fun _ ds => decide (uptoBulkAll ds ≤ 1048576)
def OpenSpec.upto (s : _root_.Go.ChangeSpec) : _root_.Go.OpenSpec := { _root_.Go.OpenSpec.ofChange s with cond := some uptoSmall }

/-- 'typecaselaw09.PressPuts', WHERE WHAT IT READS IS OF BULK AT MOST 1048576: true; the input reads as it did. -/
def pressPutsUptoRow : OpenClaim := { program := "ytppnmaklggkogaa", sum := "33feaa9f5e3cf212f51144e6c671110d9e0757db5b0eaaa26e0db8fdb73cc26e", func := "typecase/typecaselaw09.PressPuts", spec := "pressPuts", apart := false, narrowed := true }
def PressPutsUptoSaid : Prop := pressPutsUptoRow.holds Try.pinned (OpenSpec.upto pressPutsSpec)

/-- 'typecaselaw09.PressGets', WHERE WHAT IT READS IS OF BULK AT MOST 1048576: true; the input reads as it did. -/
def pressGetsUptoRow : OpenClaim := { program := "ytppnmaklggkogaa", sum := "33feaa9f5e3cf212f51144e6c671110d9e0757db5b0eaaa26e0db8fdb73cc26e", func := "typecase/typecaselaw09.PressGets", spec := "pressGets", apart := false, narrowed := true }
def PressGetsUptoSaid : Prop := pressGetsUptoRow.holds Try.pinned (OpenSpec.upto pressGetsSpec)

/-- 'typecaselaw09.PressApart', WHERE WHAT IT READS IS OF BULK AT MOST 1048576: true; the input reads as it did. -/
def pressApartUptoRow : OpenClaim := { program := "ytppnmaklggkogaa", sum := "33feaa9f5e3cf212f51144e6c671110d9e0757db5b0eaaa26e0db8fdb73cc26e", func := "typecase/typecaselaw09.PressApart", spec := "pressApart", apart := false, narrowed := true }
def PressApartUptoSaid : Prop := pressApartUptoRow.holds Try.pinned (OpenSpec.upto pressApartSpec)

/-- 'typecaselaw09.PressFits', WHERE WHAT IT READS IS OF BULK AT MOST 1048576: true; the input reads as it did. -/
def pressFitsUptoRow : OpenClaim := { program := "ytppnmaklggkogaa", sum := "33feaa9f5e3cf212f51144e6c671110d9e0757db5b0eaaa26e0db8fdb73cc26e", func := "typecase/typecaselaw09.PressFits", spec := "pressFits", apart := false, narrowed := true }
def PressFitsUptoSaid : Prop := pressFitsUptoRow.holds Try.pinned (OpenSpec.upto pressFitsSpec)

/-- 'typecaselaw09.PressShort', WHERE WHAT IT READS IS OF BULK AT MOST 1048576: true; the input reads as it did. -/
def pressShortUptoRow : OpenClaim := { program := "ytppnmaklggkogaa", sum := "33feaa9f5e3cf212f51144e6c671110d9e0757db5b0eaaa26e0db8fdb73cc26e", func := "typecase/typecaselaw09.PressShort", spec := "pressShort", apart := false, narrowed := true }
def PressShortUptoSaid : Prop := pressShortUptoRow.holds Try.pinned (OpenSpec.upto pressShortSpec)

end Rows
end Go.Proofs.Ytppnmaklggkogaa
