/-
  No cell of these rows narrows 'for every input' (looked for: loops, veiled, ifaces, maps, wideKeys, modest, calm, conditions, laid).
  DERIVED. THE GIVEN ROWS OF THIS SEAT. 5 by the template 'for every input the law returns true; each argument reads behind the call as it read before'; 0 by the template 'total and deterministic' (their statements: YtmobkjdbjgopgaaTotals.lean).
  GIVEN WITH THE SEED: the statements are not yours to turn. If you find one false, say at which input.
  Laid BY PROGRAM, IN A SANDBOX (cutbox-rows.mjs): the forced cells as the released guide's own fill.sh prints them over the translation 034856aaa887dc33… (all of the seat's roots in one cut). By AI agents, Wed Nov 11 2026. No macro, syntax, notation, axiom, sorry.
-/
import Derived.Test.YtmobkjdbjgopgaaChecked
import GoSem.Claim
import GoSem.ClaimJoined
import GoSem.ClaimMapViews
import Derived.JoinedTies
import Derived.KernelRfl
namespace Go.Proofs.Ytmobkjdbjgopgaa
/- THE CELL 'sum', in the pinned program and in every row, IS THE sha256 OF THE DUMP (.gsa) THAT YtmobkjdbjgopgaaProg.lean LOADS. Nothing in Lean hashes anything: it is a label: what it is worth is what the hold of that sum in a sandbox is worth. -/
noncomputable def Try.pinned : Pinned := { name := "ytmobkjdbjgopgaa", sum := "034856aaa887dc33fedc7e993ca4df25a2999d04f5fcf188aaa44207b17b06f1", checked := Try.checked }
namespace Rows
def none {H : Type} : Left H := { results := [], args := [] }

/-- 'typecaselaw06.ExecValues': WHATEVER THE INPUT: true; the input reads as it did. -/
def execValuesSpec : ChangeSpec := { name := "execValues", fn := fun _ => fun
  | [d1, d2, d3, d4, d5] => { results := [.lit (.bool true)], args := [d1, d2, d3, d4, d5] }
  | _ => none }
def execValuesRow : OpenClaim := { program := "ytmobkjdbjgopgaa", sum := "034856aaa887dc33fedc7e993ca4df25a2999d04f5fcf188aaa44207b17b06f1", func := "typecase/typecaselaw06.ExecValues", spec := "execValues", unfollowed := true, recurses := true, apart := false }
def ExecValuesSaid : Prop := execValuesRow.holds Try.pinned (OpenSpec.ofChange execValuesSpec)

/-- ITS FALSE NEIGHBOUR: 'it returns false'. Refute it at one input. -/
def execValuesWrong : ChangeSpec := { name := "execValues", fn := fun _ => fun
  | [d1, d2, d3, d4, d5] => { results := [.lit (.bool false)], args := [d1, d2, d3, d4, d5] }
  | _ => none }
def ExecValuesWrongFalsely : Prop := execValuesRow.holds Try.pinned (OpenSpec.ofChange execValuesWrong)

/-- 'typecaselaw06.ExecTurns': WHATEVER THE INPUT: true; the input reads as it did. -/
def execTurnsSpec : ChangeSpec := { name := "execTurns", fn := fun _ => fun
  | [d1, d2, d3, d4, d5, d6] => { results := [.lit (.bool true)], args := [d1, d2, d3, d4, d5, d6] }
  | _ => none }
def execTurnsRow : OpenClaim := { program := "ytmobkjdbjgopgaa", sum := "034856aaa887dc33fedc7e993ca4df25a2999d04f5fcf188aaa44207b17b06f1", func := "typecase/typecaselaw06.ExecTurns", spec := "execTurns", unfollowed := true, recurses := true, apart := false }
def ExecTurnsSaid : Prop := execTurnsRow.holds Try.pinned (OpenSpec.ofChange execTurnsSpec)

/-- ITS FALSE NEIGHBOUR: 'it returns false'. Refute it at one input. -/
def execTurnsWrong : ChangeSpec := { name := "execTurns", fn := fun _ => fun
  | [d1, d2, d3, d4, d5, d6] => { results := [.lit (.bool false)], args := [d1, d2, d3, d4, d5, d6] }
  | _ => none }
def ExecTurnsWrongFalsely : Prop := execTurnsRow.holds Try.pinned (OpenSpec.ofChange execTurnsWrong)

/-- 'typecaselaw06.ExecPairs': WHATEVER THE INPUT: true; the input reads as it did. -/
def execPairsSpec : ChangeSpec := { name := "execPairs", fn := fun _ => fun
  | [d1, d2, d3, d4] => { results := [.lit (.bool true)], args := [d1, d2, d3, d4] }
  | _ => none }
def execPairsRow : OpenClaim := { program := "ytmobkjdbjgopgaa", sum := "034856aaa887dc33fedc7e993ca4df25a2999d04f5fcf188aaa44207b17b06f1", func := "typecase/typecaselaw06.ExecPairs", spec := "execPairs", unfollowed := true, recurses := true, apart := false }
def ExecPairsSaid : Prop := execPairsRow.holds Try.pinned (OpenSpec.ofChange execPairsSpec)

/-- ITS FALSE NEIGHBOUR: 'it returns false'. Refute it at one input. -/
def execPairsWrong : ChangeSpec := { name := "execPairs", fn := fun _ => fun
  | [d1, d2, d3, d4] => { results := [.lit (.bool false)], args := [d1, d2, d3, d4] }
  | _ => none }
def ExecPairsWrongFalsely : Prop := execPairsRow.holds Try.pinned (OpenSpec.ofChange execPairsWrong)

/-- 'typecaselaw06.ExecNexts': WHATEVER THE INPUT: true; the input reads as it did. -/
def execNextsSpec : ChangeSpec := { name := "execNexts", fn := fun _ => fun
  | [d1, d2, d3, d4, d5] => { results := [.lit (.bool true)], args := [d1, d2, d3, d4, d5] }
  | _ => none }
def execNextsRow : OpenClaim := { program := "ytmobkjdbjgopgaa", sum := "034856aaa887dc33fedc7e993ca4df25a2999d04f5fcf188aaa44207b17b06f1", func := "typecase/typecaselaw06.ExecNexts", spec := "execNexts", unfollowed := true, recurses := true, apart := false }
def ExecNextsSaid : Prop := execNextsRow.holds Try.pinned (OpenSpec.ofChange execNextsSpec)

/-- ITS FALSE NEIGHBOUR: 'it returns false'. Refute it at one input. -/
def execNextsWrong : ChangeSpec := { name := "execNexts", fn := fun _ => fun
  | [d1, d2, d3, d4, d5] => { results := [.lit (.bool false)], args := [d1, d2, d3, d4, d5] }
  | _ => none }
def ExecNextsWrongFalsely : Prop := execNextsRow.holds Try.pinned (OpenSpec.ofChange execNextsWrong)

/-- 'typecaselaw06.ExecRegs': WHATEVER THE INPUT: true; the input reads as it did. -/
def execRegsSpec : ChangeSpec := { name := "execRegs", fn := fun _ => fun
  | [d1, d2, d3, d4, d5] => { results := [.lit (.bool true)], args := [d1, d2, d3, d4, d5] }
  | _ => none }
def execRegsRow : OpenClaim := { program := "ytmobkjdbjgopgaa", sum := "034856aaa887dc33fedc7e993ca4df25a2999d04f5fcf188aaa44207b17b06f1", func := "typecase/typecaselaw06.ExecRegs", spec := "execRegs", unfollowed := true, recurses := true, apart := false }
def ExecRegsSaid : Prop := execRegsRow.holds Try.pinned (OpenSpec.ofChange execRegsSpec)

/-- ITS FALSE NEIGHBOUR: 'it returns false'. Refute it at one input. -/
def execRegsWrong : ChangeSpec := { name := "execRegs", fn := fun _ => fun
  | [d1, d2, d3, d4, d5] => { results := [.lit (.bool false)], args := [d1, d2, d3, d4, d5] }
  | _ => none }
def ExecRegsWrongFalsely : Prop := execRegsRow.holds Try.pinned (OpenSpec.ofChange execRegsWrong)

/- THE SECOND FORM. 'bulk': how many values and letters a reading holds, each counted each time it is reached (what is shared counts as often as it is met; a slice's spare places count too). A statement '..UptoSaid' is the law's where the arguments, and the package variables that the reading takes, are together of bulk at most 1048576: NARROWER than '..Said'. Prove '..Said' where nothing that the law and all that it calls make is longer than what came in: it says more and counts as full. Else prove '..UptoSaid'. A law counts once. -/
mutual
def uptoBulk {H : Type} : DataW H → Nat
  | .lit (.string bytes) => bytes.length + 1
  | .lit _ => 1
  | .nil => 1
  | .ptr d => uptoBulk d + 1
  | .slice elems spare => uptoBulkAll elems + uptoBulkAll spare + 1
  | .agg parts => uptoBulkAll parts + 1
  | .iface _ d => uptoBulk d + 1
  | .map entries => uptoBulkEntries entries + 1
  | .held _ => 1
def uptoBulkAll {H : Type} : List (DataW H) → Nat
  | [] => 0
  | d :: r => uptoBulk d + uptoBulkAll r
def uptoBulkEntries {H : Type} : List (Lit × DataW H) → Nat
  | [] => 0
  | x :: r => uptoBulkEntry x + uptoBulkEntries r
def uptoBulkEntry {H : Type} : Lit × DataW H → Nat
  | (.string bytes, d) => bytes.length + uptoBulk d + 1
  | (_, d) => uptoBulk d + 1
 end
def uptoSmall : (H : Type) → List (DataW H) → Bool := fun _ ds => decide (uptoBulkAll ds ≤ 1048576)
def OpenSpec.upto (s : _root_.Go.ChangeSpec) : _root_.Go.OpenSpec := { _root_.Go.OpenSpec.ofChange s with cond := some uptoSmall }

/-- 'typecaselaw06.ExecValues', WHERE WHAT IT READS IS OF BULK AT MOST 1048576: true; the input reads as it did. -/
def execValuesUptoRow : OpenClaim := { program := "ytmobkjdbjgopgaa", sum := "034856aaa887dc33fedc7e993ca4df25a2999d04f5fcf188aaa44207b17b06f1", func := "typecase/typecaselaw06.ExecValues", spec := "execValues", unfollowed := true, recurses := true, apart := false, narrowed := true }
def ExecValuesUptoSaid : Prop := execValuesUptoRow.holds Try.pinned (OpenSpec.upto execValuesSpec)

/-- 'typecaselaw06.ExecTurns', WHERE WHAT IT READS IS OF BULK AT MOST 1048576: true; the input reads as it did. -/
def execTurnsUptoRow : OpenClaim := { program := "ytmobkjdbjgopgaa", sum := "034856aaa887dc33fedc7e993ca4df25a2999d04f5fcf188aaa44207b17b06f1", func := "typecase/typecaselaw06.ExecTurns", spec := "execTurns", unfollowed := true, recurses := true, apart := false, narrowed := true }
def ExecTurnsUptoSaid : Prop := execTurnsUptoRow.holds Try.pinned (OpenSpec.upto execTurnsSpec)

/-- 'typecaselaw06.ExecPairs', WHERE WHAT IT READS IS OF BULK AT MOST 1048576: true; the input reads as it did. -/
def execPairsUptoRow : OpenClaim := { program := "ytmobkjdbjgopgaa", sum := "034856aaa887dc33fedc7e993ca4df25a2999d04f5fcf188aaa44207b17b06f1", func := "typecase/typecaselaw06.ExecPairs", spec := "execPairs", unfollowed := true, recurses := true, apart := false, narrowed := true }
def ExecPairsUptoSaid : Prop := execPairsUptoRow.holds Try.pinned (OpenSpec.upto execPairsSpec)

/-- 'typecaselaw06.ExecNexts', WHERE WHAT IT READS IS OF BULK AT MOST 1048576: true; the input reads as it did. -/
def execNextsUptoRow : OpenClaim := { program := "ytmobkjdbjgopgaa", sum := "034856aaa887dc33fedc7e993ca4df25a2999d04f5fcf188aaa44207b17b06f1", func := "typecase/typecaselaw06.ExecNexts", spec := "execNexts", unfollowed := true, recurses := true, apart := false, narrowed := true }
def ExecNextsUptoSaid : Prop := execNextsUptoRow.holds Try.pinned (OpenSpec.upto execNextsSpec)

/-- 'typecaselaw06.ExecRegs', WHERE WHAT IT READS IS OF BULK AT MOST 1048576: true; the input reads as it did. -/
def execRegsUptoRow : OpenClaim := { program := "ytmobkjdbjgopgaa", sum := "034856aaa887dc33fedc7e993ca4df25a2999d04f5fcf188aaa44207b17b06f1", func := "typecase/typecaselaw06.ExecRegs", spec := "execRegs", unfollowed := true, recurses := true, apart := false, narrowed := true }
def ExecRegsUptoSaid : Prop := execRegsUptoRow.holds Try.pinned (OpenSpec.upto execRegsSpec)

end Rows
end Go.Proofs.Ytmobkjdbjgopgaa
