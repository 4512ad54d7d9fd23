/-
  No cell of these rows narrows 'for every input' (looked for: loops, veiled, ifaces, maps, wideKeys, modest, calm, conditions, laid).
  DERIVED. THE GIVEN ROWS OF THIS SEAT. 4 by the template 'for every input the law returns true; each argument reads behind the call as it read before'; 0 by the template 'total and deterministic' (their statements: YtndpgakjpokllaaGreatTotals.lean).
  GIVEN WITH THE SEED: the statements are not yours to turn. If you find one false, say at which input.
  Laid BY PROGRAM, IN A SANDBOX (cutbox-rows.mjs): the forced cells as the released guide's own fill.sh prints them over the translation 6a3eeff2bd5cdd85… (all of the seat's roots in one cut). By AI agents, Wed Nov 11 2026. No macro, syntax, notation, axiom, sorry.
-/
import Derived.Test.YtndpgakjpokllaaGreatChecked
import GoSem.Claim
import GoSem.ClaimJoined
import GoSem.ClaimMapViews
import Derived.JoinedTies
import Derived.KernelRfl
namespace Go.Proofs.YtndpgakjpokllaaGreat
/- THE CELL 'sum', in the pinned program and in every row, IS THE sha256 OF THE DUMP (.gsa) THAT YtndpgakjpokllaaGreatProg.lean LOADS. Nothing in Lean hashes anything: it is a label: what it is worth is what the hold of that sum in a sandbox is worth. -/
noncomputable def Tryz.pinned : Pinned := { name := "ytndpgakjpokllaagreat", sum := "6a3eeff2bd5cdd85922347334288536c1129b90384214bce958ecb12b599d7c6", checked := Tryz.checked }
namespace Rows
def none {H : Type} : Left H := { results := [], args := [] }

/-- 'typecaselaw07.MachineSteps': WHATEVER THE INPUT: true; the input reads as it did. -/
def machineStepsSpec : ChangeSpec := { name := "machineSteps", fn := fun _ => fun
  | [d1, d2] => { results := [.lit (.bool true)], args := [d1, d2] }
  | _ => none }
def machineStepsRow : OpenClaim := { program := "ytndpgakjpokllaagreat", sum := "6a3eeff2bd5cdd85922347334288536c1129b90384214bce958ecb12b599d7c6", func := "typecase/typecaselaw07.MachineSteps", spec := "machineSteps", unfollowed := true, recurses := true, apart := false }
def MachineStepsSaid : Prop := machineStepsRow.holds Tryz.pinned (OpenSpec.ofChange machineStepsSpec)

/-- ITS FALSE NEIGHBOUR: 'it returns false'. Refute it at one input. -/
def machineStepsWrong : ChangeSpec := { name := "machineSteps", fn := fun _ => fun
  | [d1, d2] => { results := [.lit (.bool false)], args := [d1, d2] }
  | _ => none }
def MachineStepsWrongFalsely : Prop := machineStepsRow.holds Tryz.pinned (OpenSpec.ofChange machineStepsWrong)

/-- 'typecaselaw07.MachineLittle': WHATEVER THE INPUT: true; the input reads as it did. -/
def machineLittleSpec : ChangeSpec := { name := "machineLittle", fn := fun _ => fun
  | [d] => { results := [.lit (.bool true)], args := [d] }
  | _ => none }
def machineLittleRow : OpenClaim := { program := "ytndpgakjpokllaagreat", sum := "6a3eeff2bd5cdd85922347334288536c1129b90384214bce958ecb12b599d7c6", func := "typecase/typecaselaw07.MachineLittle", spec := "machineLittle", unfollowed := true, recurses := true, apart := false }
def MachineLittleSaid : Prop := machineLittleRow.holds Tryz.pinned (OpenSpec.ofChange machineLittleSpec)

/-- ITS FALSE NEIGHBOUR: 'it returns false'. Refute it at one input. -/
def machineLittleWrong : ChangeSpec := { name := "machineLittle", fn := fun _ => fun
  | [d] => { results := [.lit (.bool false)], args := [d] }
  | _ => none }
def MachineLittleWrongFalsely : Prop := machineLittleRow.holds Tryz.pinned (OpenSpec.ofChange machineLittleWrong)

/-- 'typecaselaw07.MachineRuns': WHATEVER THE INPUT: true; the input reads as it did. -/
def machineRunsSpec : ChangeSpec := { name := "machineRuns", fn := fun _ => fun
  | [d1, d2] => { results := [.lit (.bool true)], args := [d1, d2] }
  | _ => none }
def machineRunsRow : OpenClaim := { program := "ytndpgakjpokllaagreat", sum := "6a3eeff2bd5cdd85922347334288536c1129b90384214bce958ecb12b599d7c6", func := "typecase/typecaselaw07.MachineRuns", spec := "machineRuns", unfollowed := true, recurses := true, apart := false }
def MachineRunsSaid : Prop := machineRunsRow.holds Tryz.pinned (OpenSpec.ofChange machineRunsSpec)

/-- ITS FALSE NEIGHBOUR: 'it returns false'. Refute it at one input. -/
def machineRunsWrong : ChangeSpec := { name := "machineRuns", fn := fun _ => fun
  | [d1, d2] => { results := [.lit (.bool false)], args := [d1, d2] }
  | _ => none }
def MachineRunsWrongFalsely : Prop := machineRunsRow.holds Tryz.pinned (OpenSpec.ofChange machineRunsWrong)

/-- 'typecaselaw07.MachineTwice': WHATEVER THE INPUT: true; the input reads as it did. -/
def machineTwiceSpec : ChangeSpec := { name := "machineTwice", fn := fun _ => fun
  | [d1, d2, d3] => { results := [.lit (.bool true)], args := [d1, d2, d3] }
  | _ => none }
def machineTwiceRow : OpenClaim := { program := "ytndpgakjpokllaagreat", sum := "6a3eeff2bd5cdd85922347334288536c1129b90384214bce958ecb12b599d7c6", func := "typecase/typecaselaw07.MachineTwice", spec := "machineTwice", unfollowed := true, recurses := true, apart := false }
def MachineTwiceSaid : Prop := machineTwiceRow.holds Tryz.pinned (OpenSpec.ofChange machineTwiceSpec)

/-- ITS FALSE NEIGHBOUR: 'it returns false'. Refute it at one input. -/
def machineTwiceWrong : ChangeSpec := { name := "machineTwice", fn := fun _ => fun
  | [d1, d2, d3] => { results := [.lit (.bool false)], args := [d1, d2, d3] }
  | _ => none }
def MachineTwiceWrongFalsely : Prop := machineTwiceRow.holds Tryz.pinned (OpenSpec.ofChange machineTwiceWrong)

/- THE SECOND FORM. 'bulk': how many values and letters a reading holds, each counted each time it is reached (what is shared counts as often as it is met; a slice's spare places count too). A statement '..UptoSaid' is the law's where the arguments, and the package variables that the reading takes, are together of bulk at most 1048576: NARROWER than '..Said'. Prove '..Said' where nothing that the law and all that it calls make is longer than what came in: it says more and counts as full. Else prove '..UptoSaid'. A law counts once. -/
mutual
def uptoBulk {H : Type} : DataW H → Nat
  | .lit (.string bytes) => bytes.length + 1
  | .lit _ => 1
  | .nil => 1
  | .ptr d => uptoBulk d + 1
  | .slice elems spare => uptoBulkAll elems + uptoBulkAll spare + 1
  | .agg parts => uptoBulkAll parts + 1
  | .iface _ d => uptoBulk d + 1
  | .map entries => uptoBulkEntries entries + 1
  | .held _ => 1
def uptoBulkAll {H : Type} : List (DataW H) → Nat
  | [] => 0
  | d :: r => uptoBulk d + uptoBulkAll r
def uptoBulkEntries {H : Type} : List (Lit × DataW H) → Nat
  | [] => 0
  | x :: r => uptoBulkEntry x + uptoBulkEntries r
def uptoBulkEntry {H : Type} : Lit × DataW H → Nat
  | (.string bytes, d) => bytes.length + uptoBulk d + 1
  | (_, d) => uptoBulk d + 1
 end
def uptoSmall : (H : Type) → List (DataW H) → Bool := fun _ ds => decide (uptoBulkAll ds ≤ 1048576)
def OpenSpec.upto (s : _root_.Go.ChangeSpec) : _root_.Go.OpenSpec := { _root_.Go.OpenSpec.ofChange s with cond := some uptoSmall }

/-- 'typecaselaw07.MachineSteps', WHERE WHAT IT READS IS OF BULK AT MOST 1048576: true; the input reads as it did. -/
def machineStepsUptoRow : OpenClaim := { program := "ytndpgakjpokllaagreat", sum := "6a3eeff2bd5cdd85922347334288536c1129b90384214bce958ecb12b599d7c6", func := "typecase/typecaselaw07.MachineSteps", spec := "machineSteps", unfollowed := true, recurses := true, apart := false, narrowed := true }
def MachineStepsUptoSaid : Prop := machineStepsUptoRow.holds Tryz.pinned (OpenSpec.upto machineStepsSpec)

/-- 'typecaselaw07.MachineLittle', WHERE WHAT IT READS IS OF BULK AT MOST 1048576: true; the input reads as it did. -/
def machineLittleUptoRow : OpenClaim := { program := "ytndpgakjpokllaagreat", sum := "6a3eeff2bd5cdd85922347334288536c1129b90384214bce958ecb12b599d7c6", func := "typecase/typecaselaw07.MachineLittle", spec := "machineLittle", unfollowed := true, recurses := true, apart := false, narrowed := true }
def MachineLittleUptoSaid : Prop := machineLittleUptoRow.holds Tryz.pinned (OpenSpec.upto machineLittleSpec)

/-- 'typecaselaw07.MachineRuns', WHERE WHAT IT READS IS OF BULK AT MOST 1048576: true; the input reads as it did. -/
def machineRunsUptoRow : OpenClaim := { program := "ytndpgakjpokllaagreat", sum := "6a3eeff2bd5cdd85922347334288536c1129b90384214bce958ecb12b599d7c6", func := "typecase/typecaselaw07.MachineRuns", spec := "machineRuns", unfollowed := true, recurses := true, apart := false, narrowed := true }
def MachineRunsUptoSaid : Prop := machineRunsUptoRow.holds Tryz.pinned (OpenSpec.upto machineRunsSpec)

/-- 'typecaselaw07.MachineTwice', WHERE WHAT IT READS IS OF BULK AT MOST 1048576: true; the input reads as it did. -/
def machineTwiceUptoRow : OpenClaim := { program := "ytndpgakjpokllaagreat", sum := "6a3eeff2bd5cdd85922347334288536c1129b90384214bce958ecb12b599d7c6", func := "typecase/typecaselaw07.MachineTwice", spec := "machineTwice", unfollowed := true, recurses := true, apart := false, narrowed := true }
def MachineTwiceUptoSaid : Prop := machineTwiceUptoRow.holds Tryz.pinned (OpenSpec.upto machineTwiceSpec)

end Rows
end Go.Proofs.YtndpgakjpokllaaGreat
