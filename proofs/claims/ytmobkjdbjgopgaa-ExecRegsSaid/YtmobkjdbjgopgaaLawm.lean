/- The walk of the law ExecRegs. -/
import Derived.Test.YtmobkjdbjgopgaaLawk
import Derived.Test.YtmobkjdbjgopgaaOpen
namespace Go.Proofs.Ytmobkjdbjgopgaa
open Go.RowKit
set_option linter.unusedVariables false
set_option linter.unusedSimpArgs false

/-- Another register in its place. -/
def regT (n r : Int) : Int := if 0 < n ∧ n < 32 then 1 + r % 31 else n

theorem regB_T (n r : Int) (b : Bool) (hr : 0 ≤ r) : regB (regT n r) b = regB n b := by
  unfold regT
  by_cases h : 0 < n ∧ n < 32
  · rw [if_pos h]
    cases b
    · have e1 : regB (1 + r % 31) false = false := by simp [regB]; omega
      have e2 : regB n false = false := by simp [regB]; omega
      rw [e1, e2]
    · have e1 : regB (1 + r % 31) true = true := by simp [regB]; omega
      have e2 : regB n true = true := by simp [regB]; omega
      rw [e1, e2]
  · rw [if_neg h]

theorem may_T (op rd rs1 rs2 imm r q : Int) (hr : 0 ≤ r) (hq : 0 ≤ q) : mayB op (regT rd r) (regT rs1 q) rs2 imm = mayB op rd rs1 rs2 imm := by
  unfold mayB
  rw [regB_T rd r _ hr, regB_T rs1 q _ hq]

/-- What the calls give, of one register or of another. -/
structure RegC (op rd rs1 rs2 imm a b pc X Y Z U : Int) (q1 q2 q3 : Bool) : Prop where
  val : ∀ w, Calls Try.prog 9 #[.agg #[.int .i64 op, .int .i64 rd, .int .i64 rs1, .int .i64 rs2, .int .i32 imm], .int .u32 a, .int .u32 b, .int .u32 pc, .int .i64 4] w fun e w' => e = .returned (.tuple #[.int .u32 X, .bool q1]) ∧ Nx w w'
  nxt : ∀ w, Calls Try.prog 11 #[.agg #[.int .i64 op, .int .i64 rd, .int .i64 rs1, .int .i64 rs2, .int .i32 imm], .int .u32 a, .int .u32 b, .int .u32 pc, .int .i64 4] w fun e w' => e = .returned (.int .u32 Y) ∧ Nx w w'
  acc : ∀ w, Calls Try.prog 12 #[.agg #[.int .i64 op, .int .i64 rd, .int .i64 rs1, .int .i64 rs2, .int .i32 imm], .int .u32 a] w fun e w' => e = .returned (.tuple #[.int .u32 Z, .int .i64 U, .bool q2, .bool q3]) ∧ Nx w w'

end Go.Proofs.Ytmobkjdbjgopgaa
