/- Parts of the proof, one behind the other. -/
import Derived.Test.YtppnmaklggkogaaZag
/- Contracts of package typecaseref09: regs. -/
namespace Go.Proofs.Ytppnmaklggkogaa
open Go.RowKit
set_option linter.unusedVariables false
set_option linter.unusedSimpArgs false

/-- The bits of the registers. -/
def rgL (rd rs1 rs2 : Int) : List Int := [(rd - 8) * 4, (rd - 8) * 4 + (rs1 - 8) * 128, (rs2 - 8) * 4 + (rs1 - 8) * 128, 0, rd * 128, 0, rd * 128, 0, rd * 128, (rd - 8) * 128, (rd - 8) * 128, (rd - 8) * 128, (rd - 8) * 128 + (rs2 - 8) * 4, (rd - 8) * 128 + (rs2 - 8) * 4, (rd - 8) * 128 + (rs2 - 8) * 4, (rd - 8) * 128 + (rs2 - 8) * 4, 0, (rs1 - 8) * 128, (rs1 - 8) * 128, rd * 128, rd * 128, rs1 * 128, rd * 128 + rs2 * 4, 0, rs1 * 128, rd * 128 + rs2 * 4, rs2 * 4]

theorem regs_0 (op rd rs1 rs2 imm : Int) (w : World) (h1 : 0 ≤ rd) (h1' : rd ≤ 31) (h2 : 0 ≤ rs1) (h2' : rs1 ≤ 31) (h3 : 0 ≤ rs2) (h3' : rs2 ≤ 31) :
    Calls Try.prog 25 #[.string (B [99, 46, 97, 100, 100, 105, 52, 115, 112, 110]), .agg #[.int .i64 op, .int .i64 rd, .int .i64 rs1, .int .i64 rs2, .int .i32 imm]] w fun e w' => e = .returned (.int .i64 ((rd - 8) * 4)) ∧ Nx w w' := by
  go_enter Try.func25, Try.ntmps25
  go_wp2
  go_ret
  exact ⟨rfl, (Nx.refl _).alloc _⟩

theorem regs_1 (op rd rs1 rs2 imm : Int) (w : World) (h1 : 0 ≤ rd) (h1' : rd ≤ 31) (h2 : 0 ≤ rs1) (h2' : rs1 ≤ 31) (h3 : 0 ≤ rs2) (h3' : rs2 ≤ 31) :
    Calls Try.prog 25 #[.string (B [99, 46, 108, 119]), .agg #[.int .i64 op, .int .i64 rd, .int .i64 rs1, .int .i64 rs2, .int .i32 imm]] w fun e w' => e = .returned (.int .i64 ((rd - 8) * 4 + (rs1 - 8) * 128)) ∧ Nx w w' := by
  go_enter Try.func25, Try.ntmps25
  go_wp2
  go_ret
  exact ⟨rfl, (Nx.refl _).alloc _⟩

theorem regs_2 (op rd rs1 rs2 imm : Int) (w : World) (h1 : 0 ≤ rd) (h1' : rd ≤ 31) (h2 : 0 ≤ rs1) (h2' : rs1 ≤ 31) (h3 : 0 ≤ rs2) (h3' : rs2 ≤ 31) :
    Calls Try.prog 25 #[.string (B [99, 46, 115, 119]), .agg #[.int .i64 op, .int .i64 rd, .int .i64 rs1, .int .i64 rs2, .int .i32 imm]] w fun e w' => e = .returned (.int .i64 ((rs2 - 8) * 4 + (rs1 - 8) * 128)) ∧ Nx w w' := by
  go_enter Try.func25, Try.ntmps25
  go_wp2
  go_ret
  exact ⟨rfl, (Nx.refl _).alloc _⟩

theorem regs_3 (op rd rs1 rs2 imm : Int) (w : World) (h1 : 0 ≤ rd) (h1' : rd ≤ 31) (h2 : 0 ≤ rs1) (h2' : rs1 ≤ 31) (h3 : 0 ≤ rs2) (h3' : rs2 ≤ 31) :
    Calls Try.prog 25 #[.string (B [99, 46, 110, 111, 112]), .agg #[.int .i64 op, .int .i64 rd, .int .i64 rs1, .int .i64 rs2, .int .i32 imm]] w fun e w' => e = .returned (.int .i64 (0)) ∧ Nx w w' := by
  go_enter Try.func25, Try.ntmps25
  go_wp2
  go_ret
  exact ⟨rfl, (Nx.refl _).alloc _⟩

theorem regs_4 (op rd rs1 rs2 imm : Int) (w : World) (h1 : 0 ≤ rd) (h1' : rd ≤ 31) (h2 : 0 ≤ rs1) (h2' : rs1 ≤ 31) (h3 : 0 ≤ rs2) (h3' : rs2 ≤ 31) :
    Calls Try.prog 25 #[.string (B [99, 46, 97, 100, 100, 105]), .agg #[.int .i64 op, .int .i64 rd, .int .i64 rs1, .int .i64 rs2, .int .i32 imm]] w fun e w' => e = .returned (.int .i64 (rd * 128)) ∧ Nx w w' := by
  go_enter Try.func25, Try.ntmps25
  go_wp2
  go_ret
  exact ⟨rfl, (Nx.refl _).alloc _⟩

theorem regs_5 (op rd rs1 rs2 imm : Int) (w : World) (h1 : 0 ≤ rd) (h1' : rd ≤ 31) (h2 : 0 ≤ rs1) (h2' : rs1 ≤ 31) (h3 : 0 ≤ rs2) (h3' : rs2 ≤ 31) :
    Calls Try.prog 25 #[.string (B [99, 46, 106, 97, 108]), .agg #[.int .i64 op, .int .i64 rd, .int .i64 rs1, .int .i64 rs2, .int .i32 imm]] w fun e w' => e = .returned (.int .i64 (0)) ∧ Nx w w' := by
  go_enter Try.func25, Try.ntmps25
  go_wp2
  go_ret
  exact ⟨rfl, (Nx.refl _).alloc _⟩

theorem regs_6 (op rd rs1 rs2 imm : Int) (w : World) (h1 : 0 ≤ rd) (h1' : rd ≤ 31) (h2 : 0 ≤ rs1) (h2' : rs1 ≤ 31) (h3 : 0 ≤ rs2) (h3' : rs2 ≤ 31) :
    Calls Try.prog 25 #[.string (B [99, 46, 108, 105]), .agg #[.int .i64 op, .int .i64 rd, .int .i64 rs1, .int .i64 rs2, .int .i32 imm]] w fun e w' => e = .returned (.int .i64 (rd * 128)) ∧ Nx w w' := by
  go_enter Try.func25, Try.ntmps25
  go_wp2
  go_ret
  exact ⟨rfl, (Nx.refl _).alloc _⟩

theorem regs_7 (op rd rs1 rs2 imm : Int) (w : World) (h1 : 0 ≤ rd) (h1' : rd ≤ 31) (h2 : 0 ≤ rs1) (h2' : rs1 ≤ 31) (h3 : 0 ≤ rs2) (h3' : rs2 ≤ 31) :
    Calls Try.prog 25 #[.string (B [99, 46, 97, 100, 100, 105, 49, 54, 115, 112]), .agg #[.int .i64 op, .int .i64 rd, .int .i64 rs1, .int .i64 rs2, .int .i32 imm]] w fun e w' => e = .returned (.int .i64 (0)) ∧ Nx w w' := by
  go_enter Try.func25, Try.ntmps25
  go_wp2
  go_ret
  exact ⟨rfl, (Nx.refl _).alloc _⟩

theorem regs_8 (op rd rs1 rs2 imm : Int) (w : World) (h1 : 0 ≤ rd) (h1' : rd ≤ 31) (h2 : 0 ≤ rs1) (h2' : rs1 ≤ 31) (h3 : 0 ≤ rs2) (h3' : rs2 ≤ 31) :
    Calls Try.prog 25 #[.string (B [99, 46, 108, 117, 105]), .agg #[.int .i64 op, .int .i64 rd, .int .i64 rs1, .int .i64 rs2, .int .i32 imm]] w fun e w' => e = .returned (.int .i64 (rd * 128)) ∧ Nx w w' := by
  go_enter Try.func25, Try.ntmps25
  go_wp2
  go_ret
  exact ⟨rfl, (Nx.refl _).alloc _⟩

theorem regs_9 (op rd rs1 rs2 imm : Int) (w : World) (h1 : 0 ≤ rd) (h1' : rd ≤ 31) (h2 : 0 ≤ rs1) (h2' : rs1 ≤ 31) (h3 : 0 ≤ rs2) (h3' : rs2 ≤ 31) :
    Calls Try.prog 25 #[.string (B [99, 46, 115, 114, 108, 105]), .agg #[.int .i64 op, .int .i64 rd, .int .i64 rs1, .int .i64 rs2, .int .i32 imm]] w fun e w' => e = .returned (.int .i64 ((rd - 8) * 128)) ∧ Nx w w' := by
  go_enter Try.func25, Try.ntmps25
  go_wp2
  go_ret
  exact ⟨rfl, (Nx.refl _).alloc _⟩

theorem regs_10 (op rd rs1 rs2 imm : Int) (w : World) (h1 : 0 ≤ rd) (h1' : rd ≤ 31) (h2 : 0 ≤ rs1) (h2' : rs1 ≤ 31) (h3 : 0 ≤ rs2) (h3' : rs2 ≤ 31) :
    Calls Try.prog 25 #[.string (B [99, 46, 115, 114, 97, 105]), .agg #[.int .i64 op, .int .i64 rd, .int .i64 rs1, .int .i64 rs2, .int .i32 imm]] w fun e w' => e = .returned (.int .i64 ((rd - 8) * 128)) ∧ Nx w w' := by
  go_enter Try.func25, Try.ntmps25
  go_wp2
  go_ret
  exact ⟨rfl, (Nx.refl _).alloc _⟩

theorem regs_11 (op rd rs1 rs2 imm : Int) (w : World) (h1 : 0 ≤ rd) (h1' : rd ≤ 31) (h2 : 0 ≤ rs1) (h2' : rs1 ≤ 31) (h3 : 0 ≤ rs2) (h3' : rs2 ≤ 31) :
    Calls Try.prog 25 #[.string (B [99, 46, 97, 110, 100, 105]), .agg #[.int .i64 op, .int .i64 rd, .int .i64 rs1, .int .i64 rs2, .int .i32 imm]] w fun e w' => e = .returned (.int .i64 ((rd - 8) * 128)) ∧ Nx w w' := by
  go_enter Try.func25, Try.ntmps25
  go_wp2
  go_ret
  exact ⟨rfl, (Nx.refl _).alloc _⟩

theorem regs_12 (op rd rs1 rs2 imm : Int) (w : World) (h1 : 0 ≤ rd) (h1' : rd ≤ 31) (h2 : 0 ≤ rs1) (h2' : rs1 ≤ 31) (h3 : 0 ≤ rs2) (h3' : rs2 ≤ 31) :
    Calls Try.prog 25 #[.string (B [99, 46, 115, 117, 98]), .agg #[.int .i64 op, .int .i64 rd, .int .i64 rs1, .int .i64 rs2, .int .i32 imm]] w fun e w' => e = .returned (.int .i64 ((rd - 8) * 128 + (rs2 - 8) * 4)) ∧ Nx w w' := by
  go_enter Try.func25, Try.ntmps25
  go_wp2
  go_ret
  exact ⟨rfl, (Nx.refl _).alloc _⟩

theorem regs_13 (op rd rs1 rs2 imm : Int) (w : World) (h1 : 0 ≤ rd) (h1' : rd ≤ 31) (h2 : 0 ≤ rs1) (h2' : rs1 ≤ 31) (h3 : 0 ≤ rs2) (h3' : rs2 ≤ 31) :
    Calls Try.prog 25 #[.string (B [99, 46, 120, 111, 114]), .agg #[.int .i64 op, .int .i64 rd, .int .i64 rs1, .int .i64 rs2, .int .i32 imm]] w fun e w' => e = .returned (.int .i64 ((rd - 8) * 128 + (rs2 - 8) * 4)) ∧ Nx w w' := by
  go_enter Try.func25, Try.ntmps25
  go_wp2
  go_ret
  exact ⟨rfl, (Nx.refl _).alloc _⟩

theorem regs_14 (op rd rs1 rs2 imm : Int) (w : World) (h1 : 0 ≤ rd) (h1' : rd ≤ 31) (h2 : 0 ≤ rs1) (h2' : rs1 ≤ 31) (h3 : 0 ≤ rs2) (h3' : rs2 ≤ 31) :
    Calls Try.prog 25 #[.string (B [99, 46, 111, 114]), .agg #[.int .i64 op, .int .i64 rd, .int .i64 rs1, .int .i64 rs2, .int .i32 imm]] w fun e w' => e = .returned (.int .i64 ((rd - 8) * 128 + (rs2 - 8) * 4)) ∧ Nx w w' := by
  go_enter Try.func25, Try.ntmps25
  go_wp2
  go_ret
  exact ⟨rfl, (Nx.refl _).alloc _⟩

theorem regs_15 (op rd rs1 rs2 imm : Int) (w : World) (h1 : 0 ≤ rd) (h1' : rd ≤ 31) (h2 : 0 ≤ rs1) (h2' : rs1 ≤ 31) (h3 : 0 ≤ rs2) (h3' : rs2 ≤ 31) :
    Calls Try.prog 25 #[.string (B [99, 46, 97, 110, 100]), .agg #[.int .i64 op, .int .i64 rd, .int .i64 rs1, .int .i64 rs2, .int .i32 imm]] w fun e w' => e = .returned (.int .i64 ((rd - 8) * 128 + (rs2 - 8) * 4)) ∧ Nx w w' := by
  go_enter Try.func25, Try.ntmps25
  go_wp2
  go_ret
  exact ⟨rfl, (Nx.refl _).alloc _⟩

theorem regs_16 (op rd rs1 rs2 imm : Int) (w : World) (h1 : 0 ≤ rd) (h1' : rd ≤ 31) (h2 : 0 ≤ rs1) (h2' : rs1 ≤ 31) (h3 : 0 ≤ rs2) (h3' : rs2 ≤ 31) :
    Calls Try.prog 25 #[.string (B [99, 46, 106]), .agg #[.int .i64 op, .int .i64 rd, .int .i64 rs1, .int .i64 rs2, .int .i32 imm]] w fun e w' => e = .returned (.int .i64 (0)) ∧ Nx w w' := by
  go_enter Try.func25, Try.ntmps25
  go_wp2
  go_ret
  exact ⟨rfl, (Nx.refl _).alloc _⟩

theorem regs_17 (op rd rs1 rs2 imm : Int) (w : World) (h1 : 0 ≤ rd) (h1' : rd ≤ 31) (h2 : 0 ≤ rs1) (h2' : rs1 ≤ 31) (h3 : 0 ≤ rs2) (h3' : rs2 ≤ 31) :
    Calls Try.prog 25 #[.string (B [99, 46, 98, 101, 113, 122]), .agg #[.int .i64 op, .int .i64 rd, .int .i64 rs1, .int .i64 rs2, .int .i32 imm]] w fun e w' => e = .returned (.int .i64 ((rs1 - 8) * 128)) ∧ Nx w w' := by
  go_enter Try.func25, Try.ntmps25
  go_wp2
  go_ret
  exact ⟨rfl, (Nx.refl _).alloc _⟩

theorem regs_18 (op rd rs1 rs2 imm : Int) (w : World) (h1 : 0 ≤ rd) (h1' : rd ≤ 31) (h2 : 0 ≤ rs1) (h2' : rs1 ≤ 31) (h3 : 0 ≤ rs2) (h3' : rs2 ≤ 31) :
    Calls Try.prog 25 #[.string (B [99, 46, 98, 110, 101, 122]), .agg #[.int .i64 op, .int .i64 rd, .int .i64 rs1, .int .i64 rs2, .int .i32 imm]] w fun e w' => e = .returned (.int .i64 ((rs1 - 8) * 128)) ∧ Nx w w' := by
  go_enter Try.func25, Try.ntmps25
  go_wp2
  go_ret
  exact ⟨rfl, (Nx.refl _).alloc _⟩

theorem regs_19 (op rd rs1 rs2 imm : Int) (w : World) (h1 : 0 ≤ rd) (h1' : rd ≤ 31) (h2 : 0 ≤ rs1) (h2' : rs1 ≤ 31) (h3 : 0 ≤ rs2) (h3' : rs2 ≤ 31) :
    Calls Try.prog 25 #[.string (B [99, 46, 115, 108, 108, 105]), .agg #[.int .i64 op, .int .i64 rd, .int .i64 rs1, .int .i64 rs2, .int .i32 imm]] w fun e w' => e = .returned (.int .i64 (rd * 128)) ∧ Nx w w' := by
  go_enter Try.func25, Try.ntmps25
  go_wp2
  go_ret
  exact ⟨rfl, (Nx.refl _).alloc _⟩

theorem regs_20 (op rd rs1 rs2 imm : Int) (w : World) (h1 : 0 ≤ rd) (h1' : rd ≤ 31) (h2 : 0 ≤ rs1) (h2' : rs1 ≤ 31) (h3 : 0 ≤ rs2) (h3' : rs2 ≤ 31) :
    Calls Try.prog 25 #[.string (B [99, 46, 108, 119, 115, 112]), .agg #[.int .i64 op, .int .i64 rd, .int .i64 rs1, .int .i64 rs2, .int .i32 imm]] w fun e w' => e = .returned (.int .i64 (rd * 128)) ∧ Nx w w' := by
  go_enter Try.func25, Try.ntmps25
  go_wp2
  go_ret
  exact ⟨rfl, (Nx.refl _).alloc _⟩

theorem regs_21 (op rd rs1 rs2 imm : Int) (w : World) (h1 : 0 ≤ rd) (h1' : rd ≤ 31) (h2 : 0 ≤ rs1) (h2' : rs1 ≤ 31) (h3 : 0 ≤ rs2) (h3' : rs2 ≤ 31) :
    Calls Try.prog 25 #[.string (B [99, 46, 106, 114]), .agg #[.int .i64 op, .int .i64 rd, .int .i64 rs1, .int .i64 rs2, .int .i32 imm]] w fun e w' => e = .returned (.int .i64 (rs1 * 128)) ∧ Nx w w' := by
  go_enter Try.func25, Try.ntmps25
  go_wp2
  go_ret
  exact ⟨rfl, (Nx.refl _).alloc _⟩

theorem regs_22 (op rd rs1 rs2 imm : Int) (w : World) (h1 : 0 ≤ rd) (h1' : rd ≤ 31) (h2 : 0 ≤ rs1) (h2' : rs1 ≤ 31) (h3 : 0 ≤ rs2) (h3' : rs2 ≤ 31) :
    Calls Try.prog 25 #[.string (B [99, 46, 109, 118]), .agg #[.int .i64 op, .int .i64 rd, .int .i64 rs1, .int .i64 rs2, .int .i32 imm]] w fun e w' => e = .returned (.int .i64 (rd * 128 + rs2 * 4)) ∧ Nx w w' := by
  go_enter Try.func25, Try.ntmps25
  go_wp2
  go_ret
  exact ⟨rfl, (Nx.refl _).alloc _⟩

theorem regs_23 (op rd rs1 rs2 imm : Int) (w : World) (h1 : 0 ≤ rd) (h1' : rd ≤ 31) (h2 : 0 ≤ rs1) (h2' : rs1 ≤ 31) (h3 : 0 ≤ rs2) (h3' : rs2 ≤ 31) :
    Calls Try.prog 25 #[.string (B [99, 46, 101, 98, 114, 101, 97, 107]), .agg #[.int .i64 op, .int .i64 rd, .int .i64 rs1, .int .i64 rs2, .int .i32 imm]] w fun e w' => e = .returned (.int .i64 (0)) ∧ Nx w w' := by
  go_enter Try.func25, Try.ntmps25
  go_wp2
  go_ret
  exact ⟨rfl, (Nx.refl _).alloc _⟩

theorem regs_24 (op rd rs1 rs2 imm : Int) (w : World) (h1 : 0 ≤ rd) (h1' : rd ≤ 31) (h2 : 0 ≤ rs1) (h2' : rs1 ≤ 31) (h3 : 0 ≤ rs2) (h3' : rs2 ≤ 31) :
    Calls Try.prog 25 #[.string (B [99, 46, 106, 97, 108, 114]), .agg #[.int .i64 op, .int .i64 rd, .int .i64 rs1, .int .i64 rs2, .int .i32 imm]] w fun e w' => e = .returned (.int .i64 (rs1 * 128)) ∧ Nx w w' := by
  go_enter Try.func25, Try.ntmps25
  go_wp2
  go_ret
  exact ⟨rfl, (Nx.refl _).alloc _⟩

theorem regs_25 (op rd rs1 rs2 imm : Int) (w : World) (h1 : 0 ≤ rd) (h1' : rd ≤ 31) (h2 : 0 ≤ rs1) (h2' : rs1 ≤ 31) (h3 : 0 ≤ rs2) (h3' : rs2 ≤ 31) :
    Calls Try.prog 25 #[.string (B [99, 46, 97, 100, 100]), .agg #[.int .i64 op, .int .i64 rd, .int .i64 rs1, .int .i64 rs2, .int .i32 imm]] w fun e w' => e = .returned (.int .i64 (rd * 128 + rs2 * 4)) ∧ Nx w w' := by
  go_enter Try.func25, Try.ntmps25
  go_wp2
  go_ret
  exact ⟨rfl, (Nx.refl _).alloc _⟩

theorem regs_26 (op rd rs1 rs2 imm : Int) (w : World) (h1 : 0 ≤ rd) (h1' : rd ≤ 31) (h2 : 0 ≤ rs1) (h2' : rs1 ≤ 31) (h3 : 0 ≤ rs2) (h3' : rs2 ≤ 31) :
    Calls Try.prog 25 #[.string (B [99, 46, 115, 119, 115, 112]), .agg #[.int .i64 op, .int .i64 rd, .int .i64 rs1, .int .i64 rs2, .int .i32 imm]] w fun e w' => e = .returned (.int .i64 (rs2 * 4)) ∧ Nx w w' := by
  go_enter Try.func25, Try.ntmps25
  go_wp2
  go_ret
  exact ⟨rfl, (Nx.refl _).alloc _⟩

theorem regs_at (n : Nat) (nm : List UInt8) (v op rd rs1 rs2 imm : Int) (w : World) (h1 : 0 ≤ rd) (h1' : rd ≤ 31) (h2 : 0 ≤ rs1) (h2' : rs1 ≤ 31) (h3 : 0 ≤ rs2) (h3' : rs2 ≤ 31) (hn : shB[n]? = some nm) (hl : (rgL rd rs1 rs2)[n]? = some v) :
    Calls Try.prog 25 #[.string (B nm), .agg #[.int .i64 op, .int .i64 rd, .int .i64 rs1, .int .i64 rs2, .int .i32 imm]] w fun e w' => e = .returned (.int .i64 v) ∧ Nx w w' := by
  have hn27 : n < 27 := (List.getElem?_eq_some_iff.1 hn).1
  rcases (by omega : n = 0 ∨ n = 1 ∨ n = 2 ∨ n = 3 ∨ n = 4 ∨ n = 5 ∨ n = 6 ∨ n = 7 ∨ n = 8 ∨ n = 9 ∨ n = 10 ∨ n = 11 ∨ n = 12 ∨ n = 13 ∨ n = 14 ∨ n = 15 ∨ n = 16 ∨ n = 17 ∨ n = 18 ∨ n = 19 ∨ n = 20 ∨ n = 21 ∨ n = 22 ∨ n = 23 ∨ n = 24 ∨ n = 25 ∨ n = 26) with rfl | rfl | rfl | rfl | rfl | rfl | rfl | rfl | rfl | rfl | rfl | rfl | rfl | rfl | rfl | rfl | rfl | rfl | rfl | rfl | rfl | rfl | rfl | rfl | rfl | rfl | rfl
  · cases hn; cases hl; exact regs_0 op rd rs1 rs2 imm w h1 h1' h2 h2' h3 h3'
  · cases hn; cases hl; exact regs_1 op rd rs1 rs2 imm w h1 h1' h2 h2' h3 h3'
  · cases hn; cases hl; exact regs_2 op rd rs1 rs2 imm w h1 h1' h2 h2' h3 h3'
  · cases hn; cases hl; exact regs_3 op rd rs1 rs2 imm w h1 h1' h2 h2' h3 h3'
  · cases hn; cases hl; exact regs_4 op rd rs1 rs2 imm w h1 h1' h2 h2' h3 h3'
  · cases hn; cases hl; exact regs_5 op rd rs1 rs2 imm w h1 h1' h2 h2' h3 h3'
  · cases hn; cases hl; exact regs_6 op rd rs1 rs2 imm w h1 h1' h2 h2' h3 h3'
  · cases hn; cases hl; exact regs_7 op rd rs1 rs2 imm w h1 h1' h2 h2' h3 h3'
  · cases hn; cases hl; exact regs_8 op rd rs1 rs2 imm w h1 h1' h2 h2' h3 h3'
  · cases hn; cases hl; exact regs_9 op rd rs1 rs2 imm w h1 h1' h2 h2' h3 h3'
  · cases hn; cases hl; exact regs_10 op rd rs1 rs2 imm w h1 h1' h2 h2' h3 h3'
  · cases hn; cases hl; exact regs_11 op rd rs1 rs2 imm w h1 h1' h2 h2' h3 h3'
  · cases hn; cases hl; exact regs_12 op rd rs1 rs2 imm w h1 h1' h2 h2' h3 h3'
  · cases hn; cases hl; exact regs_13 op rd rs1 rs2 imm w h1 h1' h2 h2' h3 h3'
  · cases hn; cases hl; exact regs_14 op rd rs1 rs2 imm w h1 h1' h2 h2' h3 h3'
  · cases hn; cases hl; exact regs_15 op rd rs1 rs2 imm w h1 h1' h2 h2' h3 h3'
  · cases hn; cases hl; exact regs_16 op rd rs1 rs2 imm w h1 h1' h2 h2' h3 h3'
  · cases hn; cases hl; exact regs_17 op rd rs1 rs2 imm w h1 h1' h2 h2' h3 h3'
  · cases hn; cases hl; exact regs_18 op rd rs1 rs2 imm w h1 h1' h2 h2' h3 h3'
  · cases hn; cases hl; exact regs_19 op rd rs1 rs2 imm w h1 h1' h2 h2' h3 h3'
  · cases hn; cases hl; exact regs_20 op rd rs1 rs2 imm w h1 h1' h2 h2' h3 h3'
  · cases hn; cases hl; exact regs_21 op rd rs1 rs2 imm w h1 h1' h2 h2' h3 h3'
  · cases hn; cases hl; exact regs_22 op rd rs1 rs2 imm w h1 h1' h2 h2' h3 h3'
  · cases hn; cases hl; exact regs_23 op rd rs1 rs2 imm w h1 h1' h2 h2' h3 h3'
  · cases hn; cases hl; exact regs_24 op rd rs1 rs2 imm w h1 h1' h2 h2' h3 h3'
  · cases hn; cases hl; exact regs_25 op rd rs1 rs2 imm w h1 h1' h2 h2' h3 h3'
  · cases hn; cases hl; exact regs_26 op rd rs1 rs2 imm w h1 h1' h2 h2' h3 h3'

end Go.Proofs.Ytppnmaklggkogaa

