/- ExecRegs: the walk. -/
import Derived.Test.YtmobkjdbjgopgaaLawma
import Derived.Test.YtmobkjdbjgopgaaLawmb
import Derived.Test.YtmobkjdbjgopgaaLawmc
namespace Go.Proofs.Ytmobkjdbjgopgaa
open Go.RowKit
set_option linter.unusedVariables false
set_option linter.unusedSimpArgs false

theorem ExecRegs_walk (i : In5) (a b pc r : Int) (hi : -2147483648 ≤ i.imm ∧ i.imm ≤ 2147483647) (w1 : (Lit.int .u32 a).wf = true) (w2 : (Lit.int .u32 b).wf = true) (w3 : (Lit.int .u32 pc).wf = true) (w4 : (Lit.int .u8 r).wf = true) (w : World) :
    Calls Try.prog 7 #[.agg #[.int .i64 i.op, .int .i64 i.rd, .int .i64 i.rs1, .int .i64 i.rs2, .int .i32 i.imm], .int .u32 a, .int .u32 b, .int .u32 pc, .int .u8 r] w fun e w' => e = .returned (.bool true) ∧ Nx w w' := by
  obtain ⟨op, rd, rs1, rs2, imm⟩ := i
  obtain ⟨hv, hv'⟩ := hi
  obtain ⟨a1, a2⟩ := bounds_u32 w1
  obtain ⟨b1, b2⟩ := bounds_u32 w2
  obtain ⟨p1, p2⟩ := bounds_u32 w3
  obtain ⟨r1, r2⟩ := bounds_u8 w4
  simp only at hv hv'
  have hm := may_T op rd rs1 rs2 imm r (r / 2) r1 (by omega)
  have C1 : RegC op rd rs1 rs2 imm a b pc (valX (mayB op rd rs1 rs2 imm) op a b pc imm 4) (nextX (mayB op rd rs1 rs2 imm) op a b pc imm 4) (accX (mayB op rd rs1 rs2 imm) op a imm) (accXN (mayB op rd rs1 rs2 imm) op) (mayB op rd rs1 rs2 imm && valO op) (mayB op rd rs1 rs2 imm && accS op) (mayB op rd rs1 rs2 imm && accG op) :=
    ⟨fun w => value_any op rd rs1 rs2 imm a b pc 4 w hv hv' a1 (by omega) b1 (by omega) p1 (by omega), fun w => next_any op rd rs1 rs2 imm a b pc 4 w hv hv' a1 (by omega) b1 (by omega) p1 (by omega), fun w => access_any op rd rs1 rs2 imm a w hv hv' a1 (by omega)⟩
  have C2 : RegC op (regT rd r) (regT rs1 (r / 2)) rs2 imm a b pc (valX (mayB op rd rs1 rs2 imm) op a b pc imm 4) (nextX (mayB op rd rs1 rs2 imm) op a b pc imm 4) (accX (mayB op rd rs1 rs2 imm) op a imm) (accXN (mayB op rd rs1 rs2 imm) op) (mayB op rd rs1 rs2 imm && valO op) (mayB op rd rs1 rs2 imm && accS op) (mayB op rd rs1 rs2 imm && accG op) := by
    rw [← hm]
    exact ⟨fun w => value_any op _ _ rs2 imm a b pc 4 w hv hv' a1 (by omega) b1 (by omega) p1 (by omega), fun w => next_any op _ _ rs2 imm a b pc 4 w hv hv' a1 (by omega) b1 (by omega) p1 (by omega), fun w => access_any op _ _ rs2 imm a w hv hv' a1 (by omega)⟩
  rcases (by omega : (0 < rd ∧ rd < 32) ∨ rd ≤ 0 ∨ (0 < rd ∧ 32 ≤ rd)) with c | c | c <;> rcases (by omega : (0 < rs1 ∧ rs1 < 32) ∨ rs1 ≤ 0 ∨ (0 < rs1 ∧ 32 ≤ rs1)) with d | d | d
  · rw [show regT rd r = 1 + r % 31 from if_pos c, show regT rs1 (r / 2) = 1 + r / 2 % 31 from if_pos d] at C2
    exact regs_in_in op rd rs1 rs2 imm a b pc r _ _ _ _ _ _ _ r1 r2 c.1 c.2 d.1 d.2 C1 C2 w
  · rw [show regT rd r = 1 + r % 31 from if_pos c, show regT rs1 (r / 2) = rs1 from if_neg (by omega)] at C2
    exact regs_in_low op rd rs1 rs2 imm a b pc r _ _ _ _ _ _ _ r1 r2 c.1 c.2 d C1 C2 w
  · rw [show regT rd r = 1 + r % 31 from if_pos c, show regT rs1 (r / 2) = rs1 from if_neg (by omega)] at C2
    exact regs_in_high op rd rs1 rs2 imm a b pc r _ _ _ _ _ _ _ r1 r2 c.1 c.2 d.1 d.2 C1 C2 w
  · rw [show regT rd r = rd from if_neg (by omega), show regT rs1 (r / 2) = 1 + r / 2 % 31 from if_pos d] at C2
    exact regs_low_in op rd rs1 rs2 imm a b pc r _ _ _ _ _ _ _ r1 r2 c d.1 d.2 C1 C2 w
  · rw [show regT rd r = rd from if_neg (by omega), show regT rs1 (r / 2) = rs1 from if_neg (by omega)] at C2
    exact regs_low_low op rd rs1 rs2 imm a b pc r _ _ _ _ _ _ _ r1 r2 c d C1 C2 w
  · rw [show regT rd r = rd from if_neg (by omega), show regT rs1 (r / 2) = rs1 from if_neg (by omega)] at C2
    exact regs_low_high op rd rs1 rs2 imm a b pc r _ _ _ _ _ _ _ r1 r2 c d.1 d.2 C1 C2 w
  · rw [show regT rd r = rd from if_neg (by omega), show regT rs1 (r / 2) = 1 + r / 2 % 31 from if_pos d] at C2
    exact regs_high_in op rd rs1 rs2 imm a b pc r _ _ _ _ _ _ _ r1 r2 c.1 c.2 d.1 d.2 C1 C2 w
  · rw [show regT rd r = rd from if_neg (by omega), show regT rs1 (r / 2) = rs1 from if_neg (by omega)] at C2
    exact regs_high_low op rd rs1 rs2 imm a b pc r _ _ _ _ _ _ _ r1 r2 c.1 c.2 d C1 C2 w
  · rw [show regT rd r = rd from if_neg (by omega), show regT rs1 (r / 2) = rs1 from if_neg (by omega)] at C2
    exact regs_high_high op rd rs1 rs2 imm a b pc r _ _ _ _ _ _ _ r1 r2 c.1 c.2 d.1 d.2 C1 C2 w

end Go.Proofs.Ytmobkjdbjgopgaa
