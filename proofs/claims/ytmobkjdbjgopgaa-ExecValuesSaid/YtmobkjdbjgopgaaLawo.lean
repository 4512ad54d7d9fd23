/- The walk of the law ExecValues. -/
import Derived.Test.YtmobkjdbjgopgaaReffx
import Derived.Test.YtmobkjdbjgopgaaLawk
import Derived.Test.YtmobkjdbjgopgaaOpen
namespace Go.Proofs.Ytmobkjdbjgopgaa
open Go.RowKit
set_option linter.unusedVariables false
set_option linter.unusedSimpArgs false

set_option maxHeartbeats 1000000 in
theorem ExecValues_walk (i : In5) (a b pc size : Int) (hi : -2147483648 ≤ i.imm ∧ i.imm ≤ 2147483647) (w1 : (Lit.int .u32 a).wf = true) (w2 : (Lit.int .u32 b).wf = true) (w3 : (Lit.int .u32 pc).wf = true) (w4 : (Lit.int .i64 size).wf = true) (w : World) :
    Calls Try.prog 3 #[.agg #[.int .i64 i.op, .int .i64 i.rd, .int .i64 i.rs1, .int .i64 i.rs2, .int .i32 i.imm], .int .u32 a, .int .u32 b, .int .u32 pc, .int .i64 size] w fun e w' => e = .returned (.bool true) ∧ Nx w w' := by
  obtain ⟨op, rd, rs1, rs2, imm⟩ := i
  obtain ⟨hv, hv'⟩ := hi
  obtain ⟨a1, a2⟩ := bounds_u32 w1
  obtain ⟨b1, b2⟩ := bounds_u32 w2
  obtain ⟨p1, p2⟩ := bounds_u32 w3
  simp only at hv hv'
  clear w1 w2 w3 w4
  have V1 := Lib.hid (fun w => value_any op rd rs1 rs2 imm a b pc size w hv hv' a1 (by omega) b1 (by omega) p1 (by omega))
  have V2 := Lib.hid (fun w => rvalue_any op rd rs1 rs2 imm a b pc size w hv hv' a1 (by omega) b1 (by omega) p1 (by omega))
  generalize (mayB op rd rs1 rs2 imm && valO op) = q1 at *
  generalize valX (mayB op rd rs1 rs2 imm) op a b pc imm size = X at *
  have h1 : (X == X) = true := by simp
  have h5 : (q1 == q1) = true := by simp
  go_enter Try.func3, Try.ntmps3
  go_wp2_with fail
  refine (awakek_any _).mono ?_
  rintro e wA ⟨rfl, hnA⟩
  obtain ⟨c0, c1, c2, c3, c4, hz⟩ := five_in hnA
  go_wp2_with fail
  refine (V1.out _).mono ?_
  rintro e wB ⟨rfl, hnB⟩
  obtain ⟨c0, c1, c2, c3, c4, hz⟩ := five_in (hnA.trans hnB)
  go_wp2_with fail
  refine (V2.out _).mono ?_
  rintro e wC ⟨rfl, hnC⟩
  have HC := Lib.hid (((Nx.refl w).alloc _).trans (hnA.trans (hnB.trans hnC)))
  clear hnA hnB hnC
  go_wp2
  go_ret
  exact ⟨rfl, HC.out⟩

end Go.Proofs.Ytmobkjdbjgopgaa
