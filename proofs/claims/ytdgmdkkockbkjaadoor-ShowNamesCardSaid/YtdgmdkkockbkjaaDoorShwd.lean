/- Contracts of package show: operand. -/
import Derived.Test.YtdgmdkkockbkjaaDoorShwc
namespace Go.Proofs.YtdgmdkkockbkjaaDoor
open Go.RowKit
set_option linter.unusedVariables false
set_option linter.unusedSimpArgs false

theorem opnd_d (i : In5) : opnd 100 i = regNP i.rd := rfl
theorem opnd_x (i : In5) : opnd 120 i = regNP i.rd := rfl
theorem opnd_s (i : In5) : opnd 115 i = regNP i.rs1 := rfl
theorem opnd_t (i : In5) : opnd 116 i = regNP i.rs2 := rfl
theorem opnd_u (i : In5) : opnd 117 i = Lib.itoa (i.imm % 4294967296 / 4096) := rfl
theorem opnd_m (i : In5) : opnd 109 i = Lib.itoa i.imm ++ ([40] ++ (regNP i.rs1 ++ [41])) := rfl
theorem opnd_j (i : In5) : opnd 106 i = [46] ++ (if 0 ≤ i.imm then [43] ++ Lib.itoa i.imm else Lib.itoa i.imm) := rfl
theorem opnd_i (i : In5) : opnd 105 i = Lib.itoa i.imm := rfl

/-- The letters that there are. -/
def letC (c : UInt8) : Prop := c = 100 ∨ c = 120 ∨ c = 115 ∨ c = 116 ∨ c = 117 ∨ c = 109 ∨ c = 106 ∨ c = 105

set_option maxHeartbeats 2000000 in
theorem operand_any (c : UInt8) (hc : letC c) (op rd rs1 rs2 imm : Int) (w : World) (h0 : -2147483648 ≤ imm) (h1 : imm ≤ 2147483647) (hN : NamesAt w) (hT : Tab w) :
    Calls Tryd.prog 16 #[.agg #[.int .i64 op, .int .i64 rd, .int .i64 rs1, .int .i64 rs2, .int .i32 imm], .int .i32 c.toNat] w fun e w' => e = .returned (.string (B (opnd c ⟨op, rd, rs1, rs2, imm⟩))) ∧ Nx w w' := by
  have HN := Lib.hid hN
  have HT := Lib.hid hT
  have HI := Lib.hid (And.intro h0 h1)
  have g1 := itoa_len imm (by omega) (by omega)
  have g2 := (regNP_opC rs1).2
  clear hN hT
  rcases hc with rfl | rfl | rfl | rfl | rfl | rfl | rfl | rfl
  all_goals
    go_enter Tryd.func16, Tryd.ntmps16
    go_wp2_with fail
    refine (gitoa_any imm (by omega) (by omega) _ (HT.out.nx ((Nx.refl w).alloc _))).mono ?_
    rintro e w2 ⟨rfl, hn2⟩
    obtain ⟨c0, c1, c2, c3, c4, hz⟩ := five_in hn2
    have H2 := Lib.hid (((Nx.refl w).alloc _).trans hn2)
    clear hn2
  · go_wp2_with fail
    refine (regName_any rd _ (HN.out.keep H2.out)).mono ?_
    rintro e w3 ⟨rfl, rfl⟩
    go_wp2
    go_ret
    refine ⟨?_, H2.out⟩
    rw [opnd_d]
    rfl
  · go_wp2_with fail
    refine (regName_any rd _ (HN.out.keep H2.out)).mono ?_
    rintro e w3 ⟨rfl, rfl⟩
    go_wp2
    go_ret
    refine ⟨?_, H2.out⟩
    rw [opnd_x]
    rfl
  · go_wp2_with fail
    refine (regName_any rs1 _ (HN.out.keep H2.out)).mono ?_
    rintro e w3 ⟨rfl, rfl⟩
    go_wp2
    go_ret
    refine ⟨?_, H2.out⟩
    rw [opnd_s]
    rfl
  · go_wp2_with fail
    refine (regName_any rs2 _ (HN.out.keep H2.out)).mono ?_
    rintro e w3 ⟨rfl, rfl⟩
    go_wp2
    go_ret
    refine ⟨?_, H2.out⟩
    rw [opnd_t]
    rfl
  · go_wp2_with fail
    refine (gitoa_any (imm % 4294967296 / 4096) (by omega) (by omega) _ (HT.out.nx H2.out)).mono ?_
    rintro e w3 ⟨rfl, hn3⟩
    have H3 := Lib.hid (H2.out.trans hn3)
    clear hn3
    go_wp2
    go_ret
    refine ⟨?_, H3.out⟩
    rw [opnd_u]
    rfl
  · have a1 := app_B (Lib.itoa imm) [40]
    have a2 := app_B (Lib.itoa imm ++ [40]) (regNP rs1)
    have a3 := app_B (Lib.itoa imm ++ [40] ++ regNP rs1) [41]
    have s1 : ¬ 9223372036854775807 < (Lib.itoa imm).length + 1 := by omega
    have s2 : (B (Lib.itoa imm ++ [40])).size + (B (regNP rs1)).size ≤ 9223372036854775807 := by show (Lib.itoa imm ++ [40]).length + (regNP rs1).length ≤ _; simp; omega
    have s3 : ¬ 9223372036854775807 < (Lib.itoa imm ++ [40] ++ regNP rs1).length + 1 := by simp; omega
    have HV := Lib.hid (show Lib.itoa imm ++ [40] ++ regNP rs1 ++ [41] = opnd 109 ⟨op, rd, rs1, rs2, imm⟩ by rw [opnd_m]; simp)
    have CR := Lib.hid (fun w h => regName_any rs1 w h)
    generalize Lib.itoa imm ++ [40] ++ regNP rs1 = x2 at *
    generalize Lib.itoa imm ++ [40] = x1 at *
    generalize regNP rs1 = x0 at *
    clear g1 g2
    go_wp2_with fail
    refine (CR.out _ (HN.out.keep H2.out)).mono ?_
    rintro e w3 ⟨rfl, rfl⟩
    go_wp2
    go_ret
    refine ⟨?_, H2.out⟩
    rw [HV.out]
    rfl
  · by_cases hs : 0 ≤ imm
    · have d0 : decide (0 ≤ imm) = true := decide_eq_true hs
      have a1 := app_B [43] (Lib.itoa imm)
      have a2 := app_B [46] ([43] ++ Lib.itoa imm)
      have s1 : ¬ 9223372036854775807 < 1 + (Lib.itoa imm).length := by omega
      have s2 : ¬ 9223372036854775807 < 1 + ([43] ++ Lib.itoa imm).length := by simp; omega
      have HV := Lib.hid (show [46] ++ ([43] ++ Lib.itoa imm) = opnd 106 ⟨op, rd, rs1, rs2, imm⟩ by rw [opnd_j, if_pos hs])
      generalize [43] ++ Lib.itoa imm = x1 at *
      clear g1 g2 hs
      go_wp2
      go_ret
      refine ⟨?_, H2.out⟩
      rw [← HV.out]
      rfl
    · have d0 : decide (0 ≤ imm) = false := decide_eq_false hs
      have a2 := app_B [46] (Lib.itoa imm)
      have s2 : ¬ 9223372036854775807 < 1 + (Lib.itoa imm).length := by omega
      have HV := Lib.hid (show [46] ++ Lib.itoa imm = opnd 106 ⟨op, rd, rs1, rs2, imm⟩ by rw [opnd_j, if_neg hs])
      clear g1 g2 hs
      go_wp2
      go_ret
      refine ⟨?_, H2.out⟩
      rw [← HV.out]
      rfl
  · clear g1 g2
    go_wp2
    go_ret
    refine ⟨?_, H2.out⟩
    rw [opnd_i]
    rfl

end Go.Proofs.YtdgmdkkockbkjaaDoor
