/- Plain: what the machine decodes may be. -/
import Derived.Test.YtpaadeiopflfgaaDoorRefde
namespace Go.Proofs.YtpaadeiopflfgaaDoor
open Go.RowKit
set_option linter.unusedVariables false

theorem fit_sgn (v : Int) (n : Nat) (h : n ≤ 32) : fitB (sgn v n) n = true := by
  unfold fitB
  rw [beq_iff_eq, sgn_emod _ _ h, sgn_sgn]

theorem even_of (v : Int) (n : Nat) (h : v % 2 = 0) (hn : 0 < n) : sgn v n % 2 = 0 := by
  obtain ⟨k, rfl⟩ : ∃ k, n = k + 1 := ⟨n - 1, by omega⟩
  have h1 := Int.bmod_emod (x := v) (m := 2 ^ (k + 1))
  rw [pow_cast] at h1
  unfold sgn
  have h2 : (2 : Int) ∣ 2 ^ (k + 1) := ⟨2 ^ k, by rw [Int.pow_succ, Int.mul_comm]⟩
  have h3 := Int.emod_emod_of_dvd (Int.bmod v (2 ^ (k + 1))) h2
  have h4 := Int.emod_emod_of_dvd v h2
  rw [← h3, h1, h4, h]

theorem num_imm (f x : Int) (h : 1 ≤ f) (h9 : f ≤ 9) : numB f (immF f x) = true := by
  rcases (by omega : f = 1 ∨ f = 2 ∨ f = 3 ∨ f = 4 ∨ f = 5 ∨ f = 6 ∨ f = 7 ∨ f = 8 ∨ f = 9) with rfl | rfl | rfl | rfl | rfl | rfl | rfl | rfl | rfl
  · have h1 := jU_two x
    have h2 : vU x % 4096 = 0 := by unfold vU; omega
    simp only [numB, immF]
    simp
    omega
  · have h2 : vJ x % 2 = 0 := by unfold vJ; omega
    have e1 := even_of (vJ x) 21 h2 (by omega)
    have e2 := fit_sgn (vJ x) 21 (by omega)
    simp [numB, immF, jJ, e1, e2]
  · have h2 : vB x % 2 = 0 := by unfold vB; omega
    have e1 := even_of (vB x) 13 h2 (by omega)
    have e2 := fit_sgn (vB x) 13 (by omega)
    simp [numB, immF, jB, e1, e2]
  · have e2 := fit_sgn (vI x) 12 (by omega)
    simp [numB, immF, jI, e2]
  · have e2 := fit_sgn (vS x) 12 (by omega)
    simp [numB, immF, jS, e2]
  · have e2 := fit_sgn (vI x) 12 (by omega)
    simp [numB, immF, jI, e2]
  · simp [numB, immF]; omega
  · simp [numB, immF]
  · simp [numB, immF]

theorem reg_if (c : Bool) (n : Int) : regB (if c = true then n % 32 else 0) c = true := by
  cases c <;> simp [regB]; omega

theorem may_dec (x : Int) (h0 : (decP x).op ≠ 0) : mayB (decP x).op (decP x).rd (decP x).rs1 (decP x).rs2 (decP x).imm = true := by
  have e := dec_parts x h0
  have hf : ¬ formN (decP x).op = 0 := fun c => h0 (formN_zero x c)
  have hr := formN_range (decP x).op
  have q1 : (decP x).rd = _ := congrArg In5.rd e
  have q2 : (decP x).rs1 = _ := congrArg In5.rs1 e
  have q3 : (decP x).rs2 = _ := congrArg In5.rs2 e
  have q4 : (decP x).imm = _ := congrArg In5.imm e
  rw [q1, q2, q3, q4]
  generalize (decP x).op = op at *
  unfold mayB partsF
  dsimp only
  have a1 := reg_if (needD (formN op)) (x / 128)
  have a2 := reg_if (needS (formN op)) (x / 32768)
  have a3 := reg_if (needT (formN op)) (x / 1048576)
  have a4 := num_imm (formN op) x (by omega) (by omega)
  rw [a1, a2, a3, a4]
  simp [hf]

theorem may_decJ (x : Int) (h0 : ((decP x).op == 0) = false) : mayB (decJ x).op (decJ x).rd (decJ x).rs1 (decJ x).rs2 (decJ x).imm = true := by
  rw [beq_eq_false_iff_ne] at h0
  unfold decJ
  rw [if_neg h0]
  exact may_dec x h0

theorem dec_imm_bd (x : Int) : -2147483648 ≤ (decJ x).imm ∧ (decJ x).imm ≤ 2147483647 := by
  unfold decJ
  by_cases h0 : (decP x).op = 0
  · rw [if_pos h0]; exact ⟨by decide, by decide⟩
  · rw [if_neg h0]
    have e := dec_parts x h0
    have q4 : (decP x).imm = _ := congrArg In5.imm e
    rw [q4]
    unfold partsF immF
    dsimp only
    repeat' split
    · exact sgn_bd _ 32 (by omega)
    · exact sgn_bd _ 21 (by omega)
    · exact sgn_bd _ 13 (by omega)
    · exact sgn_bd _ 12 (by omega)
    · exact sgn_bd _ 12 (by omega)
    · omega
    · omega

end Go.Proofs.YtpaadeiopflfgaaDoor
