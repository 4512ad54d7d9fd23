/- Plain: the program's word of an instruction is the plain one. -/
import Derived.Test.YtpaadeiopflfgaaDoorPutw
namespace Go.Proofs.YtpaadeiopflfgaaDoor
open Go.RowKit
set_option linter.unusedVariables false

theorem reg_n (n : Int) (b : Bool) (k : Nat) (h : regB n b = true) (hk : k = if b = true then 5 else 0) : 0 ≤ n ∧ n < 2 ^ k := by
  cases b <;> simp [regB] at h <;> subst hk <;> simp <;> omega

theorem reg_mul (n : Int) (k p : Nat) (hp : (p : Int) = 2 ^ k) (h : 0 ≤ n) (h' : n * 2 ^ k < 4294967296) : n * (p : Int) = n * 2 ^ k % 4294967296 := by
  rw [hp]
  have : 0 ≤ n * 2 ^ k := Int.mul_nonneg h (Int.le_of_lt (pow_pos' k))
  rw [Int.emod_eq_of_lt this h']

theorem row_sub (f K : Nat) (h : ∀ op : Fin 49, formN op.val = f → Sub (rowM op.val).toNat K) (op : Int) (h1 : 1 ≤ op) (h2 : op ≤ 48) (hf : formN op = f) : Sub (rowM op).toNat K := by
  obtain ⟨n, rfl⟩ := Int.eq_ofNat_of_zero_le (show 0 ≤ op by omega)
  exact h ⟨n, by omega⟩ hf

theorem row_nonneg (op : Int) (h1 : 1 ≤ op) (h2 : op ≤ 48) : 0 ≤ rowM op := by
  obtain ⟨n, rfl⟩ := Int.eq_ofNat_of_zero_le (show 0 ≤ op by omega)
  have h : ∀ n : Fin 49, 0 ≤ rowM n.val := by decide
  exact h ⟨n, by omega⟩

instance (a M : Nat) : Decidable (Sub a M) := inferInstanceAs (Decidable (a &&& M = a))

theorem put_plain1 (op rd rs1 rs2 imm : Int) (h1 : 1 ≤ op) (h2 : op ≤ 48) (hf : formN op = 1) (hd : regB rd true = true) (hs : regB rs1 false = true) (ht : regB rs2 false = true) :
    putW (formN op) imm (putM op rd rs1 rs2) 4 = enc5 ⟨op, rd, rs1, rs2, imm⟩ := by
  have k0 := row_sub 1 127 (by decide +kernel) op h1 h2 hf
  have z0 := row_nonneg op h1 h2
  obtain ⟨d1, d2⟩ := reg_n rd _ 5 hd rfl
  obtain ⟨s1, s2⟩ := reg_n rs1 _ 0 hs rfl
  obtain ⟨t1, t2⟩ := reg_n rs2 _ 0 ht rfl
  have e : enc5 ⟨op, rd, rs1, rs2, imm⟩ = rowM op + rd * 128 + rs1 * 32768 + rs2 * 1048576 + putImm 1 imm := by unfold enc5; rw [hf]
  rw [e, hf]
  unfold putM putImm
  have q1 : rd * 128 = rd * 2 ^ 7 % 4294967296 := reg_mul rd 7 128 (by decide) d1 (by simp at d2 ⊢; omega)
  have q2 : rs1 * 32768 = rs1 * 2 ^ 15 % 4294967296 := reg_mul rs1 15 32768 (by decide) s1 (by simp at s2 ⊢; omega)
  have q3 : rs2 * 1048576 = rs2 * 2 ^ 20 % 4294967296 := reg_mul rs2 20 1048576 (by decide) t1 (by simp at t2 ⊢; omega)
  obtain ⟨a1, k1, z1⟩ := or_int (rowM op) rd 127 3968 7 5 z0 k0 d1 d2 (by decide) (by decide) (by decide) (by decide)
  rw [show (127 ||| 3968 : Nat) = 4095 from by decide] at k1
  obtain ⟨a2, k2, z2⟩ := or_int (rowM op + rd * 2 ^ 7) rs1 4095 0 15 0 z1 k1 s1 s2 (by decide) (by decide) (by decide) (by decide)
  rw [show (4095 ||| 0 : Nat) = 4095 from by decide] at k2
  obtain ⟨a3, k3, z3⟩ := or_int (rowM op + rd * 2 ^ 7 + rs1 * 2 ^ 15) rs2 4095 0 20 0 z2 k2 t1 t2 (by decide) (by decide) (by decide) (by decide)
  rw [show (4095 ||| 0 : Nat) = 4095 from by decide] at k3
  obtain ⟨a4, k4, z4⟩ := or_int (rowM op + rd * 2 ^ 7 + rs1 * 2 ^ 15 + rs2 * 2 ^ 20) (fld (imm % 4294967296) 12 20) 4095 4294963200 12 20 z3 k3 (fld_nonneg _ _ _) (fld_lt _ _ _) (by decide) (by decide) (by decide) (by decide)
  rw [show (4095 ||| 4294963200 : Nat) = 4294967295 from by decide] at k4
  obtain ⟨a5, k5, z5⟩ := or_int (rowM op + rd * 2 ^ 7 + rs1 * 2 ^ 15 + rs2 * 2 ^ 20 + (fld (imm % 4294967296) 12 20) * 2 ^ 12) (fld (imm % 4294967296) 0 0) 4294967295 0 0 0 z4 k4 (fld_nonneg _ _ _) (fld_lt _ _ _) (by decide) (by decide) (by decide) (by decide)
  rw [show (4294967295 ||| 0 : Nat) = 4294967295 from by decide] at k5
  obtain ⟨a6, k6, z6⟩ := or_int (rowM op + rd * 2 ^ 7 + rs1 * 2 ^ 15 + rs2 * 2 ^ 20 + (fld (imm % 4294967296) 12 20) * 2 ^ 12 + (fld (imm % 4294967296) 0 0) * 2 ^ 0) (fld (imm % 4294967296) 0 0) 4294967295 0 0 0 z5 k5 (fld_nonneg _ _ _) (fld_lt _ _ _) (by decide) (by decide) (by decide) (by decide)
  rw [show (4294967295 ||| 0 : Nat) = 4294967295 from by decide] at k6
  obtain ⟨a7, k7, z7⟩ := or_int (rowM op + rd * 2 ^ 7 + rs1 * 2 ^ 15 + rs2 * 2 ^ 20 + (fld (imm % 4294967296) 12 20) * 2 ^ 12 + (fld (imm % 4294967296) 0 0) * 2 ^ 0 + (fld (imm % 4294967296) 0 0) * 2 ^ 0) (fld (imm % 4294967296) 0 0) 4294967295 0 0 0 z6 k6 (fld_nonneg _ _ _) (fld_lt _ _ _) (by decide) (by decide) (by decide) (by decide)
  rw [show (4294967295 ||| 0 : Nat) = 4294967295 from by decide] at k7
  have w0 : putW 1 imm (rowM op + rd * 2 ^ 7 + rs1 * 2 ^ 15 + rs2 * 2 ^ 20) 4 = rowM op + rd * 2 ^ 7 + rs1 * 2 ^ 15 + rs2 * 2 ^ 20 + (fld (imm % 4294967296) 12 20) * 2 ^ 12 + (fld (imm % 4294967296) 0 0) * 2 ^ 0 + (fld (imm % 4294967296) 0 0) * 2 ^ 0 + (fld (imm % 4294967296) 0 0) * 2 ^ 0 := by
    show bits BinOp.or IntKind.u32 (bits BinOp.or IntKind.u32 (bits BinOp.or IntKind.u32 (bits BinOp.or IntKind.u32 (rowM op + rd * 2 ^ 7 + rs1 * 2 ^ 15 + rs2 * 2 ^ 20) (fld (imm % 4294967296) 12 20 * 2 ^ 12 % 4294967296)) (fld (imm % 4294967296) 0 0 * 2 ^ 0 % 4294967296)) (fld (imm % 4294967296) 0 0 * 2 ^ 0 % 4294967296)) (fld (imm % 4294967296) 0 0 * 2 ^ 0 % 4294967296) = _
    rw [a4, a5, a6, a7]
  rw [q1, a1, q2, a2, q3, a3, w0]
  rw [fld_mod imm 12 20 (by decide)]
  rw [fld_mod imm 0 0 (by decide)]
  rw [show fld imm 0 0 = 0 from by unfold fld; simp]
  simp
  omega

theorem put_plain2 (op rd rs1 rs2 imm : Int) (h1 : 1 ≤ op) (h2 : op ≤ 48) (hf : formN op = 2) (hd : regB rd true = true) (hs : regB rs1 false = true) (ht : regB rs2 false = true) :
    putW (formN op) imm (putM op rd rs1 rs2) 4 = enc5 ⟨op, rd, rs1, rs2, imm⟩ := by
  have k0 := row_sub 2 127 (by decide +kernel) op h1 h2 hf
  have z0 := row_nonneg op h1 h2
  obtain ⟨d1, d2⟩ := reg_n rd _ 5 hd rfl
  obtain ⟨s1, s2⟩ := reg_n rs1 _ 0 hs rfl
  obtain ⟨t1, t2⟩ := reg_n rs2 _ 0 ht rfl
  have e : enc5 ⟨op, rd, rs1, rs2, imm⟩ = rowM op + rd * 128 + rs1 * 32768 + rs2 * 1048576 + putImm 2 imm := by unfold enc5; rw [hf]
  rw [e, hf]
  unfold putM putImm
  have q1 : rd * 128 = rd * 2 ^ 7 % 4294967296 := reg_mul rd 7 128 (by decide) d1 (by simp at d2 ⊢; omega)
  have q2 : rs1 * 32768 = rs1 * 2 ^ 15 % 4294967296 := reg_mul rs1 15 32768 (by decide) s1 (by simp at s2 ⊢; omega)
  have q3 : rs2 * 1048576 = rs2 * 2 ^ 20 % 4294967296 := reg_mul rs2 20 1048576 (by decide) t1 (by simp at t2 ⊢; omega)
  obtain ⟨a1, k1, z1⟩ := or_int (rowM op) rd 127 3968 7 5 z0 k0 d1 d2 (by decide) (by decide) (by decide) (by decide)
  rw [show (127 ||| 3968 : Nat) = 4095 from by decide] at k1
  obtain ⟨a2, k2, z2⟩ := or_int (rowM op + rd * 2 ^ 7) rs1 4095 0 15 0 z1 k1 s1 s2 (by decide) (by decide) (by decide) (by decide)
  rw [show (4095 ||| 0 : Nat) = 4095 from by decide] at k2
  obtain ⟨a3, k3, z3⟩ := or_int (rowM op + rd * 2 ^ 7 + rs1 * 2 ^ 15) rs2 4095 0 20 0 z2 k2 t1 t2 (by decide) (by decide) (by decide) (by decide)
  rw [show (4095 ||| 0 : Nat) = 4095 from by decide] at k3
  obtain ⟨a4, k4, z4⟩ := or_int (rowM op + rd * 2 ^ 7 + rs1 * 2 ^ 15 + rs2 * 2 ^ 20) (fld (imm % 4294967296) 20 1) 4095 2147483648 31 1 z3 k3 (fld_nonneg _ _ _) (fld_lt _ _ _) (by decide) (by decide) (by decide) (by decide)
  rw [show (4095 ||| 2147483648 : Nat) = 2147487743 from by decide] at k4
  obtain ⟨a5, k5, z5⟩ := or_int (rowM op + rd * 2 ^ 7 + rs1 * 2 ^ 15 + rs2 * 2 ^ 20 + (fld (imm % 4294967296) 20 1) * 2 ^ 31) (fld (imm % 4294967296) 12 8) 2147487743 1044480 12 8 z4 k4 (fld_nonneg _ _ _) (fld_lt _ _ _) (by decide) (by decide) (by decide) (by decide)
  rw [show (2147487743 ||| 1044480 : Nat) = 2148532223 from by decide] at k5
  obtain ⟨a6, k6, z6⟩ := or_int (rowM op + rd * 2 ^ 7 + rs1 * 2 ^ 15 + rs2 * 2 ^ 20 + (fld (imm % 4294967296) 20 1) * 2 ^ 31 + (fld (imm % 4294967296) 12 8) * 2 ^ 12) (fld (imm % 4294967296) 11 1) 2148532223 1048576 20 1 z5 k5 (fld_nonneg _ _ _) (fld_lt _ _ _) (by decide) (by decide) (by decide) (by decide)
  rw [show (2148532223 ||| 1048576 : Nat) = 2149580799 from by decide] at k6
  obtain ⟨a7, k7, z7⟩ := or_int (rowM op + rd * 2 ^ 7 + rs1 * 2 ^ 15 + rs2 * 2 ^ 20 + (fld (imm % 4294967296) 20 1) * 2 ^ 31 + (fld (imm % 4294967296) 12 8) * 2 ^ 12 + (fld (imm % 4294967296) 11 1) * 2 ^ 20) (fld (imm % 4294967296) 1 10) 2149580799 2145386496 21 10 z6 k6 (fld_nonneg _ _ _) (fld_lt _ _ _) (by decide) (by decide) (by decide) (by decide)
  rw [show (2149580799 ||| 2145386496 : Nat) = 4294967295 from by decide] at k7
  have w0 : putW 2 imm (rowM op + rd * 2 ^ 7 + rs1 * 2 ^ 15 + rs2 * 2 ^ 20) 4 = rowM op + rd * 2 ^ 7 + rs1 * 2 ^ 15 + rs2 * 2 ^ 20 + (fld (imm % 4294967296) 20 1) * 2 ^ 31 + (fld (imm % 4294967296) 12 8) * 2 ^ 12 + (fld (imm % 4294967296) 11 1) * 2 ^ 20 + (fld (imm % 4294967296) 1 10) * 2 ^ 21 := by
    show bits BinOp.or IntKind.u32 (bits BinOp.or IntKind.u32 (bits BinOp.or IntKind.u32 (bits BinOp.or IntKind.u32 (rowM op + rd * 2 ^ 7 + rs1 * 2 ^ 15 + rs2 * 2 ^ 20) (fld (imm % 4294967296) 20 1 * 2 ^ 31 % 4294967296)) (fld (imm % 4294967296) 12 8 * 2 ^ 12 % 4294967296)) (fld (imm % 4294967296) 11 1 * 2 ^ 20 % 4294967296)) (fld (imm % 4294967296) 1 10 * 2 ^ 21 % 4294967296) = _
    rw [a4, a5, a6, a7]
  rw [q1, a1, q2, a2, q3, a3, w0]
  rw [fld_mod imm 20 1 (by decide)]
  rw [fld_mod imm 12 8 (by decide)]
  rw [fld_mod imm 11 1 (by decide)]
  rw [fld_mod imm 1 10 (by decide)]
  simp
  omega

theorem put_plain3 (op rd rs1 rs2 imm : Int) (h1 : 1 ≤ op) (h2 : op ≤ 48) (hf : formN op = 3) (hd : regB rd false = true) (hs : regB rs1 true = true) (ht : regB rs2 true = true) :
    putW (formN op) imm (putM op rd rs1 rs2) 4 = enc5 ⟨op, rd, rs1, rs2, imm⟩ := by
  have k0 := row_sub 3 28799 (by decide +kernel) op h1 h2 hf
  have z0 := row_nonneg op h1 h2
  obtain ⟨d1, d2⟩ := reg_n rd _ 0 hd rfl
  obtain ⟨s1, s2⟩ := reg_n rs1 _ 5 hs rfl
  obtain ⟨t1, t2⟩ := reg_n rs2 _ 5 ht rfl
  have e : enc5 ⟨op, rd, rs1, rs2, imm⟩ = rowM op + rd * 128 + rs1 * 32768 + rs2 * 1048576 + putImm 3 imm := by unfold enc5; rw [hf]
  rw [e, hf]
  unfold putM putImm
  have q1 : rd * 128 = rd * 2 ^ 7 % 4294967296 := reg_mul rd 7 128 (by decide) d1 (by simp at d2 ⊢; omega)
  have q2 : rs1 * 32768 = rs1 * 2 ^ 15 % 4294967296 := reg_mul rs1 15 32768 (by decide) s1 (by simp at s2 ⊢; omega)
  have q3 : rs2 * 1048576 = rs2 * 2 ^ 20 % 4294967296 := reg_mul rs2 20 1048576 (by decide) t1 (by simp at t2 ⊢; omega)
  obtain ⟨a1, k1, z1⟩ := or_int (rowM op) rd 28799 0 7 0 z0 k0 d1 d2 (by decide) (by decide) (by decide) (by decide)
  rw [show (28799 ||| 0 : Nat) = 28799 from by decide] at k1
  obtain ⟨a2, k2, z2⟩ := or_int (rowM op + rd * 2 ^ 7) rs1 28799 1015808 15 5 z1 k1 s1 s2 (by decide) (by decide) (by decide) (by decide)
  rw [show (28799 ||| 1015808 : Nat) = 1044607 from by decide] at k2
  obtain ⟨a3, k3, z3⟩ := or_int (rowM op + rd * 2 ^ 7 + rs1 * 2 ^ 15) rs2 1044607 32505856 20 5 z2 k2 t1 t2 (by decide) (by decide) (by decide) (by decide)
  rw [show (1044607 ||| 32505856 : Nat) = 33550463 from by decide] at k3
  obtain ⟨a4, k4, z4⟩ := or_int (rowM op + rd * 2 ^ 7 + rs1 * 2 ^ 15 + rs2 * 2 ^ 20) (fld (imm % 4294967296) 12 1) 33550463 2147483648 31 1 z3 k3 (fld_nonneg _ _ _) (fld_lt _ _ _) (by decide) (by decide) (by decide) (by decide)
  rw [show (33550463 ||| 2147483648 : Nat) = 2181034111 from by decide] at k4
  obtain ⟨a5, k5, z5⟩ := or_int (rowM op + rd * 2 ^ 7 + rs1 * 2 ^ 15 + rs2 * 2 ^ 20 + (fld (imm % 4294967296) 12 1) * 2 ^ 31) (fld (imm % 4294967296) 11 1) 2181034111 128 7 1 z4 k4 (fld_nonneg _ _ _) (fld_lt _ _ _) (by decide) (by decide) (by decide) (by decide)
  rw [show (2181034111 ||| 128 : Nat) = 2181034239 from by decide] at k5
  obtain ⟨a6, k6, z6⟩ := or_int (rowM op + rd * 2 ^ 7 + rs1 * 2 ^ 15 + rs2 * 2 ^ 20 + (fld (imm % 4294967296) 12 1) * 2 ^ 31 + (fld (imm % 4294967296) 11 1) * 2 ^ 7) (fld (imm % 4294967296) 5 6) 2181034239 2113929216 25 6 z5 k5 (fld_nonneg _ _ _) (fld_lt _ _ _) (by decide) (by decide) (by decide) (by decide)
  rw [show (2181034239 ||| 2113929216 : Nat) = 4294963455 from by decide] at k6
  obtain ⟨a7, k7, z7⟩ := or_int (rowM op + rd * 2 ^ 7 + rs1 * 2 ^ 15 + rs2 * 2 ^ 20 + (fld (imm % 4294967296) 12 1) * 2 ^ 31 + (fld (imm % 4294967296) 11 1) * 2 ^ 7 + (fld (imm % 4294967296) 5 6) * 2 ^ 25) (fld (imm % 4294967296) 1 4) 4294963455 3840 8 4 z6 k6 (fld_nonneg _ _ _) (fld_lt _ _ _) (by decide) (by decide) (by decide) (by decide)
  rw [show (4294963455 ||| 3840 : Nat) = 4294967295 from by decide] at k7
  have w0 : putW 3 imm (rowM op + rd * 2 ^ 7 + rs1 * 2 ^ 15 + rs2 * 2 ^ 20) 4 = rowM op + rd * 2 ^ 7 + rs1 * 2 ^ 15 + rs2 * 2 ^ 20 + (fld (imm % 4294967296) 12 1) * 2 ^ 31 + (fld (imm % 4294967296) 11 1) * 2 ^ 7 + (fld (imm % 4294967296) 5 6) * 2 ^ 25 + (fld (imm % 4294967296) 1 4) * 2 ^ 8 := by
    show bits BinOp.or IntKind.u32 (bits BinOp.or IntKind.u32 (bits BinOp.or IntKind.u32 (bits BinOp.or IntKind.u32 (rowM op + rd * 2 ^ 7 + rs1 * 2 ^ 15 + rs2 * 2 ^ 20) (fld (imm % 4294967296) 12 1 * 2 ^ 31 % 4294967296)) (fld (imm % 4294967296) 11 1 * 2 ^ 7 % 4294967296)) (fld (imm % 4294967296) 5 6 * 2 ^ 25 % 4294967296)) (fld (imm % 4294967296) 1 4 * 2 ^ 8 % 4294967296) = _
    rw [a4, a5, a6, a7]
  rw [q1, a1, q2, a2, q3, a3, w0]
  rw [fld_mod imm 12 1 (by decide)]
  rw [fld_mod imm 11 1 (by decide)]
  rw [fld_mod imm 5 6 (by decide)]
  rw [fld_mod imm 1 4 (by decide)]
  simp
  omega

theorem put_plain4 (op rd rs1 rs2 imm : Int) (h1 : 1 ≤ op) (h2 : op ≤ 48) (hf : formN op = 4) (hd : regB rd true = true) (hs : regB rs1 true = true) (ht : regB rs2 false = true) :
    putW (formN op) imm (putM op rd rs1 rs2) 4 = enc5 ⟨op, rd, rs1, rs2, imm⟩ := by
  have k0 := row_sub 4 28799 (by decide +kernel) op h1 h2 hf
  have z0 := row_nonneg op h1 h2
  obtain ⟨d1, d2⟩ := reg_n rd _ 5 hd rfl
  obtain ⟨s1, s2⟩ := reg_n rs1 _ 5 hs rfl
  obtain ⟨t1, t2⟩ := reg_n rs2 _ 0 ht rfl
  have e : enc5 ⟨op, rd, rs1, rs2, imm⟩ = rowM op + rd * 128 + rs1 * 32768 + rs2 * 1048576 + putImm 4 imm := by unfold enc5; rw [hf]
  rw [e, hf]
  unfold putM putImm
  have q1 : rd * 128 = rd * 2 ^ 7 % 4294967296 := reg_mul rd 7 128 (by decide) d1 (by simp at d2 ⊢; omega)
  have q2 : rs1 * 32768 = rs1 * 2 ^ 15 % 4294967296 := reg_mul rs1 15 32768 (by decide) s1 (by simp at s2 ⊢; omega)
  have q3 : rs2 * 1048576 = rs2 * 2 ^ 20 % 4294967296 := reg_mul rs2 20 1048576 (by decide) t1 (by simp at t2 ⊢; omega)
  obtain ⟨a1, k1, z1⟩ := or_int (rowM op) rd 28799 3968 7 5 z0 k0 d1 d2 (by decide) (by decide) (by decide) (by decide)
  rw [show (28799 ||| 3968 : Nat) = 32767 from by decide] at k1
  obtain ⟨a2, k2, z2⟩ := or_int (rowM op + rd * 2 ^ 7) rs1 32767 1015808 15 5 z1 k1 s1 s2 (by decide) (by decide) (by decide) (by decide)
  rw [show (32767 ||| 1015808 : Nat) = 1048575 from by decide] at k2
  obtain ⟨a3, k3, z3⟩ := or_int (rowM op + rd * 2 ^ 7 + rs1 * 2 ^ 15) rs2 1048575 0 20 0 z2 k2 t1 t2 (by decide) (by decide) (by decide) (by decide)
  rw [show (1048575 ||| 0 : Nat) = 1048575 from by decide] at k3
  obtain ⟨a4, k4, z4⟩ := or_int (rowM op + rd * 2 ^ 7 + rs1 * 2 ^ 15 + rs2 * 2 ^ 20) (fld (imm % 4294967296) 0 12) 1048575 4293918720 20 12 z3 k3 (fld_nonneg _ _ _) (fld_lt _ _ _) (by decide) (by decide) (by decide) (by decide)
  rw [show (1048575 ||| 4293918720 : Nat) = 4294967295 from by decide] at k4
  obtain ⟨a5, k5, z5⟩ := or_int (rowM op + rd * 2 ^ 7 + rs1 * 2 ^ 15 + rs2 * 2 ^ 20 + (fld (imm % 4294967296) 0 12) * 2 ^ 20) (fld (imm % 4294967296) 0 0) 4294967295 0 0 0 z4 k4 (fld_nonneg _ _ _) (fld_lt _ _ _) (by decide) (by decide) (by decide) (by decide)
  rw [show (4294967295 ||| 0 : Nat) = 4294967295 from by decide] at k5
  obtain ⟨a6, k6, z6⟩ := or_int (rowM op + rd * 2 ^ 7 + rs1 * 2 ^ 15 + rs2 * 2 ^ 20 + (fld (imm % 4294967296) 0 12) * 2 ^ 20 + (fld (imm % 4294967296) 0 0) * 2 ^ 0) (fld (imm % 4294967296) 0 0) 4294967295 0 0 0 z5 k5 (fld_nonneg _ _ _) (fld_lt _ _ _) (by decide) (by decide) (by decide) (by decide)
  rw [show (4294967295 ||| 0 : Nat) = 4294967295 from by decide] at k6
  obtain ⟨a7, k7, z7⟩ := or_int (rowM op + rd * 2 ^ 7 + rs1 * 2 ^ 15 + rs2 * 2 ^ 20 + (fld (imm % 4294967296) 0 12) * 2 ^ 20 + (fld (imm % 4294967296) 0 0) * 2 ^ 0 + (fld (imm % 4294967296) 0 0) * 2 ^ 0) (fld (imm % 4294967296) 0 0) 4294967295 0 0 0 z6 k6 (fld_nonneg _ _ _) (fld_lt _ _ _) (by decide) (by decide) (by decide) (by decide)
  rw [show (4294967295 ||| 0 : Nat) = 4294967295 from by decide] at k7
  have w0 : putW 4 imm (rowM op + rd * 2 ^ 7 + rs1 * 2 ^ 15 + rs2 * 2 ^ 20) 4 = rowM op + rd * 2 ^ 7 + rs1 * 2 ^ 15 + rs2 * 2 ^ 20 + (fld (imm % 4294967296) 0 12) * 2 ^ 20 + (fld (imm % 4294967296) 0 0) * 2 ^ 0 + (fld (imm % 4294967296) 0 0) * 2 ^ 0 + (fld (imm % 4294967296) 0 0) * 2 ^ 0 := by
    show bits BinOp.or IntKind.u32 (bits BinOp.or IntKind.u32 (bits BinOp.or IntKind.u32 (bits BinOp.or IntKind.u32 (rowM op + rd * 2 ^ 7 + rs1 * 2 ^ 15 + rs2 * 2 ^ 20) (fld (imm % 4294967296) 0 12 * 2 ^ 20 % 4294967296)) (fld (imm % 4294967296) 0 0 * 2 ^ 0 % 4294967296)) (fld (imm % 4294967296) 0 0 * 2 ^ 0 % 4294967296)) (fld (imm % 4294967296) 0 0 * 2 ^ 0 % 4294967296) = _
    rw [a4, a5, a6, a7]
  rw [q1, a1, q2, a2, q3, a3, w0]
  rw [fld_mod imm 0 12 (by decide)]
  rw [fld_mod imm 0 0 (by decide)]
  rw [show fld imm 0 0 = 0 from by unfold fld; simp]
  simp
  omega

theorem put_plain5 (op rd rs1 rs2 imm : Int) (h1 : 1 ≤ op) (h2 : op ≤ 48) (hf : formN op = 5) (hd : regB rd false = true) (hs : regB rs1 true = true) (ht : regB rs2 true = true) :
    putW (formN op) imm (putM op rd rs1 rs2) 4 = enc5 ⟨op, rd, rs1, rs2, imm⟩ := by
  have k0 := row_sub 5 28799 (by decide +kernel) op h1 h2 hf
  have z0 := row_nonneg op h1 h2
  obtain ⟨d1, d2⟩ := reg_n rd _ 0 hd rfl
  obtain ⟨s1, s2⟩ := reg_n rs1 _ 5 hs rfl
  obtain ⟨t1, t2⟩ := reg_n rs2 _ 5 ht rfl
  have e : enc5 ⟨op, rd, rs1, rs2, imm⟩ = rowM op + rd * 128 + rs1 * 32768 + rs2 * 1048576 + putImm 5 imm := by unfold enc5; rw [hf]
  rw [e, hf]
  unfold putM putImm
  have q1 : rd * 128 = rd * 2 ^ 7 % 4294967296 := reg_mul rd 7 128 (by decide) d1 (by simp at d2 ⊢; omega)
  have q2 : rs1 * 32768 = rs1 * 2 ^ 15 % 4294967296 := reg_mul rs1 15 32768 (by decide) s1 (by simp at s2 ⊢; omega)
  have q3 : rs2 * 1048576 = rs2 * 2 ^ 20 % 4294967296 := reg_mul rs2 20 1048576 (by decide) t1 (by simp at t2 ⊢; omega)
  obtain ⟨a1, k1, z1⟩ := or_int (rowM op) rd 28799 0 7 0 z0 k0 d1 d2 (by decide) (by decide) (by decide) (by decide)
  rw [show (28799 ||| 0 : Nat) = 28799 from by decide] at k1
  obtain ⟨a2, k2, z2⟩ := or_int (rowM op + rd * 2 ^ 7) rs1 28799 1015808 15 5 z1 k1 s1 s2 (by decide) (by decide) (by decide) (by decide)
  rw [show (28799 ||| 1015808 : Nat) = 1044607 from by decide] at k2
  obtain ⟨a3, k3, z3⟩ := or_int (rowM op + rd * 2 ^ 7 + rs1 * 2 ^ 15) rs2 1044607 32505856 20 5 z2 k2 t1 t2 (by decide) (by decide) (by decide) (by decide)
  rw [show (1044607 ||| 32505856 : Nat) = 33550463 from by decide] at k3
  obtain ⟨a4, k4, z4⟩ := or_int (rowM op + rd * 2 ^ 7 + rs1 * 2 ^ 15 + rs2 * 2 ^ 20) (fld (imm % 4294967296) 5 7) 33550463 4261412864 25 7 z3 k3 (fld_nonneg _ _ _) (fld_lt _ _ _) (by decide) (by decide) (by decide) (by decide)
  rw [show (33550463 ||| 4261412864 : Nat) = 4294963327 from by decide] at k4
  obtain ⟨a5, k5, z5⟩ := or_int (rowM op + rd * 2 ^ 7 + rs1 * 2 ^ 15 + rs2 * 2 ^ 20 + (fld (imm % 4294967296) 5 7) * 2 ^ 25) (fld (imm % 4294967296) 0 5) 4294963327 3968 7 5 z4 k4 (fld_nonneg _ _ _) (fld_lt _ _ _) (by decide) (by decide) (by decide) (by decide)
  rw [show (4294963327 ||| 3968 : Nat) = 4294967295 from by decide] at k5
  obtain ⟨a6, k6, z6⟩ := or_int (rowM op + rd * 2 ^ 7 + rs1 * 2 ^ 15 + rs2 * 2 ^ 20 + (fld (imm % 4294967296) 5 7) * 2 ^ 25 + (fld (imm % 4294967296) 0 5) * 2 ^ 7) (fld (imm % 4294967296) 0 0) 4294967295 0 0 0 z5 k5 (fld_nonneg _ _ _) (fld_lt _ _ _) (by decide) (by decide) (by decide) (by decide)
  rw [show (4294967295 ||| 0 : Nat) = 4294967295 from by decide] at k6
  obtain ⟨a7, k7, z7⟩ := or_int (rowM op + rd * 2 ^ 7 + rs1 * 2 ^ 15 + rs2 * 2 ^ 20 + (fld (imm % 4294967296) 5 7) * 2 ^ 25 + (fld (imm % 4294967296) 0 5) * 2 ^ 7 + (fld (imm % 4294967296) 0 0) * 2 ^ 0) (fld (imm % 4294967296) 0 0) 4294967295 0 0 0 z6 k6 (fld_nonneg _ _ _) (fld_lt _ _ _) (by decide) (by decide) (by decide) (by decide)
  rw [show (4294967295 ||| 0 : Nat) = 4294967295 from by decide] at k7
  have w0 : putW 5 imm (rowM op + rd * 2 ^ 7 + rs1 * 2 ^ 15 + rs2 * 2 ^ 20) 4 = rowM op + rd * 2 ^ 7 + rs1 * 2 ^ 15 + rs2 * 2 ^ 20 + (fld (imm % 4294967296) 5 7) * 2 ^ 25 + (fld (imm % 4294967296) 0 5) * 2 ^ 7 + (fld (imm % 4294967296) 0 0) * 2 ^ 0 + (fld (imm % 4294967296) 0 0) * 2 ^ 0 := by
    show bits BinOp.or IntKind.u32 (bits BinOp.or IntKind.u32 (bits BinOp.or IntKind.u32 (bits BinOp.or IntKind.u32 (rowM op + rd * 2 ^ 7 + rs1 * 2 ^ 15 + rs2 * 2 ^ 20) (fld (imm % 4294967296) 5 7 * 2 ^ 25 % 4294967296)) (fld (imm % 4294967296) 0 5 * 2 ^ 7 % 4294967296)) (fld (imm % 4294967296) 0 0 * 2 ^ 0 % 4294967296)) (fld (imm % 4294967296) 0 0 * 2 ^ 0 % 4294967296) = _
    rw [a4, a5, a6, a7]
  rw [q1, a1, q2, a2, q3, a3, w0]
  rw [fld_mod imm 5 7 (by decide)]
  rw [fld_mod imm 0 5 (by decide)]
  rw [fld_mod imm 0 0 (by decide)]
  rw [show fld imm 0 0 = 0 from by unfold fld; simp]
  simp
  omega

theorem put_plain6 (op rd rs1 rs2 imm : Int) (h1 : 1 ≤ op) (h2 : op ≤ 48) (hf : formN op = 6) (hd : regB rd true = true) (hs : regB rs1 true = true) (ht : regB rs2 false = true) :
    putW (formN op) imm (putM op rd rs1 rs2) 4 = enc5 ⟨op, rd, rs1, rs2, imm⟩ := by
  have k0 := row_sub 6 28799 (by decide +kernel) op h1 h2 hf
  have z0 := row_nonneg op h1 h2
  obtain ⟨d1, d2⟩ := reg_n rd _ 5 hd rfl
  obtain ⟨s1, s2⟩ := reg_n rs1 _ 5 hs rfl
  obtain ⟨t1, t2⟩ := reg_n rs2 _ 0 ht rfl
  have e : enc5 ⟨op, rd, rs1, rs2, imm⟩ = rowM op + rd * 128 + rs1 * 32768 + rs2 * 1048576 + putImm 6 imm := by unfold enc5; rw [hf]
  rw [e, hf]
  unfold putM putImm
  have q1 : rd * 128 = rd * 2 ^ 7 % 4294967296 := reg_mul rd 7 128 (by decide) d1 (by simp at d2 ⊢; omega)
  have q2 : rs1 * 32768 = rs1 * 2 ^ 15 % 4294967296 := reg_mul rs1 15 32768 (by decide) s1 (by simp at s2 ⊢; omega)
  have q3 : rs2 * 1048576 = rs2 * 2 ^ 20 % 4294967296 := reg_mul rs2 20 1048576 (by decide) t1 (by simp at t2 ⊢; omega)
  obtain ⟨a1, k1, z1⟩ := or_int (rowM op) rd 28799 3968 7 5 z0 k0 d1 d2 (by decide) (by decide) (by decide) (by decide)
  rw [show (28799 ||| 3968 : Nat) = 32767 from by decide] at k1
  obtain ⟨a2, k2, z2⟩ := or_int (rowM op + rd * 2 ^ 7) rs1 32767 1015808 15 5 z1 k1 s1 s2 (by decide) (by decide) (by decide) (by decide)
  rw [show (32767 ||| 1015808 : Nat) = 1048575 from by decide] at k2
  obtain ⟨a3, k3, z3⟩ := or_int (rowM op + rd * 2 ^ 7 + rs1 * 2 ^ 15) rs2 1048575 0 20 0 z2 k2 t1 t2 (by decide) (by decide) (by decide) (by decide)
  rw [show (1048575 ||| 0 : Nat) = 1048575 from by decide] at k3
  obtain ⟨a4, k4, z4⟩ := or_int (rowM op + rd * 2 ^ 7 + rs1 * 2 ^ 15 + rs2 * 2 ^ 20) (fld (imm % 4294967296) 0 12) 1048575 4293918720 20 12 z3 k3 (fld_nonneg _ _ _) (fld_lt _ _ _) (by decide) (by decide) (by decide) (by decide)
  rw [show (1048575 ||| 4293918720 : Nat) = 4294967295 from by decide] at k4
  obtain ⟨a5, k5, z5⟩ := or_int (rowM op + rd * 2 ^ 7 + rs1 * 2 ^ 15 + rs2 * 2 ^ 20 + (fld (imm % 4294967296) 0 12) * 2 ^ 20) (fld (imm % 4294967296) 0 0) 4294967295 0 0 0 z4 k4 (fld_nonneg _ _ _) (fld_lt _ _ _) (by decide) (by decide) (by decide) (by decide)
  rw [show (4294967295 ||| 0 : Nat) = 4294967295 from by decide] at k5
  obtain ⟨a6, k6, z6⟩ := or_int (rowM op + rd * 2 ^ 7 + rs1 * 2 ^ 15 + rs2 * 2 ^ 20 + (fld (imm % 4294967296) 0 12) * 2 ^ 20 + (fld (imm % 4294967296) 0 0) * 2 ^ 0) (fld (imm % 4294967296) 0 0) 4294967295 0 0 0 z5 k5 (fld_nonneg _ _ _) (fld_lt _ _ _) (by decide) (by decide) (by decide) (by decide)
  rw [show (4294967295 ||| 0 : Nat) = 4294967295 from by decide] at k6
  obtain ⟨a7, k7, z7⟩ := or_int (rowM op + rd * 2 ^ 7 + rs1 * 2 ^ 15 + rs2 * 2 ^ 20 + (fld (imm % 4294967296) 0 12) * 2 ^ 20 + (fld (imm % 4294967296) 0 0) * 2 ^ 0 + (fld (imm % 4294967296) 0 0) * 2 ^ 0) (fld (imm % 4294967296) 0 0) 4294967295 0 0 0 z6 k6 (fld_nonneg _ _ _) (fld_lt _ _ _) (by decide) (by decide) (by decide) (by decide)
  rw [show (4294967295 ||| 0 : Nat) = 4294967295 from by decide] at k7
  have w0 : putW 6 imm (rowM op + rd * 2 ^ 7 + rs1 * 2 ^ 15 + rs2 * 2 ^ 20) 4 = rowM op + rd * 2 ^ 7 + rs1 * 2 ^ 15 + rs2 * 2 ^ 20 + (fld (imm % 4294967296) 0 12) * 2 ^ 20 + (fld (imm % 4294967296) 0 0) * 2 ^ 0 + (fld (imm % 4294967296) 0 0) * 2 ^ 0 + (fld (imm % 4294967296) 0 0) * 2 ^ 0 := by
    show bits BinOp.or IntKind.u32 (bits BinOp.or IntKind.u32 (bits BinOp.or IntKind.u32 (bits BinOp.or IntKind.u32 (rowM op + rd * 2 ^ 7 + rs1 * 2 ^ 15 + rs2 * 2 ^ 20) (fld (imm % 4294967296) 0 12 * 2 ^ 20 % 4294967296)) (fld (imm % 4294967296) 0 0 * 2 ^ 0 % 4294967296)) (fld (imm % 4294967296) 0 0 * 2 ^ 0 % 4294967296)) (fld (imm % 4294967296) 0 0 * 2 ^ 0 % 4294967296) = _
    rw [a4, a5, a6, a7]
  rw [q1, a1, q2, a2, q3, a3, w0]
  rw [fld_mod imm 0 12 (by decide)]
  rw [fld_mod imm 0 0 (by decide)]
  rw [show fld imm 0 0 = 0 from by unfold fld; simp]
  simp
  omega

theorem put_plain7 (op rd rs1 rs2 imm : Int) (h1 : 1 ≤ op) (h2 : op ≤ 48) (hf : formN op = 7) (hd : regB rd true = true) (hs : regB rs1 true = true) (ht : regB rs2 false = true) :
    putW (formN op) imm (putM op rd rs1 rs2) 4 = enc5 ⟨op, rd, rs1, rs2, imm⟩ := by
  have k0 := row_sub 7 4261441663 (by decide +kernel) op h1 h2 hf
  have z0 := row_nonneg op h1 h2
  obtain ⟨d1, d2⟩ := reg_n rd _ 5 hd rfl
  obtain ⟨s1, s2⟩ := reg_n rs1 _ 5 hs rfl
  obtain ⟨t1, t2⟩ := reg_n rs2 _ 0 ht rfl
  have e : enc5 ⟨op, rd, rs1, rs2, imm⟩ = rowM op + rd * 128 + rs1 * 32768 + rs2 * 1048576 + putImm 7 imm := by unfold enc5; rw [hf]
  rw [e, hf]
  unfold putM putImm
  have q1 : rd * 128 = rd * 2 ^ 7 % 4294967296 := reg_mul rd 7 128 (by decide) d1 (by simp at d2 ⊢; omega)
  have q2 : rs1 * 32768 = rs1 * 2 ^ 15 % 4294967296 := reg_mul rs1 15 32768 (by decide) s1 (by simp at s2 ⊢; omega)
  have q3 : rs2 * 1048576 = rs2 * 2 ^ 20 % 4294967296 := reg_mul rs2 20 1048576 (by decide) t1 (by simp at t2 ⊢; omega)
  obtain ⟨a1, k1, z1⟩ := or_int (rowM op) rd 4261441663 3968 7 5 z0 k0 d1 d2 (by decide) (by decide) (by decide) (by decide)
  rw [show (4261441663 ||| 3968 : Nat) = 4261445631 from by decide] at k1
  obtain ⟨a2, k2, z2⟩ := or_int (rowM op + rd * 2 ^ 7) rs1 4261445631 1015808 15 5 z1 k1 s1 s2 (by decide) (by decide) (by decide) (by decide)
  rw [show (4261445631 ||| 1015808 : Nat) = 4262461439 from by decide] at k2
  obtain ⟨a3, k3, z3⟩ := or_int (rowM op + rd * 2 ^ 7 + rs1 * 2 ^ 15) rs2 4262461439 0 20 0 z2 k2 t1 t2 (by decide) (by decide) (by decide) (by decide)
  rw [show (4262461439 ||| 0 : Nat) = 4262461439 from by decide] at k3
  obtain ⟨a4, k4, z4⟩ := or_int (rowM op + rd * 2 ^ 7 + rs1 * 2 ^ 15 + rs2 * 2 ^ 20) (fld (imm % 4294967296) 0 5) 4262461439 32505856 20 5 z3 k3 (fld_nonneg _ _ _) (fld_lt _ _ _) (by decide) (by decide) (by decide) (by decide)
  rw [show (4262461439 ||| 32505856 : Nat) = 4294967295 from by decide] at k4
  obtain ⟨a5, k5, z5⟩ := or_int (rowM op + rd * 2 ^ 7 + rs1 * 2 ^ 15 + rs2 * 2 ^ 20 + (fld (imm % 4294967296) 0 5) * 2 ^ 20) (fld (imm % 4294967296) 0 0) 4294967295 0 0 0 z4 k4 (fld_nonneg _ _ _) (fld_lt _ _ _) (by decide) (by decide) (by decide) (by decide)
  rw [show (4294967295 ||| 0 : Nat) = 4294967295 from by decide] at k5
  obtain ⟨a6, k6, z6⟩ := or_int (rowM op + rd * 2 ^ 7 + rs1 * 2 ^ 15 + rs2 * 2 ^ 20 + (fld (imm % 4294967296) 0 5) * 2 ^ 20 + (fld (imm % 4294967296) 0 0) * 2 ^ 0) (fld (imm % 4294967296) 0 0) 4294967295 0 0 0 z5 k5 (fld_nonneg _ _ _) (fld_lt _ _ _) (by decide) (by decide) (by decide) (by decide)
  rw [show (4294967295 ||| 0 : Nat) = 4294967295 from by decide] at k6
  obtain ⟨a7, k7, z7⟩ := or_int (rowM op + rd * 2 ^ 7 + rs1 * 2 ^ 15 + rs2 * 2 ^ 20 + (fld (imm % 4294967296) 0 5) * 2 ^ 20 + (fld (imm % 4294967296) 0 0) * 2 ^ 0 + (fld (imm % 4294967296) 0 0) * 2 ^ 0) (fld (imm % 4294967296) 0 0) 4294967295 0 0 0 z6 k6 (fld_nonneg _ _ _) (fld_lt _ _ _) (by decide) (by decide) (by decide) (by decide)
  rw [show (4294967295 ||| 0 : Nat) = 4294967295 from by decide] at k7
  have w0 : putW 7 imm (rowM op + rd * 2 ^ 7 + rs1 * 2 ^ 15 + rs2 * 2 ^ 20) 4 = rowM op + rd * 2 ^ 7 + rs1 * 2 ^ 15 + rs2 * 2 ^ 20 + (fld (imm % 4294967296) 0 5) * 2 ^ 20 + (fld (imm % 4294967296) 0 0) * 2 ^ 0 + (fld (imm % 4294967296) 0 0) * 2 ^ 0 + (fld (imm % 4294967296) 0 0) * 2 ^ 0 := by
    show bits BinOp.or IntKind.u32 (bits BinOp.or IntKind.u32 (bits BinOp.or IntKind.u32 (bits BinOp.or IntKind.u32 (rowM op + rd * 2 ^ 7 + rs1 * 2 ^ 15 + rs2 * 2 ^ 20) (fld (imm % 4294967296) 0 5 * 2 ^ 20 % 4294967296)) (fld (imm % 4294967296) 0 0 * 2 ^ 0 % 4294967296)) (fld (imm % 4294967296) 0 0 * 2 ^ 0 % 4294967296)) (fld (imm % 4294967296) 0 0 * 2 ^ 0 % 4294967296) = _
    rw [a4, a5, a6, a7]
  rw [q1, a1, q2, a2, q3, a3, w0]
  rw [fld_mod imm 0 5 (by decide)]
  rw [fld_mod imm 0 0 (by decide)]
  rw [show fld imm 0 0 = 0 from by unfold fld; simp]
  simp
  omega

theorem put_plain8 (op rd rs1 rs2 imm : Int) (h1 : 1 ≤ op) (h2 : op ≤ 48) (hf : formN op = 8) (hd : regB rd true = true) (hs : regB rs1 true = true) (ht : regB rs2 true = true) :
    putW (formN op) imm (putM op rd rs1 rs2) 4 = enc5 ⟨op, rd, rs1, rs2, imm⟩ := by
  have k0 := row_sub 8 4261441663 (by decide +kernel) op h1 h2 hf
  have z0 := row_nonneg op h1 h2
  obtain ⟨d1, d2⟩ := reg_n rd _ 5 hd rfl
  obtain ⟨s1, s2⟩ := reg_n rs1 _ 5 hs rfl
  obtain ⟨t1, t2⟩ := reg_n rs2 _ 5 ht rfl
  have e : enc5 ⟨op, rd, rs1, rs2, imm⟩ = rowM op + rd * 128 + rs1 * 32768 + rs2 * 1048576 + putImm 8 imm := by unfold enc5; rw [hf]
  rw [e, hf]
  unfold putM putImm
  have q1 : rd * 128 = rd * 2 ^ 7 % 4294967296 := reg_mul rd 7 128 (by decide) d1 (by simp at d2 ⊢; omega)
  have q2 : rs1 * 32768 = rs1 * 2 ^ 15 % 4294967296 := reg_mul rs1 15 32768 (by decide) s1 (by simp at s2 ⊢; omega)
  have q3 : rs2 * 1048576 = rs2 * 2 ^ 20 % 4294967296 := reg_mul rs2 20 1048576 (by decide) t1 (by simp at t2 ⊢; omega)
  obtain ⟨a1, k1, z1⟩ := or_int (rowM op) rd 4261441663 3968 7 5 z0 k0 d1 d2 (by decide) (by decide) (by decide) (by decide)
  rw [show (4261441663 ||| 3968 : Nat) = 4261445631 from by decide] at k1
  obtain ⟨a2, k2, z2⟩ := or_int (rowM op + rd * 2 ^ 7) rs1 4261445631 1015808 15 5 z1 k1 s1 s2 (by decide) (by decide) (by decide) (by decide)
  rw [show (4261445631 ||| 1015808 : Nat) = 4262461439 from by decide] at k2
  obtain ⟨a3, k3, z3⟩ := or_int (rowM op + rd * 2 ^ 7 + rs1 * 2 ^ 15) rs2 4262461439 32505856 20 5 z2 k2 t1 t2 (by decide) (by decide) (by decide) (by decide)
  rw [show (4262461439 ||| 32505856 : Nat) = 4294967295 from by decide] at k3
  obtain ⟨a4, k4, z4⟩ := or_int (rowM op + rd * 2 ^ 7 + rs1 * 2 ^ 15 + rs2 * 2 ^ 20) (fld (imm % 4294967296) 0 0) 4294967295 0 0 0 z3 k3 (fld_nonneg _ _ _) (fld_lt _ _ _) (by decide) (by decide) (by decide) (by decide)
  rw [show (4294967295 ||| 0 : Nat) = 4294967295 from by decide] at k4
  obtain ⟨a5, k5, z5⟩ := or_int (rowM op + rd * 2 ^ 7 + rs1 * 2 ^ 15 + rs2 * 2 ^ 20 + (fld (imm % 4294967296) 0 0) * 2 ^ 0) (fld (imm % 4294967296) 0 0) 4294967295 0 0 0 z4 k4 (fld_nonneg _ _ _) (fld_lt _ _ _) (by decide) (by decide) (by decide) (by decide)
  rw [show (4294967295 ||| 0 : Nat) = 4294967295 from by decide] at k5
  obtain ⟨a6, k6, z6⟩ := or_int (rowM op + rd * 2 ^ 7 + rs1 * 2 ^ 15 + rs2 * 2 ^ 20 + (fld (imm % 4294967296) 0 0) * 2 ^ 0 + (fld (imm % 4294967296) 0 0) * 2 ^ 0) (fld (imm % 4294967296) 0 0) 4294967295 0 0 0 z5 k5 (fld_nonneg _ _ _) (fld_lt _ _ _) (by decide) (by decide) (by decide) (by decide)
  rw [show (4294967295 ||| 0 : Nat) = 4294967295 from by decide] at k6
  obtain ⟨a7, k7, z7⟩ := or_int (rowM op + rd * 2 ^ 7 + rs1 * 2 ^ 15 + rs2 * 2 ^ 20 + (fld (imm % 4294967296) 0 0) * 2 ^ 0 + (fld (imm % 4294967296) 0 0) * 2 ^ 0 + (fld (imm % 4294967296) 0 0) * 2 ^ 0) (fld (imm % 4294967296) 0 0) 4294967295 0 0 0 z6 k6 (fld_nonneg _ _ _) (fld_lt _ _ _) (by decide) (by decide) (by decide) (by decide)
  rw [show (4294967295 ||| 0 : Nat) = 4294967295 from by decide] at k7
  have w0 : putW 8 imm (rowM op + rd * 2 ^ 7 + rs1 * 2 ^ 15 + rs2 * 2 ^ 20) 4 = rowM op + rd * 2 ^ 7 + rs1 * 2 ^ 15 + rs2 * 2 ^ 20 + (fld (imm % 4294967296) 0 0) * 2 ^ 0 + (fld (imm % 4294967296) 0 0) * 2 ^ 0 + (fld (imm % 4294967296) 0 0) * 2 ^ 0 + (fld (imm % 4294967296) 0 0) * 2 ^ 0 := by
    show bits BinOp.or IntKind.u32 (bits BinOp.or IntKind.u32 (bits BinOp.or IntKind.u32 (bits BinOp.or IntKind.u32 (rowM op + rd * 2 ^ 7 + rs1 * 2 ^ 15 + rs2 * 2 ^ 20) (fld (imm % 4294967296) 0 0 * 2 ^ 0 % 4294967296)) (fld (imm % 4294967296) 0 0 * 2 ^ 0 % 4294967296)) (fld (imm % 4294967296) 0 0 * 2 ^ 0 % 4294967296)) (fld (imm % 4294967296) 0 0 * 2 ^ 0 % 4294967296) = _
    rw [a4, a5, a6, a7]
  rw [q1, a1, q2, a2, q3, a3, w0]
  rw [fld_mod imm 0 0 (by decide)]
  rw [show fld imm 0 0 = 0 from by unfold fld; simp]
  simp
  omega

theorem put_plain9 (op rd rs1 rs2 imm : Int) (h1 : 1 ≤ op) (h2 : op ≤ 48) (hf : formN op = 9) (hd : regB rd false = true) (hs : regB rs1 false = true) (ht : regB rs2 false = true) :
    putW (formN op) imm (putM op rd rs1 rs2) 4 = enc5 ⟨op, rd, rs1, rs2, imm⟩ := by
  have k0 := row_sub 9 4294967295 (by decide +kernel) op h1 h2 hf
  have z0 := row_nonneg op h1 h2
  obtain ⟨d1, d2⟩ := reg_n rd _ 0 hd rfl
  obtain ⟨s1, s2⟩ := reg_n rs1 _ 0 hs rfl
  obtain ⟨t1, t2⟩ := reg_n rs2 _ 0 ht rfl
  have e : enc5 ⟨op, rd, rs1, rs2, imm⟩ = rowM op + rd * 128 + rs1 * 32768 + rs2 * 1048576 + putImm 9 imm := by unfold enc5; rw [hf]
  rw [e, hf]
  unfold putM putImm
  have q1 : rd * 128 = rd * 2 ^ 7 % 4294967296 := reg_mul rd 7 128 (by decide) d1 (by simp at d2 ⊢; omega)
  have q2 : rs1 * 32768 = rs1 * 2 ^ 15 % 4294967296 := reg_mul rs1 15 32768 (by decide) s1 (by simp at s2 ⊢; omega)
  have q3 : rs2 * 1048576 = rs2 * 2 ^ 20 % 4294967296 := reg_mul rs2 20 1048576 (by decide) t1 (by simp at t2 ⊢; omega)
  obtain ⟨a1, k1, z1⟩ := or_int (rowM op) rd 4294967295 0 7 0 z0 k0 d1 d2 (by decide) (by decide) (by decide) (by decide)
  rw [show (4294967295 ||| 0 : Nat) = 4294967295 from by decide] at k1
  obtain ⟨a2, k2, z2⟩ := or_int (rowM op + rd * 2 ^ 7) rs1 4294967295 0 15 0 z1 k1 s1 s2 (by decide) (by decide) (by decide) (by decide)
  rw [show (4294967295 ||| 0 : Nat) = 4294967295 from by decide] at k2
  obtain ⟨a3, k3, z3⟩ := or_int (rowM op + rd * 2 ^ 7 + rs1 * 2 ^ 15) rs2 4294967295 0 20 0 z2 k2 t1 t2 (by decide) (by decide) (by decide) (by decide)
  rw [show (4294967295 ||| 0 : Nat) = 4294967295 from by decide] at k3
  obtain ⟨a4, k4, z4⟩ := or_int (rowM op + rd * 2 ^ 7 + rs1 * 2 ^ 15 + rs2 * 2 ^ 20) (fld (imm % 4294967296) 0 0) 4294967295 0 0 0 z3 k3 (fld_nonneg _ _ _) (fld_lt _ _ _) (by decide) (by decide) (by decide) (by decide)
  rw [show (4294967295 ||| 0 : Nat) = 4294967295 from by decide] at k4
  obtain ⟨a5, k5, z5⟩ := or_int (rowM op + rd * 2 ^ 7 + rs1 * 2 ^ 15 + rs2 * 2 ^ 20 + (fld (imm % 4294967296) 0 0) * 2 ^ 0) (fld (imm % 4294967296) 0 0) 4294967295 0 0 0 z4 k4 (fld_nonneg _ _ _) (fld_lt _ _ _) (by decide) (by decide) (by decide) (by decide)
  rw [show (4294967295 ||| 0 : Nat) = 4294967295 from by decide] at k5
  obtain ⟨a6, k6, z6⟩ := or_int (rowM op + rd * 2 ^ 7 + rs1 * 2 ^ 15 + rs2 * 2 ^ 20 + (fld (imm % 4294967296) 0 0) * 2 ^ 0 + (fld (imm % 4294967296) 0 0) * 2 ^ 0) (fld (imm % 4294967296) 0 0) 4294967295 0 0 0 z5 k5 (fld_nonneg _ _ _) (fld_lt _ _ _) (by decide) (by decide) (by decide) (by decide)
  rw [show (4294967295 ||| 0 : Nat) = 4294967295 from by decide] at k6
  obtain ⟨a7, k7, z7⟩ := or_int (rowM op + rd * 2 ^ 7 + rs1 * 2 ^ 15 + rs2 * 2 ^ 20 + (fld (imm % 4294967296) 0 0) * 2 ^ 0 + (fld (imm % 4294967296) 0 0) * 2 ^ 0 + (fld (imm % 4294967296) 0 0) * 2 ^ 0) (fld (imm % 4294967296) 0 0) 4294967295 0 0 0 z6 k6 (fld_nonneg _ _ _) (fld_lt _ _ _) (by decide) (by decide) (by decide) (by decide)
  rw [show (4294967295 ||| 0 : Nat) = 4294967295 from by decide] at k7
  have w0 : putW 9 imm (rowM op + rd * 2 ^ 7 + rs1 * 2 ^ 15 + rs2 * 2 ^ 20) 4 = rowM op + rd * 2 ^ 7 + rs1 * 2 ^ 15 + rs2 * 2 ^ 20 + (fld (imm % 4294967296) 0 0) * 2 ^ 0 + (fld (imm % 4294967296) 0 0) * 2 ^ 0 + (fld (imm % 4294967296) 0 0) * 2 ^ 0 + (fld (imm % 4294967296) 0 0) * 2 ^ 0 := by
    show bits BinOp.or IntKind.u32 (bits BinOp.or IntKind.u32 (bits BinOp.or IntKind.u32 (bits BinOp.or IntKind.u32 (rowM op + rd * 2 ^ 7 + rs1 * 2 ^ 15 + rs2 * 2 ^ 20) (fld (imm % 4294967296) 0 0 * 2 ^ 0 % 4294967296)) (fld (imm % 4294967296) 0 0 * 2 ^ 0 % 4294967296)) (fld (imm % 4294967296) 0 0 * 2 ^ 0 % 4294967296)) (fld (imm % 4294967296) 0 0 * 2 ^ 0 % 4294967296) = _
    rw [a4, a5, a6, a7]
  rw [q1, a1, q2, a2, q3, a3, w0]
  rw [fld_mod imm 0 0 (by decide)]
  rw [show fld imm 0 0 = 0 from by unfold fld; simp]
  simp
  omega

end Go.Proofs.YtpaadeiopflfgaaDoor
