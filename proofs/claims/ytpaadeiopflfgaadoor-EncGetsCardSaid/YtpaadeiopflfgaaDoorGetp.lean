/- Plain: the number that is read piece by piece is the machine's. -/
import Derived.Test.YtpaadeiopflfgaaDoorGet
import Derived.Test.YtpaadeiopflfgaaDoorRefde
namespace Go.Proofs.YtpaadeiopflfgaaDoor
open Go.RowKit
set_option linter.unusedVariables false

theorem numV_0 (x : Int) : numV 0 x 4 = 0 + (fld x 0 0) * 2 ^ 0 + (fld x 0 0) * 2 ^ 0 + (fld x 0 0) * 2 ^ 0 + (fld x 0 0) * 2 ^ 0 := by
  have z0 : (0 : Int) ≤ 0 := by decide
  have k0 : Sub (0 : Int).toNat 0 := by decide
  obtain ⟨a1, k1, z1⟩ := or_int (0) (fld x 0 0) 0 0 0 0 z0 k0 (fld_nonneg _ _ _) (fld_lt _ _ _) (by decide) (by decide) (by decide) (by decide)
  rw [show (0 ||| 0 : Nat) = 0 from by decide] at k1
  obtain ⟨a2, k2, z2⟩ := or_int (0 + (fld x 0 0) * 2 ^ 0) (fld x 0 0) 0 0 0 0 z1 k1 (fld_nonneg _ _ _) (fld_lt _ _ _) (by decide) (by decide) (by decide) (by decide)
  rw [show (0 ||| 0 : Nat) = 0 from by decide] at k2
  obtain ⟨a3, k3, z3⟩ := or_int (0 + (fld x 0 0) * 2 ^ 0 + (fld x 0 0) * 2 ^ 0) (fld x 0 0) 0 0 0 0 z2 k2 (fld_nonneg _ _ _) (fld_lt _ _ _) (by decide) (by decide) (by decide) (by decide)
  rw [show (0 ||| 0 : Nat) = 0 from by decide] at k3
  obtain ⟨a4, k4, z4⟩ := or_int (0 + (fld x 0 0) * 2 ^ 0 + (fld x 0 0) * 2 ^ 0 + (fld x 0 0) * 2 ^ 0) (fld x 0 0) 0 0 0 0 z3 k3 (fld_nonneg _ _ _) (fld_lt _ _ _) (by decide) (by decide) (by decide) (by decide)
  rw [show (0 ||| 0 : Nat) = 0 from by decide] at k4
  show bits BinOp.or IntKind.u32 (bits BinOp.or IntKind.u32 (bits BinOp.or IntKind.u32 (bits BinOp.or IntKind.u32 (0) (fld x 0 0 * 2 ^ 0 % 4294967296)) (fld x 0 0 * 2 ^ 0 % 4294967296)) (fld x 0 0 * 2 ^ 0 % 4294967296)) (fld x 0 0 * 2 ^ 0 % 4294967296) = _
  rw [a1, a2, a3, a4]

theorem numV_1 (x : Int) : numV 1 x 4 = 0 + (fld x 12 20) * 2 ^ 12 + (fld x 0 0) * 2 ^ 0 + (fld x 0 0) * 2 ^ 0 + (fld x 0 0) * 2 ^ 0 := by
  have z0 : (0 : Int) ≤ 0 := by decide
  have k0 : Sub (0 : Int).toNat 0 := by decide
  obtain ⟨a1, k1, z1⟩ := or_int (0) (fld x 12 20) 0 4294963200 12 20 z0 k0 (fld_nonneg _ _ _) (fld_lt _ _ _) (by decide) (by decide) (by decide) (by decide)
  rw [show (0 ||| 4294963200 : Nat) = 4294963200 from by decide] at k1
  obtain ⟨a2, k2, z2⟩ := or_int (0 + (fld x 12 20) * 2 ^ 12) (fld x 0 0) 4294963200 0 0 0 z1 k1 (fld_nonneg _ _ _) (fld_lt _ _ _) (by decide) (by decide) (by decide) (by decide)
  rw [show (4294963200 ||| 0 : Nat) = 4294963200 from by decide] at k2
  obtain ⟨a3, k3, z3⟩ := or_int (0 + (fld x 12 20) * 2 ^ 12 + (fld x 0 0) * 2 ^ 0) (fld x 0 0) 4294963200 0 0 0 z2 k2 (fld_nonneg _ _ _) (fld_lt _ _ _) (by decide) (by decide) (by decide) (by decide)
  rw [show (4294963200 ||| 0 : Nat) = 4294963200 from by decide] at k3
  obtain ⟨a4, k4, z4⟩ := or_int (0 + (fld x 12 20) * 2 ^ 12 + (fld x 0 0) * 2 ^ 0 + (fld x 0 0) * 2 ^ 0) (fld x 0 0) 4294963200 0 0 0 z3 k3 (fld_nonneg _ _ _) (fld_lt _ _ _) (by decide) (by decide) (by decide) (by decide)
  rw [show (4294963200 ||| 0 : Nat) = 4294963200 from by decide] at k4
  show bits BinOp.or IntKind.u32 (bits BinOp.or IntKind.u32 (bits BinOp.or IntKind.u32 (bits BinOp.or IntKind.u32 (0) (fld x 12 20 * 2 ^ 12 % 4294967296)) (fld x 0 0 * 2 ^ 0 % 4294967296)) (fld x 0 0 * 2 ^ 0 % 4294967296)) (fld x 0 0 * 2 ^ 0 % 4294967296) = _
  rw [a1, a2, a3, a4]

theorem numV_2 (x : Int) : numV 2 x 4 = 0 + (fld x 31 1) * 2 ^ 20 + (fld x 12 8) * 2 ^ 12 + (fld x 20 1) * 2 ^ 11 + (fld x 21 10) * 2 ^ 1 := by
  have z0 : (0 : Int) ≤ 0 := by decide
  have k0 : Sub (0 : Int).toNat 0 := by decide
  obtain ⟨a1, k1, z1⟩ := or_int (0) (fld x 31 1) 0 1048576 20 1 z0 k0 (fld_nonneg _ _ _) (fld_lt _ _ _) (by decide) (by decide) (by decide) (by decide)
  rw [show (0 ||| 1048576 : Nat) = 1048576 from by decide] at k1
  obtain ⟨a2, k2, z2⟩ := or_int (0 + (fld x 31 1) * 2 ^ 20) (fld x 12 8) 1048576 1044480 12 8 z1 k1 (fld_nonneg _ _ _) (fld_lt _ _ _) (by decide) (by decide) (by decide) (by decide)
  rw [show (1048576 ||| 1044480 : Nat) = 2093056 from by decide] at k2
  obtain ⟨a3, k3, z3⟩ := or_int (0 + (fld x 31 1) * 2 ^ 20 + (fld x 12 8) * 2 ^ 12) (fld x 20 1) 2093056 2048 11 1 z2 k2 (fld_nonneg _ _ _) (fld_lt _ _ _) (by decide) (by decide) (by decide) (by decide)
  rw [show (2093056 ||| 2048 : Nat) = 2095104 from by decide] at k3
  obtain ⟨a4, k4, z4⟩ := or_int (0 + (fld x 31 1) * 2 ^ 20 + (fld x 12 8) * 2 ^ 12 + (fld x 20 1) * 2 ^ 11) (fld x 21 10) 2095104 2046 1 10 z3 k3 (fld_nonneg _ _ _) (fld_lt _ _ _) (by decide) (by decide) (by decide) (by decide)
  rw [show (2095104 ||| 2046 : Nat) = 2097150 from by decide] at k4
  show bits BinOp.or IntKind.u32 (bits BinOp.or IntKind.u32 (bits BinOp.or IntKind.u32 (bits BinOp.or IntKind.u32 (0) (fld x 31 1 * 2 ^ 20 % 4294967296)) (fld x 12 8 * 2 ^ 12 % 4294967296)) (fld x 20 1 * 2 ^ 11 % 4294967296)) (fld x 21 10 * 2 ^ 1 % 4294967296) = _
  rw [a1, a2, a3, a4]

theorem numV_3 (x : Int) : numV 3 x 4 = 0 + (fld x 31 1) * 2 ^ 12 + (fld x 7 1) * 2 ^ 11 + (fld x 25 6) * 2 ^ 5 + (fld x 8 4) * 2 ^ 1 := by
  have z0 : (0 : Int) ≤ 0 := by decide
  have k0 : Sub (0 : Int).toNat 0 := by decide
  obtain ⟨a1, k1, z1⟩ := or_int (0) (fld x 31 1) 0 4096 12 1 z0 k0 (fld_nonneg _ _ _) (fld_lt _ _ _) (by decide) (by decide) (by decide) (by decide)
  rw [show (0 ||| 4096 : Nat) = 4096 from by decide] at k1
  obtain ⟨a2, k2, z2⟩ := or_int (0 + (fld x 31 1) * 2 ^ 12) (fld x 7 1) 4096 2048 11 1 z1 k1 (fld_nonneg _ _ _) (fld_lt _ _ _) (by decide) (by decide) (by decide) (by decide)
  rw [show (4096 ||| 2048 : Nat) = 6144 from by decide] at k2
  obtain ⟨a3, k3, z3⟩ := or_int (0 + (fld x 31 1) * 2 ^ 12 + (fld x 7 1) * 2 ^ 11) (fld x 25 6) 6144 2016 5 6 z2 k2 (fld_nonneg _ _ _) (fld_lt _ _ _) (by decide) (by decide) (by decide) (by decide)
  rw [show (6144 ||| 2016 : Nat) = 8160 from by decide] at k3
  obtain ⟨a4, k4, z4⟩ := or_int (0 + (fld x 31 1) * 2 ^ 12 + (fld x 7 1) * 2 ^ 11 + (fld x 25 6) * 2 ^ 5) (fld x 8 4) 8160 30 1 4 z3 k3 (fld_nonneg _ _ _) (fld_lt _ _ _) (by decide) (by decide) (by decide) (by decide)
  rw [show (8160 ||| 30 : Nat) = 8190 from by decide] at k4
  show bits BinOp.or IntKind.u32 (bits BinOp.or IntKind.u32 (bits BinOp.or IntKind.u32 (bits BinOp.or IntKind.u32 (0) (fld x 31 1 * 2 ^ 12 % 4294967296)) (fld x 7 1 * 2 ^ 11 % 4294967296)) (fld x 25 6 * 2 ^ 5 % 4294967296)) (fld x 8 4 * 2 ^ 1 % 4294967296) = _
  rw [a1, a2, a3, a4]

theorem numV_4 (x : Int) : numV 4 x 4 = 0 + (fld x 20 12) * 2 ^ 0 + (fld x 0 0) * 2 ^ 0 + (fld x 0 0) * 2 ^ 0 + (fld x 0 0) * 2 ^ 0 := by
  have z0 : (0 : Int) ≤ 0 := by decide
  have k0 : Sub (0 : Int).toNat 0 := by decide
  obtain ⟨a1, k1, z1⟩ := or_int (0) (fld x 20 12) 0 4095 0 12 z0 k0 (fld_nonneg _ _ _) (fld_lt _ _ _) (by decide) (by decide) (by decide) (by decide)
  rw [show (0 ||| 4095 : Nat) = 4095 from by decide] at k1
  obtain ⟨a2, k2, z2⟩ := or_int (0 + (fld x 20 12) * 2 ^ 0) (fld x 0 0) 4095 0 0 0 z1 k1 (fld_nonneg _ _ _) (fld_lt _ _ _) (by decide) (by decide) (by decide) (by decide)
  rw [show (4095 ||| 0 : Nat) = 4095 from by decide] at k2
  obtain ⟨a3, k3, z3⟩ := or_int (0 + (fld x 20 12) * 2 ^ 0 + (fld x 0 0) * 2 ^ 0) (fld x 0 0) 4095 0 0 0 z2 k2 (fld_nonneg _ _ _) (fld_lt _ _ _) (by decide) (by decide) (by decide) (by decide)
  rw [show (4095 ||| 0 : Nat) = 4095 from by decide] at k3
  obtain ⟨a4, k4, z4⟩ := or_int (0 + (fld x 20 12) * 2 ^ 0 + (fld x 0 0) * 2 ^ 0 + (fld x 0 0) * 2 ^ 0) (fld x 0 0) 4095 0 0 0 z3 k3 (fld_nonneg _ _ _) (fld_lt _ _ _) (by decide) (by decide) (by decide) (by decide)
  rw [show (4095 ||| 0 : Nat) = 4095 from by decide] at k4
  show bits BinOp.or IntKind.u32 (bits BinOp.or IntKind.u32 (bits BinOp.or IntKind.u32 (bits BinOp.or IntKind.u32 (0) (fld x 20 12 * 2 ^ 0 % 4294967296)) (fld x 0 0 * 2 ^ 0 % 4294967296)) (fld x 0 0 * 2 ^ 0 % 4294967296)) (fld x 0 0 * 2 ^ 0 % 4294967296) = _
  rw [a1, a2, a3, a4]

theorem numV_5 (x : Int) : numV 5 x 4 = 0 + (fld x 25 7) * 2 ^ 5 + (fld x 7 5) * 2 ^ 0 + (fld x 0 0) * 2 ^ 0 + (fld x 0 0) * 2 ^ 0 := by
  have z0 : (0 : Int) ≤ 0 := by decide
  have k0 : Sub (0 : Int).toNat 0 := by decide
  obtain ⟨a1, k1, z1⟩ := or_int (0) (fld x 25 7) 0 4064 5 7 z0 k0 (fld_nonneg _ _ _) (fld_lt _ _ _) (by decide) (by decide) (by decide) (by decide)
  rw [show (0 ||| 4064 : Nat) = 4064 from by decide] at k1
  obtain ⟨a2, k2, z2⟩ := or_int (0 + (fld x 25 7) * 2 ^ 5) (fld x 7 5) 4064 31 0 5 z1 k1 (fld_nonneg _ _ _) (fld_lt _ _ _) (by decide) (by decide) (by decide) (by decide)
  rw [show (4064 ||| 31 : Nat) = 4095 from by decide] at k2
  obtain ⟨a3, k3, z3⟩ := or_int (0 + (fld x 25 7) * 2 ^ 5 + (fld x 7 5) * 2 ^ 0) (fld x 0 0) 4095 0 0 0 z2 k2 (fld_nonneg _ _ _) (fld_lt _ _ _) (by decide) (by decide) (by decide) (by decide)
  rw [show (4095 ||| 0 : Nat) = 4095 from by decide] at k3
  obtain ⟨a4, k4, z4⟩ := or_int (0 + (fld x 25 7) * 2 ^ 5 + (fld x 7 5) * 2 ^ 0 + (fld x 0 0) * 2 ^ 0) (fld x 0 0) 4095 0 0 0 z3 k3 (fld_nonneg _ _ _) (fld_lt _ _ _) (by decide) (by decide) (by decide) (by decide)
  rw [show (4095 ||| 0 : Nat) = 4095 from by decide] at k4
  show bits BinOp.or IntKind.u32 (bits BinOp.or IntKind.u32 (bits BinOp.or IntKind.u32 (bits BinOp.or IntKind.u32 (0) (fld x 25 7 * 2 ^ 5 % 4294967296)) (fld x 7 5 * 2 ^ 0 % 4294967296)) (fld x 0 0 * 2 ^ 0 % 4294967296)) (fld x 0 0 * 2 ^ 0 % 4294967296) = _
  rw [a1, a2, a3, a4]

theorem numV_6 (x : Int) : numV 6 x 4 = 0 + (fld x 20 12) * 2 ^ 0 + (fld x 0 0) * 2 ^ 0 + (fld x 0 0) * 2 ^ 0 + (fld x 0 0) * 2 ^ 0 := by
  have z0 : (0 : Int) ≤ 0 := by decide
  have k0 : Sub (0 : Int).toNat 0 := by decide
  obtain ⟨a1, k1, z1⟩ := or_int (0) (fld x 20 12) 0 4095 0 12 z0 k0 (fld_nonneg _ _ _) (fld_lt _ _ _) (by decide) (by decide) (by decide) (by decide)
  rw [show (0 ||| 4095 : Nat) = 4095 from by decide] at k1
  obtain ⟨a2, k2, z2⟩ := or_int (0 + (fld x 20 12) * 2 ^ 0) (fld x 0 0) 4095 0 0 0 z1 k1 (fld_nonneg _ _ _) (fld_lt _ _ _) (by decide) (by decide) (by decide) (by decide)
  rw [show (4095 ||| 0 : Nat) = 4095 from by decide] at k2
  obtain ⟨a3, k3, z3⟩ := or_int (0 + (fld x 20 12) * 2 ^ 0 + (fld x 0 0) * 2 ^ 0) (fld x 0 0) 4095 0 0 0 z2 k2 (fld_nonneg _ _ _) (fld_lt _ _ _) (by decide) (by decide) (by decide) (by decide)
  rw [show (4095 ||| 0 : Nat) = 4095 from by decide] at k3
  obtain ⟨a4, k4, z4⟩ := or_int (0 + (fld x 20 12) * 2 ^ 0 + (fld x 0 0) * 2 ^ 0 + (fld x 0 0) * 2 ^ 0) (fld x 0 0) 4095 0 0 0 z3 k3 (fld_nonneg _ _ _) (fld_lt _ _ _) (by decide) (by decide) (by decide) (by decide)
  rw [show (4095 ||| 0 : Nat) = 4095 from by decide] at k4
  show bits BinOp.or IntKind.u32 (bits BinOp.or IntKind.u32 (bits BinOp.or IntKind.u32 (bits BinOp.or IntKind.u32 (0) (fld x 20 12 * 2 ^ 0 % 4294967296)) (fld x 0 0 * 2 ^ 0 % 4294967296)) (fld x 0 0 * 2 ^ 0 % 4294967296)) (fld x 0 0 * 2 ^ 0 % 4294967296) = _
  rw [a1, a2, a3, a4]

theorem numV_7 (x : Int) : numV 7 x 4 = 0 + (fld x 20 5) * 2 ^ 0 + (fld x 0 0) * 2 ^ 0 + (fld x 0 0) * 2 ^ 0 + (fld x 0 0) * 2 ^ 0 := by
  have z0 : (0 : Int) ≤ 0 := by decide
  have k0 : Sub (0 : Int).toNat 0 := by decide
  obtain ⟨a1, k1, z1⟩ := or_int (0) (fld x 20 5) 0 31 0 5 z0 k0 (fld_nonneg _ _ _) (fld_lt _ _ _) (by decide) (by decide) (by decide) (by decide)
  rw [show (0 ||| 31 : Nat) = 31 from by decide] at k1
  obtain ⟨a2, k2, z2⟩ := or_int (0 + (fld x 20 5) * 2 ^ 0) (fld x 0 0) 31 0 0 0 z1 k1 (fld_nonneg _ _ _) (fld_lt _ _ _) (by decide) (by decide) (by decide) (by decide)
  rw [show (31 ||| 0 : Nat) = 31 from by decide] at k2
  obtain ⟨a3, k3, z3⟩ := or_int (0 + (fld x 20 5) * 2 ^ 0 + (fld x 0 0) * 2 ^ 0) (fld x 0 0) 31 0 0 0 z2 k2 (fld_nonneg _ _ _) (fld_lt _ _ _) (by decide) (by decide) (by decide) (by decide)
  rw [show (31 ||| 0 : Nat) = 31 from by decide] at k3
  obtain ⟨a4, k4, z4⟩ := or_int (0 + (fld x 20 5) * 2 ^ 0 + (fld x 0 0) * 2 ^ 0 + (fld x 0 0) * 2 ^ 0) (fld x 0 0) 31 0 0 0 z3 k3 (fld_nonneg _ _ _) (fld_lt _ _ _) (by decide) (by decide) (by decide) (by decide)
  rw [show (31 ||| 0 : Nat) = 31 from by decide] at k4
  show bits BinOp.or IntKind.u32 (bits BinOp.or IntKind.u32 (bits BinOp.or IntKind.u32 (bits BinOp.or IntKind.u32 (0) (fld x 20 5 * 2 ^ 0 % 4294967296)) (fld x 0 0 * 2 ^ 0 % 4294967296)) (fld x 0 0 * 2 ^ 0 % 4294967296)) (fld x 0 0 * 2 ^ 0 % 4294967296) = _
  rw [a1, a2, a3, a4]

theorem numV_8 (x : Int) : numV 8 x 4 = 0 + (fld x 0 0) * 2 ^ 0 + (fld x 0 0) * 2 ^ 0 + (fld x 0 0) * 2 ^ 0 + (fld x 0 0) * 2 ^ 0 := by
  have z0 : (0 : Int) ≤ 0 := by decide
  have k0 : Sub (0 : Int).toNat 0 := by decide
  obtain ⟨a1, k1, z1⟩ := or_int (0) (fld x 0 0) 0 0 0 0 z0 k0 (fld_nonneg _ _ _) (fld_lt _ _ _) (by decide) (by decide) (by decide) (by decide)
  rw [show (0 ||| 0 : Nat) = 0 from by decide] at k1
  obtain ⟨a2, k2, z2⟩ := or_int (0 + (fld x 0 0) * 2 ^ 0) (fld x 0 0) 0 0 0 0 z1 k1 (fld_nonneg _ _ _) (fld_lt _ _ _) (by decide) (by decide) (by decide) (by decide)
  rw [show (0 ||| 0 : Nat) = 0 from by decide] at k2
  obtain ⟨a3, k3, z3⟩ := or_int (0 + (fld x 0 0) * 2 ^ 0 + (fld x 0 0) * 2 ^ 0) (fld x 0 0) 0 0 0 0 z2 k2 (fld_nonneg _ _ _) (fld_lt _ _ _) (by decide) (by decide) (by decide) (by decide)
  rw [show (0 ||| 0 : Nat) = 0 from by decide] at k3
  obtain ⟨a4, k4, z4⟩ := or_int (0 + (fld x 0 0) * 2 ^ 0 + (fld x 0 0) * 2 ^ 0 + (fld x 0 0) * 2 ^ 0) (fld x 0 0) 0 0 0 0 z3 k3 (fld_nonneg _ _ _) (fld_lt _ _ _) (by decide) (by decide) (by decide) (by decide)
  rw [show (0 ||| 0 : Nat) = 0 from by decide] at k4
  show bits BinOp.or IntKind.u32 (bits BinOp.or IntKind.u32 (bits BinOp.or IntKind.u32 (bits BinOp.or IntKind.u32 (0) (fld x 0 0 * 2 ^ 0 % 4294967296)) (fld x 0 0 * 2 ^ 0 % 4294967296)) (fld x 0 0 * 2 ^ 0 % 4294967296)) (fld x 0 0 * 2 ^ 0 % 4294967296) = _
  rw [a1, a2, a3, a4]

theorem numV_9 (x : Int) : numV 9 x 4 = 0 + (fld x 0 0) * 2 ^ 0 + (fld x 0 0) * 2 ^ 0 + (fld x 0 0) * 2 ^ 0 + (fld x 0 0) * 2 ^ 0 := by
  have z0 : (0 : Int) ≤ 0 := by decide
  have k0 : Sub (0 : Int).toNat 0 := by decide
  obtain ⟨a1, k1, z1⟩ := or_int (0) (fld x 0 0) 0 0 0 0 z0 k0 (fld_nonneg _ _ _) (fld_lt _ _ _) (by decide) (by decide) (by decide) (by decide)
  rw [show (0 ||| 0 : Nat) = 0 from by decide] at k1
  obtain ⟨a2, k2, z2⟩ := or_int (0 + (fld x 0 0) * 2 ^ 0) (fld x 0 0) 0 0 0 0 z1 k1 (fld_nonneg _ _ _) (fld_lt _ _ _) (by decide) (by decide) (by decide) (by decide)
  rw [show (0 ||| 0 : Nat) = 0 from by decide] at k2
  obtain ⟨a3, k3, z3⟩ := or_int (0 + (fld x 0 0) * 2 ^ 0 + (fld x 0 0) * 2 ^ 0) (fld x 0 0) 0 0 0 0 z2 k2 (fld_nonneg _ _ _) (fld_lt _ _ _) (by decide) (by decide) (by decide) (by decide)
  rw [show (0 ||| 0 : Nat) = 0 from by decide] at k3
  obtain ⟨a4, k4, z4⟩ := or_int (0 + (fld x 0 0) * 2 ^ 0 + (fld x 0 0) * 2 ^ 0 + (fld x 0 0) * 2 ^ 0) (fld x 0 0) 0 0 0 0 z3 k3 (fld_nonneg _ _ _) (fld_lt _ _ _) (by decide) (by decide) (by decide) (by decide)
  rw [show (0 ||| 0 : Nat) = 0 from by decide] at k4
  show bits BinOp.or IntKind.u32 (bits BinOp.or IntKind.u32 (bits BinOp.or IntKind.u32 (bits BinOp.or IntKind.u32 (0) (fld x 0 0 * 2 ^ 0 % 4294967296)) (fld x 0 0 * 2 ^ 0 % 4294967296)) (fld x 0 0 * 2 ^ 0 % 4294967296)) (fld x 0 0 * 2 ^ 0 % 4294967296) = _
  rw [a1, a2, a3, a4]

theorem fld00 (x : Int) : fld x 0 0 = 0 := by unfold fld; simp

theorem numG_eq (f x : Int) (hf : 1 ≤ f) (hf' : f ≤ 9) : numG f x = immF f x := by
  rcases (by omega : f = 1 ∨ f = 2 ∨ f = 3 ∨ f = 4 ∨ f = 5 ∨ f = 6 ∨ f = 7 ∨ f = 8 ∨ f = 9) with rfl | rfl | rfl | rfl | rfl | rfl | rfl | rfl | rfl
  · have e : numG 1 x = sgn (numV 1 x 4) 32 := by unfold numG; rw [if_neg (by decide), show (widN 1 4).toNat = 32 from by decide]
    rw [e, numV_1, fld00, show immF 1 x = jU x from rfl]; unfold jU; refine congrArg (fun t => sgn t 32) ?_; simp [fld, vU]
  · have e : numG 2 x = sgn (numV 2 x 4) 21 := by unfold numG; rw [if_neg (by decide), show (widN 2 4).toNat = 21 from by decide]
    rw [e, numV_2, show immF 2 x = jJ x from rfl]; unfold jJ; refine congrArg (fun t => sgn t 21) ?_; simp [fld, vJ]; omega
  · have e : numG 3 x = sgn (numV 3 x 4) 13 := by unfold numG; rw [if_neg (by decide), show (widN 3 4).toNat = 13 from by decide]
    rw [e, numV_3, show immF 3 x = jB x from rfl]; unfold jB; refine congrArg (fun t => sgn t 13) ?_; simp [fld, vB]; omega
  · have e : numG 4 x = sgn (numV 4 x 4) 12 := by unfold numG; rw [if_neg (by decide), show (widN 4 4).toNat = 12 from by decide]
    rw [e, numV_4, fld00, show immF 4 x = jI x from rfl]; unfold jI; refine congrArg (fun t => sgn t 12) ?_; simp [fld, vI]
  · have e : numG 5 x = sgn (numV 5 x 4) 12 := by unfold numG; rw [if_neg (by decide), show (widN 5 4).toNat = 12 from by decide]
    rw [e, numV_5, fld00, show immF 5 x = jS x from rfl]; unfold jS; refine congrArg (fun t => sgn t 12) ?_; simp [fld, vS]
  · have e : numG 6 x = sgn (numV 6 x 4) 12 := by unfold numG; rw [if_neg (by decide), show (widN 6 4).toNat = 12 from by decide]
    rw [e, numV_6, fld00, show immF 6 x = jI x from rfl]; unfold jI; refine congrArg (fun t => sgn t 12) ?_; simp [fld, vI]
  · have e : numG 7 x = wrap32 (numV 7 x 4) := by unfold numG; rw [if_pos rfl]
    rw [e, numV_7, fld00, fld205, show immF 7 x = x / 1048576 % 32 from rfl]
    have : 0 + x / 1048576 % 32 * 2 ^ 0 + 0 * 2 ^ 0 + 0 * 2 ^ 0 + 0 * 2 ^ 0 = x / 1048576 % 32 := by simp
    rw [this]
    unfold wrap32; omega
  · have e : numG 8 x = sgn (numV 8 x 4) 0 := by unfold numG; rw [if_neg (by decide), show (widN 8 4).toNat = 0 from by decide]
    rw [e, sgn_zero]; rfl
  · have e : numG 9 x = sgn (numV 9 x 4) 0 := by unfold numG; rw [if_neg (by decide), show (widN 9 4).toNat = 0 from by decide]
    rw [e, sgn_zero]; rfl

theorem and_shift (x k n : Nat) : x &&& ((2 ^ n - 1) * 2 ^ k) = (x / 2 ^ k % 2 ^ n) * 2 ^ k := by
  rw [← Nat.shiftLeft_eq, ← Nat.shiftLeft_eq, ← Nat.shiftRight_eq_div_pow]
  apply Nat.eq_of_testBit_eq
  intro i
  simp only [Nat.testBit_and, Nat.testBit_shiftLeft, Nat.testBit_mod_two_pow, Nat.testBit_shiftRight, Nat.testBit_two_pow_sub_one]
  by_cases h : k ≤ i
  · rw [show k + (i - k) = i from by omega]; simp [h, Bool.and_comm]
  · simp [h]

theorem and_127 (x : Nat) : x &&& 127 = x % 128 := by
  have := and_shift x 0 7; simpa using this

theorem and_7f (x : Nat) : x &&& 28799 = x % 128 + x / 4096 % 8 * 4096 := by
  have e : 28799 = 127 ||| (2 ^ 3 - 1) * 2 ^ 12 := by decide
  rw [e, Nat.and_or_distrib_left, and_127, and_shift]
  have h1 : Sub (x % 128) 127 := by
    have := sub_field (x % 128) 0 7 (by omega)
    simpa using this
  exact or_add h1 (sub_field (x / 2 ^ 12 % 2 ^ 3) 12 3 (by omega)) (by decide) (by decide) (by decide)

theorem and_fe (x : Nat) : x &&& 4261441663 = x % 128 + x / 4096 % 8 * 4096 + x / 33554432 % 128 * 33554432 := by
  have e : 4261441663 = 28799 ||| (2 ^ 7 - 1) * 2 ^ 25 := by decide
  have h1 : Sub (x &&& 28799) 28799 := by unfold Sub; rw [Nat.and_assoc, Nat.and_self]
  rw [e, Nat.and_or_distrib_left, and_shift, or_add h1 (sub_field (x / 2 ^ 25 % 2 ^ 7) 25 7 (by omega)) (by decide) (by decide) (by decide), and_7f]

theorem and_int (x : Int) (m : Nat) (hx : 0 ≤ x) (hx' : x < 4294967296) (hm : m < 4294967296) : bits BinOp.and IntKind.u32 x m = ((x.toNat &&& m : Nat) : Int) := by
  obtain ⟨y, rfl⟩ := Int.eq_ofNat_of_zero_le hx
  rw [u32_and_nat y m (by omega) hm, Int.toNat_natCast]

/-- What a mask leaves of a word. -/
theorem mask_1 (x : Int) (hx : 0 ≤ x) (hx' : x < 4294967296) : bits BinOp.and IntKind.u32 x 127 = x % 128 := by
  have := and_int x 127 hx hx' (by decide)
  rw [and_127] at this
  exact this.trans (by omega)

theorem mask_2 (x : Int) (hx : 0 ≤ x) (hx' : x < 4294967296) : bits BinOp.and IntKind.u32 x 28799 = x % 128 + x / 4096 % 8 * 4096 := by
  have := and_int x 28799 hx hx' (by decide)
  rw [and_7f] at this
  exact this.trans (by omega)

theorem mask_3 (x : Int) (hx : 0 ≤ x) (hx' : x < 4294967296) : bits BinOp.and IntKind.u32 x 4261441663 = x % 128 + x / 4096 % 8 * 4096 + x / 33554432 % 128 * 33554432 := by
  have := and_int x 4261441663 hx hx' (by decide)
  rw [and_fe] at this
  exact this.trans (by omega)

theorem mask_4 (x : Int) (hx : 0 ≤ x) (hx' : x < 4294967296) : bits BinOp.and IntKind.u32 x 4294967295 = x := by
  have := and_int x 4294967295 hx hx' (by decide)
  rw [show 4294967295 = 2 ^ 32 - 1 from by decide, Nat.and_two_pow_sub_one_eq_mod] at this
  exact this.trans (by omega)

end Go.Proofs.YtpaadeiopflfgaaDoor
