/- Plain: a word fits the row of the operation that the machine decodes, and no other; an instruction's word is decoded as it. -/
import Derived.Test.YtpaadeiopflfgaaDoorGetp
import Derived.Test.YtpaadeiopflfgaaDoorMay
namespace Go.Proofs.YtpaadeiopflfgaaDoor
open Go.RowKit
set_option linter.unusedVariables false
set_option linter.unusedSimpArgs false

/-- Does the word fit row k + 1? -/
def fitR (x : Int) (j : Nat) : Bool := bits BinOp.and IntKind.u32 x (rowK (((j : Nat) : Int) + 1)) == rowM (((j : Nat) : Int) + 1)

theorem fit_1 (x : Int) (hx : 0 ≤ x) (hx' : x < 4294967296) : fitR x 0 = true ↔ (x % 128 = 55) := by
  have e : fitR x 0 = (bits BinOp.and IntKind.u32 x 127 == 55) := rfl
  rw [e, mask_1 x hx hx', beq_iff_eq]

theorem fit_2 (x : Int) (hx : 0 ≤ x) (hx' : x < 4294967296) : fitR x 1 = true ↔ (x % 128 = 23) := by
  have e : fitR x 1 = (bits BinOp.and IntKind.u32 x 127 == 23) := rfl
  rw [e, mask_1 x hx hx', beq_iff_eq]

theorem fit_3 (x : Int) (hx : 0 ≤ x) (hx' : x < 4294967296) : fitR x 2 = true ↔ (x % 128 = 111) := by
  have e : fitR x 2 = (bits BinOp.and IntKind.u32 x 127 == 111) := rfl
  rw [e, mask_1 x hx hx', beq_iff_eq]

theorem fit_4 (x : Int) (hx : 0 ≤ x) (hx' : x < 4294967296) : fitR x 3 = true ↔ (x % 128 = 103 ∧ x / 4096 % 8 = 0) := by
  have e : fitR x 3 = (bits BinOp.and IntKind.u32 x 28799 == 103) := rfl
  rw [e, mask_2 x hx hx', beq_iff_eq]
  omega

theorem fit_5 (x : Int) (hx : 0 ≤ x) (hx' : x < 4294967296) : fitR x 4 = true ↔ (x % 128 = 99 ∧ x / 4096 % 8 = 0) := by
  have e : fitR x 4 = (bits BinOp.and IntKind.u32 x 28799 == 99) := rfl
  rw [e, mask_2 x hx hx', beq_iff_eq]
  omega

theorem fit_6 (x : Int) (hx : 0 ≤ x) (hx' : x < 4294967296) : fitR x 5 = true ↔ (x % 128 = 99 ∧ x / 4096 % 8 = 1) := by
  have e : fitR x 5 = (bits BinOp.and IntKind.u32 x 28799 == 4195) := rfl
  rw [e, mask_2 x hx hx', beq_iff_eq]
  omega

theorem fit_7 (x : Int) (hx : 0 ≤ x) (hx' : x < 4294967296) : fitR x 6 = true ↔ (x % 128 = 99 ∧ x / 4096 % 8 = 4) := by
  have e : fitR x 6 = (bits BinOp.and IntKind.u32 x 28799 == 16483) := rfl
  rw [e, mask_2 x hx hx', beq_iff_eq]
  omega

theorem fit_8 (x : Int) (hx : 0 ≤ x) (hx' : x < 4294967296) : fitR x 7 = true ↔ (x % 128 = 99 ∧ x / 4096 % 8 = 5) := by
  have e : fitR x 7 = (bits BinOp.and IntKind.u32 x 28799 == 20579) := rfl
  rw [e, mask_2 x hx hx', beq_iff_eq]
  omega

theorem fit_9 (x : Int) (hx : 0 ≤ x) (hx' : x < 4294967296) : fitR x 8 = true ↔ (x % 128 = 99 ∧ x / 4096 % 8 = 6) := by
  have e : fitR x 8 = (bits BinOp.and IntKind.u32 x 28799 == 24675) := rfl
  rw [e, mask_2 x hx hx', beq_iff_eq]
  omega

theorem fit_10 (x : Int) (hx : 0 ≤ x) (hx' : x < 4294967296) : fitR x 9 = true ↔ (x % 128 = 99 ∧ x / 4096 % 8 = 7) := by
  have e : fitR x 9 = (bits BinOp.and IntKind.u32 x 28799 == 28771) := rfl
  rw [e, mask_2 x hx hx', beq_iff_eq]
  omega

theorem fit_11 (x : Int) (hx : 0 ≤ x) (hx' : x < 4294967296) : fitR x 10 = true ↔ (x % 128 = 3 ∧ x / 4096 % 8 = 0) := by
  have e : fitR x 10 = (bits BinOp.and IntKind.u32 x 28799 == 3) := rfl
  rw [e, mask_2 x hx hx', beq_iff_eq]
  omega

theorem fit_12 (x : Int) (hx : 0 ≤ x) (hx' : x < 4294967296) : fitR x 11 = true ↔ (x % 128 = 3 ∧ x / 4096 % 8 = 1) := by
  have e : fitR x 11 = (bits BinOp.and IntKind.u32 x 28799 == 4099) := rfl
  rw [e, mask_2 x hx hx', beq_iff_eq]
  omega

theorem fit_13 (x : Int) (hx : 0 ≤ x) (hx' : x < 4294967296) : fitR x 12 = true ↔ (x % 128 = 3 ∧ x / 4096 % 8 = 2) := by
  have e : fitR x 12 = (bits BinOp.and IntKind.u32 x 28799 == 8195) := rfl
  rw [e, mask_2 x hx hx', beq_iff_eq]
  omega

theorem fit_14 (x : Int) (hx : 0 ≤ x) (hx' : x < 4294967296) : fitR x 13 = true ↔ (x % 128 = 3 ∧ x / 4096 % 8 = 4) := by
  have e : fitR x 13 = (bits BinOp.and IntKind.u32 x 28799 == 16387) := rfl
  rw [e, mask_2 x hx hx', beq_iff_eq]
  omega

theorem fit_15 (x : Int) (hx : 0 ≤ x) (hx' : x < 4294967296) : fitR x 14 = true ↔ (x % 128 = 3 ∧ x / 4096 % 8 = 5) := by
  have e : fitR x 14 = (bits BinOp.and IntKind.u32 x 28799 == 20483) := rfl
  rw [e, mask_2 x hx hx', beq_iff_eq]
  omega

theorem fit_16 (x : Int) (hx : 0 ≤ x) (hx' : x < 4294967296) : fitR x 15 = true ↔ (x % 128 = 35 ∧ x / 4096 % 8 = 0) := by
  have e : fitR x 15 = (bits BinOp.and IntKind.u32 x 28799 == 35) := rfl
  rw [e, mask_2 x hx hx', beq_iff_eq]
  omega

theorem fit_17 (x : Int) (hx : 0 ≤ x) (hx' : x < 4294967296) : fitR x 16 = true ↔ (x % 128 = 35 ∧ x / 4096 % 8 = 1) := by
  have e : fitR x 16 = (bits BinOp.and IntKind.u32 x 28799 == 4131) := rfl
  rw [e, mask_2 x hx hx', beq_iff_eq]
  omega

theorem fit_18 (x : Int) (hx : 0 ≤ x) (hx' : x < 4294967296) : fitR x 17 = true ↔ (x % 128 = 35 ∧ x / 4096 % 8 = 2) := by
  have e : fitR x 17 = (bits BinOp.and IntKind.u32 x 28799 == 8227) := rfl
  rw [e, mask_2 x hx hx', beq_iff_eq]
  omega

theorem fit_19 (x : Int) (hx : 0 ≤ x) (hx' : x < 4294967296) : fitR x 18 = true ↔ (x % 128 = 19 ∧ x / 4096 % 8 = 0) := by
  have e : fitR x 18 = (bits BinOp.and IntKind.u32 x 28799 == 19) := rfl
  rw [e, mask_2 x hx hx', beq_iff_eq]
  omega

theorem fit_20 (x : Int) (hx : 0 ≤ x) (hx' : x < 4294967296) : fitR x 19 = true ↔ (x % 128 = 19 ∧ x / 4096 % 8 = 2) := by
  have e : fitR x 19 = (bits BinOp.and IntKind.u32 x 28799 == 8211) := rfl
  rw [e, mask_2 x hx hx', beq_iff_eq]
  omega

theorem fit_21 (x : Int) (hx : 0 ≤ x) (hx' : x < 4294967296) : fitR x 20 = true ↔ (x % 128 = 19 ∧ x / 4096 % 8 = 3) := by
  have e : fitR x 20 = (bits BinOp.and IntKind.u32 x 28799 == 12307) := rfl
  rw [e, mask_2 x hx hx', beq_iff_eq]
  omega

theorem fit_22 (x : Int) (hx : 0 ≤ x) (hx' : x < 4294967296) : fitR x 21 = true ↔ (x % 128 = 19 ∧ x / 4096 % 8 = 4) := by
  have e : fitR x 21 = (bits BinOp.and IntKind.u32 x 28799 == 16403) := rfl
  rw [e, mask_2 x hx hx', beq_iff_eq]
  omega

theorem fit_23 (x : Int) (hx : 0 ≤ x) (hx' : x < 4294967296) : fitR x 22 = true ↔ (x % 128 = 19 ∧ x / 4096 % 8 = 6) := by
  have e : fitR x 22 = (bits BinOp.and IntKind.u32 x 28799 == 24595) := rfl
  rw [e, mask_2 x hx hx', beq_iff_eq]
  omega

theorem fit_24 (x : Int) (hx : 0 ≤ x) (hx' : x < 4294967296) : fitR x 23 = true ↔ (x % 128 = 19 ∧ x / 4096 % 8 = 7) := by
  have e : fitR x 23 = (bits BinOp.and IntKind.u32 x 28799 == 28691) := rfl
  rw [e, mask_2 x hx hx', beq_iff_eq]
  omega

theorem fit_25 (x : Int) (hx : 0 ≤ x) (hx' : x < 4294967296) : fitR x 24 = true ↔ (x % 128 = 19 ∧ x / 4096 % 8 = 1 ∧ x / 33554432 % 128 = 0) := by
  have e : fitR x 24 = (bits BinOp.and IntKind.u32 x 4261441663 == 4115) := rfl
  rw [e, mask_3 x hx hx', beq_iff_eq]
  omega

theorem fit_26 (x : Int) (hx : 0 ≤ x) (hx' : x < 4294967296) : fitR x 25 = true ↔ (x % 128 = 19 ∧ x / 4096 % 8 = 5 ∧ x / 33554432 % 128 = 0) := by
  have e : fitR x 25 = (bits BinOp.and IntKind.u32 x 4261441663 == 20499) := rfl
  rw [e, mask_3 x hx hx', beq_iff_eq]
  omega

theorem fit_27 (x : Int) (hx : 0 ≤ x) (hx' : x < 4294967296) : fitR x 26 = true ↔ (x % 128 = 19 ∧ x / 4096 % 8 = 5 ∧ x / 33554432 % 128 = 32) := by
  have e : fitR x 26 = (bits BinOp.and IntKind.u32 x 4261441663 == 1073762323) := rfl
  rw [e, mask_3 x hx hx', beq_iff_eq]
  omega

theorem fit_28 (x : Int) (hx : 0 ≤ x) (hx' : x < 4294967296) : fitR x 27 = true ↔ (x % 128 = 51 ∧ x / 4096 % 8 = 0 ∧ x / 33554432 % 128 = 0) := by
  have e : fitR x 27 = (bits BinOp.and IntKind.u32 x 4261441663 == 51) := rfl
  rw [e, mask_3 x hx hx', beq_iff_eq]
  omega

theorem fit_29 (x : Int) (hx : 0 ≤ x) (hx' : x < 4294967296) : fitR x 28 = true ↔ (x % 128 = 51 ∧ x / 4096 % 8 = 0 ∧ x / 33554432 % 128 = 32) := by
  have e : fitR x 28 = (bits BinOp.and IntKind.u32 x 4261441663 == 1073741875) := rfl
  rw [e, mask_3 x hx hx', beq_iff_eq]
  omega

theorem fit_30 (x : Int) (hx : 0 ≤ x) (hx' : x < 4294967296) : fitR x 29 = true ↔ (x % 128 = 51 ∧ x / 4096 % 8 = 1 ∧ x / 33554432 % 128 = 0) := by
  have e : fitR x 29 = (bits BinOp.and IntKind.u32 x 4261441663 == 4147) := rfl
  rw [e, mask_3 x hx hx', beq_iff_eq]
  omega

theorem fit_31 (x : Int) (hx : 0 ≤ x) (hx' : x < 4294967296) : fitR x 30 = true ↔ (x % 128 = 51 ∧ x / 4096 % 8 = 2 ∧ x / 33554432 % 128 = 0) := by
  have e : fitR x 30 = (bits BinOp.and IntKind.u32 x 4261441663 == 8243) := rfl
  rw [e, mask_3 x hx hx', beq_iff_eq]
  omega

theorem fit_32 (x : Int) (hx : 0 ≤ x) (hx' : x < 4294967296) : fitR x 31 = true ↔ (x % 128 = 51 ∧ x / 4096 % 8 = 3 ∧ x / 33554432 % 128 = 0) := by
  have e : fitR x 31 = (bits BinOp.and IntKind.u32 x 4261441663 == 12339) := rfl
  rw [e, mask_3 x hx hx', beq_iff_eq]
  omega

theorem fit_33 (x : Int) (hx : 0 ≤ x) (hx' : x < 4294967296) : fitR x 32 = true ↔ (x % 128 = 51 ∧ x / 4096 % 8 = 4 ∧ x / 33554432 % 128 = 0) := by
  have e : fitR x 32 = (bits BinOp.and IntKind.u32 x 4261441663 == 16435) := rfl
  rw [e, mask_3 x hx hx', beq_iff_eq]
  omega

theorem fit_34 (x : Int) (hx : 0 ≤ x) (hx' : x < 4294967296) : fitR x 33 = true ↔ (x % 128 = 51 ∧ x / 4096 % 8 = 5 ∧ x / 33554432 % 128 = 0) := by
  have e : fitR x 33 = (bits BinOp.and IntKind.u32 x 4261441663 == 20531) := rfl
  rw [e, mask_3 x hx hx', beq_iff_eq]
  omega

theorem fit_35 (x : Int) (hx : 0 ≤ x) (hx' : x < 4294967296) : fitR x 34 = true ↔ (x % 128 = 51 ∧ x / 4096 % 8 = 5 ∧ x / 33554432 % 128 = 32) := by
  have e : fitR x 34 = (bits BinOp.and IntKind.u32 x 4261441663 == 1073762355) := rfl
  rw [e, mask_3 x hx hx', beq_iff_eq]
  omega

theorem fit_36 (x : Int) (hx : 0 ≤ x) (hx' : x < 4294967296) : fitR x 35 = true ↔ (x % 128 = 51 ∧ x / 4096 % 8 = 6 ∧ x / 33554432 % 128 = 0) := by
  have e : fitR x 35 = (bits BinOp.and IntKind.u32 x 4261441663 == 24627) := rfl
  rw [e, mask_3 x hx hx', beq_iff_eq]
  omega

theorem fit_37 (x : Int) (hx : 0 ≤ x) (hx' : x < 4294967296) : fitR x 36 = true ↔ (x % 128 = 51 ∧ x / 4096 % 8 = 7 ∧ x / 33554432 % 128 = 0) := by
  have e : fitR x 36 = (bits BinOp.and IntKind.u32 x 4261441663 == 28723) := rfl
  rw [e, mask_3 x hx hx', beq_iff_eq]
  omega

theorem fit_38 (x : Int) (hx : 0 ≤ x) (hx' : x < 4294967296) : fitR x 37 = true ↔ (x = 267386895) := by
  have e : fitR x 37 = (bits BinOp.and IntKind.u32 x 4294967295 == 267386895) := rfl
  rw [e, mask_4 x hx hx', beq_iff_eq]

theorem fit_39 (x : Int) (hx : 0 ≤ x) (hx' : x < 4294967296) : fitR x 38 = true ↔ (x = 115) := by
  have e : fitR x 38 = (bits BinOp.and IntKind.u32 x 4294967295 == 115) := rfl
  rw [e, mask_4 x hx hx', beq_iff_eq]

theorem fit_40 (x : Int) (hx : 0 ≤ x) (hx' : x < 4294967296) : fitR x 39 = true ↔ (x = 1048691) := by
  have e : fitR x 39 = (bits BinOp.and IntKind.u32 x 4294967295 == 1048691) := rfl
  rw [e, mask_4 x hx hx', beq_iff_eq]

theorem fit_41 (x : Int) (hx : 0 ≤ x) (hx' : x < 4294967296) : fitR x 40 = true ↔ (x % 128 = 51 ∧ x / 4096 % 8 = 0 ∧ x / 33554432 % 128 = 1) := by
  have e : fitR x 40 = (bits BinOp.and IntKind.u32 x 4261441663 == 33554483) := rfl
  rw [e, mask_3 x hx hx', beq_iff_eq]
  omega

theorem fit_42 (x : Int) (hx : 0 ≤ x) (hx' : x < 4294967296) : fitR x 41 = true ↔ (x % 128 = 51 ∧ x / 4096 % 8 = 1 ∧ x / 33554432 % 128 = 1) := by
  have e : fitR x 41 = (bits BinOp.and IntKind.u32 x 4261441663 == 33558579) := rfl
  rw [e, mask_3 x hx hx', beq_iff_eq]
  omega

theorem fit_43 (x : Int) (hx : 0 ≤ x) (hx' : x < 4294967296) : fitR x 42 = true ↔ (x % 128 = 51 ∧ x / 4096 % 8 = 2 ∧ x / 33554432 % 128 = 1) := by
  have e : fitR x 42 = (bits BinOp.and IntKind.u32 x 4261441663 == 33562675) := rfl
  rw [e, mask_3 x hx hx', beq_iff_eq]
  omega

theorem fit_44 (x : Int) (hx : 0 ≤ x) (hx' : x < 4294967296) : fitR x 43 = true ↔ (x % 128 = 51 ∧ x / 4096 % 8 = 3 ∧ x / 33554432 % 128 = 1) := by
  have e : fitR x 43 = (bits BinOp.and IntKind.u32 x 4261441663 == 33566771) := rfl
  rw [e, mask_3 x hx hx', beq_iff_eq]
  omega

theorem fit_45 (x : Int) (hx : 0 ≤ x) (hx' : x < 4294967296) : fitR x 44 = true ↔ (x % 128 = 51 ∧ x / 4096 % 8 = 4 ∧ x / 33554432 % 128 = 1) := by
  have e : fitR x 44 = (bits BinOp.and IntKind.u32 x 4261441663 == 33570867) := rfl
  rw [e, mask_3 x hx hx', beq_iff_eq]
  omega

theorem fit_46 (x : Int) (hx : 0 ≤ x) (hx' : x < 4294967296) : fitR x 45 = true ↔ (x % 128 = 51 ∧ x / 4096 % 8 = 5 ∧ x / 33554432 % 128 = 1) := by
  have e : fitR x 45 = (bits BinOp.and IntKind.u32 x 4261441663 == 33574963) := rfl
  rw [e, mask_3 x hx hx', beq_iff_eq]
  omega

theorem fit_47 (x : Int) (hx : 0 ≤ x) (hx' : x < 4294967296) : fitR x 46 = true ↔ (x % 128 = 51 ∧ x / 4096 % 8 = 6 ∧ x / 33554432 % 128 = 1) := by
  have e : fitR x 46 = (bits BinOp.and IntKind.u32 x 4261441663 == 33579059) := rfl
  rw [e, mask_3 x hx hx', beq_iff_eq]
  omega

theorem fit_48 (x : Int) (hx : 0 ≤ x) (hx' : x < 4294967296) : fitR x 47 = true ↔ (x % 128 = 51 ∧ x / 4096 % 8 = 7 ∧ x / 33554432 % 128 = 1) := by
  have e : fitR x 47 = (bits BinOp.and IntKind.u32 x 4261441663 == 33583155) := rfl
  rw [e, mask_3 x hx hx', beq_iff_eq]
  omega

/-- The word is put by the machine's own instruction. -/
def getB (x : Int) : Bool := !((decP x).op == 0) && (!((decP x).op == 38) || x == 267386895)

def getI (x : Int) : In5 := if getB x = true then decP x else none5

theorem fit_dec (x : Int) (hx : 0 ≤ x) (hx' : x < 4294967296) (j : Nat) (hj : j < 48) (h : fitR x j = true) : (decP x).op = (j : Int) + 1 ∧ getB x = true := by
  rcases (by omega : j = 0 ∨ j = 1 ∨ j = 2 ∨ j = 3 ∨ j = 4 ∨ j = 5 ∨ j = 6 ∨ j = 7 ∨ j = 8 ∨ j = 9 ∨ j = 10 ∨ j = 11 ∨ j = 12 ∨ j = 13 ∨ j = 14 ∨ j = 15 ∨ j = 16 ∨ j = 17 ∨ j = 18 ∨ j = 19 ∨ j = 20 ∨ j = 21 ∨ j = 22 ∨ j = 23 ∨ j = 24 ∨ j = 25 ∨ j = 26 ∨ j = 27 ∨ j = 28 ∨ j = 29 ∨ j = 30 ∨ j = 31 ∨ j = 32 ∨ j = 33 ∨ j = 34 ∨ j = 35 ∨ j = 36 ∨ j = 37 ∨ j = 38 ∨ j = 39 ∨ j = 40 ∨ j = 41 ∨ j = 42 ∨ j = 43 ∨ j = 44 ∨ j = 45 ∨ j = 46 ∨ j = 47) with rfl | rfl | rfl | rfl | rfl | rfl | rfl | rfl | rfl | rfl | rfl | rfl | rfl | rfl | rfl | rfl | rfl | rfl | rfl | rfl | rfl | rfl | rfl | rfl | rfl | rfl | rfl | rfl | rfl | rfl | rfl | rfl | rfl | rfl | rfl | rfl | rfl | rfl | rfl | rfl | rfl | rfl | rfl | rfl | rfl | rfl | rfl | rfl
  · rw [fit_1 x hx hx'] at h; have h1 := h; have e : (decP x).op = 1 := by simp [decP, h1, brOp, stOp, reOp, ldOp, nuOp, shOp, plOp, rgOp]
    exact ⟨e, by unfold getB; rw [e]; rfl⟩
  · rw [fit_2 x hx hx'] at h; have h1 := h; have e : (decP x).op = 2 := by simp [decP, h1, brOp, stOp, reOp, ldOp, nuOp, shOp, plOp, rgOp]
    exact ⟨e, by unfold getB; rw [e]; rfl⟩
  · rw [fit_3 x hx hx'] at h; have h1 := h; have e : (decP x).op = 3 := by simp [decP, h1, brOp, stOp, reOp, ldOp, nuOp, shOp, plOp, rgOp]
    exact ⟨e, by unfold getB; rw [e]; rfl⟩
  · rw [fit_4 x hx hx'] at h; obtain ⟨h1, h2⟩ := h; have e : (decP x).op = 4 := by simp [decP, h1, h2, brOp, stOp, reOp, ldOp, nuOp, shOp, plOp, rgOp]
    exact ⟨e, by unfold getB; rw [e]; rfl⟩
  · rw [fit_5 x hx hx'] at h; obtain ⟨h1, h2⟩ := h; have e : (decP x).op = 5 := by simp [decP, h1, h2, brOp, stOp, reOp, ldOp, nuOp, shOp, plOp, rgOp]
    exact ⟨e, by unfold getB; rw [e]; rfl⟩
  · rw [fit_6 x hx hx'] at h; obtain ⟨h1, h2⟩ := h; have e : (decP x).op = 6 := by simp [decP, h1, h2, brOp, stOp, reOp, ldOp, nuOp, shOp, plOp, rgOp]
    exact ⟨e, by unfold getB; rw [e]; rfl⟩
  · rw [fit_7 x hx hx'] at h; obtain ⟨h1, h2⟩ := h; have e : (decP x).op = 7 := by simp [decP, h1, h2, brOp, stOp, reOp, ldOp, nuOp, shOp, plOp, rgOp]
    exact ⟨e, by unfold getB; rw [e]; rfl⟩
  · rw [fit_8 x hx hx'] at h; obtain ⟨h1, h2⟩ := h; have e : (decP x).op = 8 := by simp [decP, h1, h2, brOp, stOp, reOp, ldOp, nuOp, shOp, plOp, rgOp]
    exact ⟨e, by unfold getB; rw [e]; rfl⟩
  · rw [fit_9 x hx hx'] at h; obtain ⟨h1, h2⟩ := h; have e : (decP x).op = 9 := by simp [decP, h1, h2, brOp, stOp, reOp, ldOp, nuOp, shOp, plOp, rgOp]
    exact ⟨e, by unfold getB; rw [e]; rfl⟩
  · rw [fit_10 x hx hx'] at h; obtain ⟨h1, h2⟩ := h; have e : (decP x).op = 10 := by simp [decP, h1, h2, brOp, stOp, reOp, ldOp, nuOp, shOp, plOp, rgOp]
    exact ⟨e, by unfold getB; rw [e]; rfl⟩
  · rw [fit_11 x hx hx'] at h; obtain ⟨h1, h2⟩ := h; have e : (decP x).op = 11 := by simp [decP, h1, h2, brOp, stOp, reOp, ldOp, nuOp, shOp, plOp, rgOp]
    exact ⟨e, by unfold getB; rw [e]; rfl⟩
  · rw [fit_12 x hx hx'] at h; obtain ⟨h1, h2⟩ := h; have e : (decP x).op = 12 := by simp [decP, h1, h2, brOp, stOp, reOp, ldOp, nuOp, shOp, plOp, rgOp]
    exact ⟨e, by unfold getB; rw [e]; rfl⟩
  · rw [fit_13 x hx hx'] at h; obtain ⟨h1, h2⟩ := h; have e : (decP x).op = 13 := by simp [decP, h1, h2, brOp, stOp, reOp, ldOp, nuOp, shOp, plOp, rgOp]
    exact ⟨e, by unfold getB; rw [e]; rfl⟩
  · rw [fit_14 x hx hx'] at h; obtain ⟨h1, h2⟩ := h; have e : (decP x).op = 14 := by simp [decP, h1, h2, brOp, stOp, reOp, ldOp, nuOp, shOp, plOp, rgOp]
    exact ⟨e, by unfold getB; rw [e]; rfl⟩
  · rw [fit_15 x hx hx'] at h; obtain ⟨h1, h2⟩ := h; have e : (decP x).op = 15 := by simp [decP, h1, h2, brOp, stOp, reOp, ldOp, nuOp, shOp, plOp, rgOp]
    exact ⟨e, by unfold getB; rw [e]; rfl⟩
  · rw [fit_16 x hx hx'] at h; obtain ⟨h1, h2⟩ := h; have e : (decP x).op = 16 := by simp [decP, h1, h2, brOp, stOp, reOp, ldOp, nuOp, shOp, plOp, rgOp]
    exact ⟨e, by unfold getB; rw [e]; rfl⟩
  · rw [fit_17 x hx hx'] at h; obtain ⟨h1, h2⟩ := h; have e : (decP x).op = 17 := by simp [decP, h1, h2, brOp, stOp, reOp, ldOp, nuOp, shOp, plOp, rgOp]
    exact ⟨e, by unfold getB; rw [e]; rfl⟩
  · rw [fit_18 x hx hx'] at h; obtain ⟨h1, h2⟩ := h; have e : (decP x).op = 18 := by simp [decP, h1, h2, brOp, stOp, reOp, ldOp, nuOp, shOp, plOp, rgOp]
    exact ⟨e, by unfold getB; rw [e]; rfl⟩
  · rw [fit_19 x hx hx'] at h; obtain ⟨h1, h2⟩ := h; have e : (decP x).op = 19 := by simp [decP, h1, h2, brOp, stOp, reOp, ldOp, nuOp, shOp, plOp, rgOp]
    exact ⟨e, by unfold getB; rw [e]; rfl⟩
  · rw [fit_20 x hx hx'] at h; obtain ⟨h1, h2⟩ := h; have e : (decP x).op = 20 := by simp [decP, h1, h2, brOp, stOp, reOp, ldOp, nuOp, shOp, plOp, rgOp]
    exact ⟨e, by unfold getB; rw [e]; rfl⟩
  · rw [fit_21 x hx hx'] at h; obtain ⟨h1, h2⟩ := h; have e : (decP x).op = 21 := by simp [decP, h1, h2, brOp, stOp, reOp, ldOp, nuOp, shOp, plOp, rgOp]
    exact ⟨e, by unfold getB; rw [e]; rfl⟩
  · rw [fit_22 x hx hx'] at h; obtain ⟨h1, h2⟩ := h; have e : (decP x).op = 22 := by simp [decP, h1, h2, brOp, stOp, reOp, ldOp, nuOp, shOp, plOp, rgOp]
    exact ⟨e, by unfold getB; rw [e]; rfl⟩
  · rw [fit_23 x hx hx'] at h; obtain ⟨h1, h2⟩ := h; have e : (decP x).op = 23 := by simp [decP, h1, h2, brOp, stOp, reOp, ldOp, nuOp, shOp, plOp, rgOp]
    exact ⟨e, by unfold getB; rw [e]; rfl⟩
  · rw [fit_24 x hx hx'] at h; obtain ⟨h1, h2⟩ := h; have e : (decP x).op = 24 := by simp [decP, h1, h2, brOp, stOp, reOp, ldOp, nuOp, shOp, plOp, rgOp]
    exact ⟨e, by unfold getB; rw [e]; rfl⟩
  · rw [fit_25 x hx hx'] at h; obtain ⟨h1, h2, h3⟩ := h; have e : (decP x).op = 25 := by simp [decP, h1, h2, h3, brOp, stOp, reOp, ldOp, nuOp, shOp, plOp, rgOp]
    exact ⟨e, by unfold getB; rw [e]; rfl⟩
  · rw [fit_26 x hx hx'] at h; obtain ⟨h1, h2, h3⟩ := h; have e : (decP x).op = 26 := by simp [decP, h1, h2, h3, brOp, stOp, reOp, ldOp, nuOp, shOp, plOp, rgOp]
    exact ⟨e, by unfold getB; rw [e]; rfl⟩
  · rw [fit_27 x hx hx'] at h; obtain ⟨h1, h2, h3⟩ := h; have e : (decP x).op = 27 := by simp [decP, h1, h2, h3, brOp, stOp, reOp, ldOp, nuOp, shOp, plOp, rgOp]
    exact ⟨e, by unfold getB; rw [e]; rfl⟩
  · rw [fit_28 x hx hx'] at h; obtain ⟨h1, h2, h3⟩ := h; have e : (decP x).op = 28 := by simp [decP, h1, h2, h3, brOp, stOp, reOp, ldOp, nuOp, shOp, plOp, rgOp]
    exact ⟨e, by unfold getB; rw [e]; rfl⟩
  · rw [fit_29 x hx hx'] at h; obtain ⟨h1, h2, h3⟩ := h; have e : (decP x).op = 29 := by simp [decP, h1, h2, h3, brOp, stOp, reOp, ldOp, nuOp, shOp, plOp, rgOp]
    exact ⟨e, by unfold getB; rw [e]; rfl⟩
  · rw [fit_30 x hx hx'] at h; obtain ⟨h1, h2, h3⟩ := h; have e : (decP x).op = 30 := by simp [decP, h1, h2, h3, brOp, stOp, reOp, ldOp, nuOp, shOp, plOp, rgOp]
    exact ⟨e, by unfold getB; rw [e]; rfl⟩
  · rw [fit_31 x hx hx'] at h; obtain ⟨h1, h2, h3⟩ := h; have e : (decP x).op = 31 := by simp [decP, h1, h2, h3, brOp, stOp, reOp, ldOp, nuOp, shOp, plOp, rgOp]
    exact ⟨e, by unfold getB; rw [e]; rfl⟩
  · rw [fit_32 x hx hx'] at h; obtain ⟨h1, h2, h3⟩ := h; have e : (decP x).op = 32 := by simp [decP, h1, h2, h3, brOp, stOp, reOp, ldOp, nuOp, shOp, plOp, rgOp]
    exact ⟨e, by unfold getB; rw [e]; rfl⟩
  · rw [fit_33 x hx hx'] at h; obtain ⟨h1, h2, h3⟩ := h; have e : (decP x).op = 33 := by simp [decP, h1, h2, h3, brOp, stOp, reOp, ldOp, nuOp, shOp, plOp, rgOp]
    exact ⟨e, by unfold getB; rw [e]; rfl⟩
  · rw [fit_34 x hx hx'] at h; obtain ⟨h1, h2, h3⟩ := h; have e : (decP x).op = 34 := by simp [decP, h1, h2, h3, brOp, stOp, reOp, ldOp, nuOp, shOp, plOp, rgOp]
    exact ⟨e, by unfold getB; rw [e]; rfl⟩
  · rw [fit_35 x hx hx'] at h; obtain ⟨h1, h2, h3⟩ := h; have e : (decP x).op = 35 := by simp [decP, h1, h2, h3, brOp, stOp, reOp, ldOp, nuOp, shOp, plOp, rgOp]
    exact ⟨e, by unfold getB; rw [e]; rfl⟩
  · rw [fit_36 x hx hx'] at h; obtain ⟨h1, h2, h3⟩ := h; have e : (decP x).op = 36 := by simp [decP, h1, h2, h3, brOp, stOp, reOp, ldOp, nuOp, shOp, plOp, rgOp]
    exact ⟨e, by unfold getB; rw [e]; rfl⟩
  · rw [fit_37 x hx hx'] at h; obtain ⟨h1, h2, h3⟩ := h; have e : (decP x).op = 37 := by simp [decP, h1, h2, h3, brOp, stOp, reOp, ldOp, nuOp, shOp, plOp, rgOp]
    exact ⟨e, by unfold getB; rw [e]; rfl⟩
  · rw [fit_38 x hx hx'] at h; subst h; exact ⟨by decide, by decide⟩
  · rw [fit_39 x hx hx'] at h; subst h; exact ⟨by decide, by decide⟩
  · rw [fit_40 x hx hx'] at h; subst h; exact ⟨by decide, by decide⟩
  · rw [fit_41 x hx hx'] at h; obtain ⟨h1, h2, h3⟩ := h; have e : (decP x).op = 41 := by simp [decP, h1, h2, h3, brOp, stOp, reOp, ldOp, nuOp, shOp, plOp, rgOp]
    exact ⟨e, by unfold getB; rw [e]; rfl⟩
  · rw [fit_42 x hx hx'] at h; obtain ⟨h1, h2, h3⟩ := h; have e : (decP x).op = 42 := by simp [decP, h1, h2, h3, brOp, stOp, reOp, ldOp, nuOp, shOp, plOp, rgOp]
    exact ⟨e, by unfold getB; rw [e]; rfl⟩
  · rw [fit_43 x hx hx'] at h; obtain ⟨h1, h2, h3⟩ := h; have e : (decP x).op = 43 := by simp [decP, h1, h2, h3, brOp, stOp, reOp, ldOp, nuOp, shOp, plOp, rgOp]
    exact ⟨e, by unfold getB; rw [e]; rfl⟩
  · rw [fit_44 x hx hx'] at h; obtain ⟨h1, h2, h3⟩ := h; have e : (decP x).op = 44 := by simp [decP, h1, h2, h3, brOp, stOp, reOp, ldOp, nuOp, shOp, plOp, rgOp]
    exact ⟨e, by unfold getB; rw [e]; rfl⟩
  · rw [fit_45 x hx hx'] at h; obtain ⟨h1, h2, h3⟩ := h; have e : (decP x).op = 45 := by simp [decP, h1, h2, h3, brOp, stOp, reOp, ldOp, nuOp, shOp, plOp, rgOp]
    exact ⟨e, by unfold getB; rw [e]; rfl⟩
  · rw [fit_46 x hx hx'] at h; obtain ⟨h1, h2, h3⟩ := h; have e : (decP x).op = 46 := by simp [decP, h1, h2, h3, brOp, stOp, reOp, ldOp, nuOp, shOp, plOp, rgOp]
    exact ⟨e, by unfold getB; rw [e]; rfl⟩
  · rw [fit_47 x hx hx'] at h; obtain ⟨h1, h2, h3⟩ := h; have e : (decP x).op = 47 := by simp [decP, h1, h2, h3, brOp, stOp, reOp, ldOp, nuOp, shOp, plOp, rgOp]
    exact ⟨e, by unfold getB; rw [e]; rfl⟩
  · rw [fit_48 x hx hx'] at h; obtain ⟨h1, h2, h3⟩ := h; have e : (decP x).op = 48 := by simp [decP, h1, h2, h3, brOp, stOp, reOp, ldOp, nuOp, shOp, plOp, rgOp]
    exact ⟨e, by unfold getB; rw [e]; rfl⟩

theorem dec_fit (x : Int) (hx : 0 ≤ x) (hx' : x < 4294967296) (h : getB x = true) : ∃ j, j < 48 ∧ fitR x j = true := by
  have hf := f8 (x / 4096 % 8) (by omega) (by omega)
  unfold getB at h
  rw [Bool.and_eq_true, Bool.or_eq_true] at h
  obtain ⟨h0, h38⟩ := h
  have h0' : (decP x).op ≠ 0 := by simpa using h0
  have h38' : (decP x).op ≠ 38 ∨ x = 267386895 := by simpa using h38
  clear h0 h38
  by_cases h55 : x % 128 = 55
  · exact ⟨0, by omega, (fit_1 x hx hx').2 h55⟩
  by_cases h23 : x % 128 = 23
  · exact ⟨1, by omega, (fit_2 x hx hx').2 h23⟩
  by_cases h111 : x % 128 = 111
  · exact ⟨2, by omega, (fit_3 x hx hx').2 h111⟩
  by_cases h99 : x % 128 = 99
  · rcases hf with hf | hf | hf | hf | hf | hf | hf | hf
    · exact ⟨4, by omega, (fit_5 x hx hx').2 ⟨h99, hf⟩⟩
    · exact ⟨5, by omega, (fit_6 x hx hx').2 ⟨h99, hf⟩⟩
    · exact absurd (by simp [decP, h99, hf, brOp, stOp, reOp, ldOp, nuOp, shOp, plOp, rgOp, baOp, none5]) h0'
    · exact absurd (by simp [decP, h99, hf, brOp, stOp, reOp, ldOp, nuOp, shOp, plOp, rgOp, baOp, none5]) h0'
    · exact ⟨6, by omega, (fit_7 x hx hx').2 ⟨h99, hf⟩⟩
    · exact ⟨7, by omega, (fit_8 x hx hx').2 ⟨h99, hf⟩⟩
    · exact ⟨8, by omega, (fit_9 x hx hx').2 ⟨h99, hf⟩⟩
    · exact ⟨9, by omega, (fit_10 x hx hx').2 ⟨h99, hf⟩⟩
  by_cases h35 : x % 128 = 35
  · rcases hf with hf | hf | hf | hf | hf | hf | hf | hf
    · exact ⟨15, by omega, (fit_16 x hx hx').2 ⟨h35, hf⟩⟩
    · exact ⟨16, by omega, (fit_17 x hx hx').2 ⟨h35, hf⟩⟩
    · exact ⟨17, by omega, (fit_18 x hx hx').2 ⟨h35, hf⟩⟩
    · exact absurd (by simp [decP, h35, hf, brOp, stOp, reOp, ldOp, nuOp, shOp, plOp, rgOp, baOp, none5]) h0'
    · exact absurd (by simp [decP, h35, hf, brOp, stOp, reOp, ldOp, nuOp, shOp, plOp, rgOp, baOp, none5]) h0'
    · exact absurd (by simp [decP, h35, hf, brOp, stOp, reOp, ldOp, nuOp, shOp, plOp, rgOp, baOp, none5]) h0'
    · exact absurd (by simp [decP, h35, hf, brOp, stOp, reOp, ldOp, nuOp, shOp, plOp, rgOp, baOp, none5]) h0'
    · exact absurd (by simp [decP, h35, hf, brOp, stOp, reOp, ldOp, nuOp, shOp, plOp, rgOp, baOp, none5]) h0'
  by_cases h103 : x % 128 = 103
  · rcases hf with hf | hf | hf | hf | hf | hf | hf | hf
    · exact ⟨3, by omega, (fit_4 x hx hx').2 ⟨h103, hf⟩⟩
    · exact absurd (by simp [decP, h103, hf, brOp, stOp, reOp, ldOp, nuOp, shOp, plOp, rgOp, baOp, none5]) h0'
    · exact absurd (by simp [decP, h103, hf, brOp, stOp, reOp, ldOp, nuOp, shOp, plOp, rgOp, baOp, none5]) h0'
    · exact absurd (by simp [decP, h103, hf, brOp, stOp, reOp, ldOp, nuOp, shOp, plOp, rgOp, baOp, none5]) h0'
    · exact absurd (by simp [decP, h103, hf, brOp, stOp, reOp, ldOp, nuOp, shOp, plOp, rgOp, baOp, none5]) h0'
    · exact absurd (by simp [decP, h103, hf, brOp, stOp, reOp, ldOp, nuOp, shOp, plOp, rgOp, baOp, none5]) h0'
    · exact absurd (by simp [decP, h103, hf, brOp, stOp, reOp, ldOp, nuOp, shOp, plOp, rgOp, baOp, none5]) h0'
    · exact absurd (by simp [decP, h103, hf, brOp, stOp, reOp, ldOp, nuOp, shOp, plOp, rgOp, baOp, none5]) h0'
  by_cases h3 : x % 128 = 3
  · rcases hf with hf | hf | hf | hf | hf | hf | hf | hf
    · exact ⟨10, by omega, (fit_11 x hx hx').2 ⟨h3, hf⟩⟩
    · exact ⟨11, by omega, (fit_12 x hx hx').2 ⟨h3, hf⟩⟩
    · exact ⟨12, by omega, (fit_13 x hx hx').2 ⟨h3, hf⟩⟩
    · exact absurd (by simp [decP, h3, hf, brOp, stOp, reOp, ldOp, nuOp, shOp, plOp, rgOp, baOp, none5]) h0'
    · exact ⟨13, by omega, (fit_14 x hx hx').2 ⟨h3, hf⟩⟩
    · exact ⟨14, by omega, (fit_15 x hx hx').2 ⟨h3, hf⟩⟩
    · exact absurd (by simp [decP, h3, hf, brOp, stOp, reOp, ldOp, nuOp, shOp, plOp, rgOp, baOp, none5]) h0'
    · exact absurd (by simp [decP, h3, hf, brOp, stOp, reOp, ldOp, nuOp, shOp, plOp, rgOp, baOp, none5]) h0'
  by_cases h19 : x % 128 = 19
  · rcases hf with hf | hf | hf | hf | hf | hf | hf | hf
    · exact ⟨18, by omega, (fit_19 x hx hx').2 ⟨h19, hf⟩⟩
    · by_cases hg : x / 33554432 % 128 = 0
      · exact ⟨24, by omega, (fit_25 x hx hx').2 ⟨h19, hf, hg⟩⟩
      · exact absurd (by simp [decP, h19, hf, hg, brOp, stOp, reOp, ldOp, nuOp, shOp, plOp, rgOp, baOp, none5]) h0'
    · exact ⟨19, by omega, (fit_20 x hx hx').2 ⟨h19, hf⟩⟩
    · exact ⟨20, by omega, (fit_21 x hx hx').2 ⟨h19, hf⟩⟩
    · exact ⟨21, by omega, (fit_22 x hx hx').2 ⟨h19, hf⟩⟩
    · by_cases hg : x / 33554432 % 128 = 0
      · exact ⟨25, by omega, (fit_26 x hx hx').2 ⟨h19, hf, hg⟩⟩
      · by_cases hg2 : x / 33554432 % 128 = 32
        · exact ⟨26, by omega, (fit_27 x hx hx').2 ⟨h19, hf, hg2⟩⟩
        · exact absurd (by simp [decP, h19, hf, hg, hg2, brOp, stOp, reOp, ldOp, nuOp, shOp, plOp, rgOp, baOp, none5]) h0'
    · exact ⟨22, by omega, (fit_23 x hx hx').2 ⟨h19, hf⟩⟩
    · exact ⟨23, by omega, (fit_24 x hx hx').2 ⟨h19, hf⟩⟩
  by_cases h51 : x % 128 = 51
  · rcases hf with hf | hf | hf | hf | hf | hf | hf | hf
    · by_cases hg : x / 33554432 % 128 = 0
      · exact ⟨27, by omega, (fit_28 x hx hx').2 ⟨h51, hf, hg⟩⟩
      by_cases hg1 : x / 33554432 % 128 = 1
      · exact ⟨40, by omega, (fit_41 x hx hx').2 ⟨h51, hf, hg1⟩⟩
      by_cases hg2 : x / 33554432 % 128 = 32
      · exact ⟨28, by omega, (fit_29 x hx hx').2 ⟨h51, hf, hg2⟩⟩
      exact absurd (by simp [decP, h51, hf, hg, hg1, hg2, brOp, stOp, reOp, ldOp, nuOp, shOp, plOp, rgOp, baOp, none5]) h0'
    · by_cases hg : x / 33554432 % 128 = 0
      · exact ⟨29, by omega, (fit_30 x hx hx').2 ⟨h51, hf, hg⟩⟩
      by_cases hg1 : x / 33554432 % 128 = 1
      · exact ⟨41, by omega, (fit_42 x hx hx').2 ⟨h51, hf, hg1⟩⟩
      exact absurd (by simp [decP, h51, hf, hg, hg1, brOp, stOp, reOp, ldOp, nuOp, shOp, plOp, rgOp, baOp, none5]) h0'
    · by_cases hg : x / 33554432 % 128 = 0
      · exact ⟨30, by omega, (fit_31 x hx hx').2 ⟨h51, hf, hg⟩⟩
      by_cases hg1 : x / 33554432 % 128 = 1
      · exact ⟨42, by omega, (fit_43 x hx hx').2 ⟨h51, hf, hg1⟩⟩
      exact absurd (by simp [decP, h51, hf, hg, hg1, brOp, stOp, reOp, ldOp, nuOp, shOp, plOp, rgOp, baOp, none5]) h0'
    · by_cases hg : x / 33554432 % 128 = 0
      · exact ⟨31, by omega, (fit_32 x hx hx').2 ⟨h51, hf, hg⟩⟩
      by_cases hg1 : x / 33554432 % 128 = 1
      · exact ⟨43, by omega, (fit_44 x hx hx').2 ⟨h51, hf, hg1⟩⟩
      exact absurd (by simp [decP, h51, hf, hg, hg1, brOp, stOp, reOp, ldOp, nuOp, shOp, plOp, rgOp, baOp, none5]) h0'
    · by_cases hg : x / 33554432 % 128 = 0
      · exact ⟨32, by omega, (fit_33 x hx hx').2 ⟨h51, hf, hg⟩⟩
      by_cases hg1 : x / 33554432 % 128 = 1
      · exact ⟨44, by omega, (fit_45 x hx hx').2 ⟨h51, hf, hg1⟩⟩
      exact absurd (by simp [decP, h51, hf, hg, hg1, brOp, stOp, reOp, ldOp, nuOp, shOp, plOp, rgOp, baOp, none5]) h0'
    · by_cases hg : x / 33554432 % 128 = 0
      · exact ⟨33, by omega, (fit_34 x hx hx').2 ⟨h51, hf, hg⟩⟩
      by_cases hg1 : x / 33554432 % 128 = 1
      · exact ⟨45, by omega, (fit_46 x hx hx').2 ⟨h51, hf, hg1⟩⟩
      by_cases hg2 : x / 33554432 % 128 = 32
      · exact ⟨34, by omega, (fit_35 x hx hx').2 ⟨h51, hf, hg2⟩⟩
      exact absurd (by simp [decP, h51, hf, hg, hg1, hg2, brOp, stOp, reOp, ldOp, nuOp, shOp, plOp, rgOp, baOp, none5]) h0'
    · by_cases hg : x / 33554432 % 128 = 0
      · exact ⟨35, by omega, (fit_36 x hx hx').2 ⟨h51, hf, hg⟩⟩
      by_cases hg1 : x / 33554432 % 128 = 1
      · exact ⟨46, by omega, (fit_47 x hx hx').2 ⟨h51, hf, hg1⟩⟩
      exact absurd (by simp [decP, h51, hf, hg, hg1, brOp, stOp, reOp, ldOp, nuOp, shOp, plOp, rgOp, baOp, none5]) h0'
    · by_cases hg : x / 33554432 % 128 = 0
      · exact ⟨36, by omega, (fit_37 x hx hx').2 ⟨h51, hf, hg⟩⟩
      by_cases hg1 : x / 33554432 % 128 = 1
      · exact ⟨47, by omega, (fit_48 x hx hx').2 ⟨h51, hf, hg1⟩⟩
      exact absurd (by simp [decP, h51, hf, hg, hg1, brOp, stOp, reOp, ldOp, nuOp, shOp, plOp, rgOp, baOp, none5]) h0'
  by_cases h15 : x % 128 = 15
  · by_cases hz : x / 4096 % 8 = 0
    · rcases h38' with h | h
      · exact absurd (by simp [decP, h15, hz, baOp]) h
      · exact ⟨37, by omega, (fit_38 x hx hx').2 h⟩
    · have : ¬ x = 115 := by omega
      have : ¬ x = 1048691 := by omega
      exact absurd (by simp [decP, h15, hz, baOp, *]) h0'
  by_cases h115 : x % 128 = 115
  · by_cases ha : x = 115
    · exact ⟨38, by omega, (fit_39 x hx hx').2 ha⟩
    by_cases hb : x = 1048691
    · exact ⟨39, by omega, (fit_40 x hx hx').2 hb⟩
    exact absurd (by simp [decP, h115, ha, hb, baOp]) h0'
  exact absurd (by simp [decP, h55, h23, h111, h99, h35, h19, h103, h3, h51, h15, h115, none5]) h0'

/-- A word fits one row at most. -/
theorem fit_one (x : Int) (hx : 0 ≤ x) (hx' : x < 4294967296) (j k : Nat) (hj : j < 48) (hk : k < 48) (h : fitR x j = true) (h' : fitR x k = true) : j = k := by
  have a := (fit_dec x hx hx' j hj h).1
  have b := (fit_dec x hx hx' k hk h').1
  omega

end Go.Proofs.YtpaadeiopflfgaaDoor
