/- Plain: the operations' fixed bits and forms, by their numbers. -/
import Derived.Test.YtdgmdkkockbkjaaGreatDoorPlain
namespace Go.Proofs.YtdgmdkkockbkjaaGreatDoor

/-- The bits that are fixed, by the operation's number. -/
def rowsM : List Int := [0, 55, 23, 111, 103, 99, 4195, 16483, 20579, 24675, 28771, 3, 4099, 8195, 16387, 20483, 35, 4131, 8227, 19, 8211, 12307, 16403, 24595, 28691, 4115, 20499, 1073762323, 51, 1073741875, 4147, 8243, 12339, 16435, 20531, 1073762355, 24627, 28723, 267386895, 115, 1048691, 33554483, 33558579, 33562675, 33566771, 33570867, 33574963, 33579059, 33583155]

def rowM (op : Int) : Int := rowsM.getD op.toNat 0

/-- The forms, by the operation's number: 1 Upper, 2 Jump, 3 Branch, 4 Load, 5 Store, 6 Number, 7 Shift, 8 Register, 9 Bare. -/
def formsL : List Int := [0, 1, 1, 2, 4, 3, 3, 3, 3, 3, 3, 4, 4, 4, 4, 4, 5, 5, 5, 6, 6, 6, 6, 6, 6, 7, 7, 7, 8, 8, 8, 8, 8, 8, 8, 8, 8, 8, 9, 9, 9, 8, 8, 8, 8, 8, 8, 8, 8]

def formN (op : Int) : Int := formsL.getD op.toNat 0

/-- Is it a register, or 0 where there is none? -/
def regB (n : Int) (need : Bool) : Bool := if need = true then decide (0 ≤ n) && decide (n ≤ 31) else n == 0

/-- Is a number a signed one of so many bits? -/
def fitB (v : Int) (b : Nat) : Bool := sgn (v % 4294967296) b == v

/-- May a number stand in a form? -/
def numB (f v : Int) : Bool :=
  if f = 1 then v % 4096 == 0
  else if f = 2 then v % 2 == 0 && fitB v 21
  else if f = 3 then v % 2 == 0 && fitB v 13
  else if f = 4 ∨ f = 5 ∨ f = 6 then fitB v 12
  else if f = 7 then decide (0 ≤ v) && decide (v ≤ 31)
  else v == 0

def needD (f : Int) : Bool := f == 1 || f == 2 || f == 4 || f == 6 || f == 7 || f == 8

def needS (f : Int) : Bool := f == 3 || f == 4 || f == 5 || f == 6 || f == 7 || f == 8

def needT (f : Int) : Bool := f == 3 || f == 5 || f == 8

/-- May it be an instruction? -/
def mayB (op rd rs1 rs2 imm : Int) : Bool :=
  !(formN op == 0) && (regB rd (needD (formN op)) && (regB rs1 (needS (formN op)) && (regB rs2 (needT (formN op)) && numB (formN op) imm)))

theorem formN_range (op : Int) : formN op = 0 ∨ formN op = 1 ∨ formN op = 2 ∨ formN op = 3 ∨ formN op = 4 ∨ formN op = 5 ∨ formN op = 6 ∨ formN op = 7 ∨ formN op = 8 ∨ formN op = 9 := by
  have h : ∀ x ∈ formsL, x = 0 ∨ x = 1 ∨ x = 2 ∨ x = 3 ∨ x = 4 ∨ x = 5 ∨ x = 6 ∨ x = 7 ∨ x = 8 ∨ x = 9 := by decide
  unfold formN
  by_cases hl : op.toNat < formsL.length
  · have e : formsL.getD op.toNat 0 = formsL[op.toNat] := by rw [List.getD_eq_getElem?_getD, List.getElem?_eq_getElem hl]; rfl
    rw [e]; exact h _ (List.getElem_mem hl)
  · have e : formsL.getD op.toNat 0 = 0 := by rw [List.getD_eq_getElem?_getD, List.getElem?_eq_none (by omega)]; rfl
    rw [e]; exact Or.inl rfl

end Go.Proofs.YtdgmdkkockbkjaaGreatDoor
