/- Plain: what an instruction's register gets. -/
import Derived.Test.YtmobkjdbjgopgaaIns
namespace Go.Proofs.Ytmobkjdbjgopgaa
open Go.RowKit
set_option linter.unusedVariables false

/-- 1, if the first is less. -/
def ltI (a b : Int) : Int := if a < b then 1 else 0

/-- What an operation does with two numbers. -/
def recV (op a b : Int) : Int :=
  if op = 19 ∨ op = 28 then (a + b) % 4294967296
  else if op = 29 then (a - b) % 4294967296
  else if op = 20 ∨ op = 31 then ltI (wrap32 a) (wrap32 b)
  else if op = 21 ∨ op = 32 then ltI a b
  else if op = 22 ∨ op = 33 then bits .xor .u32 a b
  else if op = 23 ∨ op = 36 then bits .or .u32 a b
  else if op = 24 ∨ op = 37 then bits .and .u32 a b
  else if op = 25 ∨ op = 30 then a * 2 ^ (b % 32).toNat % 4294967296
  else if op = 26 ∨ op = 34 then a / 2 ^ (b % 32).toNat
  else if op = 27 ∨ op = 35 then (wrap32 a / 2 ^ (b % 32).toNat) % 4294967296
  else if op = 41 then a * b % 4294967296
  else if op = 42 then mulh a b true true
  else if op = 43 then mulh a b true false
  else if op = 44 then mulh a b false false
  else if op = 45 then dv a b true
  else if op = 46 then dv a b false
  else if op = 47 then rm a b true
  else if op = 48 then rm a b false
  else 0

def recO (op : Int) : Bool := (decide (19 ≤ op) && decide (op ≤ 37)) || (decide (41 ≤ op) && decide (op ≤ 48))

/-- The second number. -/
def sndV (op b imm : Int) : Int := if formN op = 8 then b else imm % 4294967296

/-- What the register gets, if it gets anything. -/
def valV (op a b pc imm size : Int) : Int :=
  if op = 1 then imm % 4294967296
  else if op = 2 then (pc + imm % 4294967296) % 4294967296
  else if op = 3 ∨ op = 4 then (pc + size % 4294967296) % 4294967296
  else recV op a (sndV op b imm)

def valO (op : Int) : Bool := (decide (1 ≤ op) && decide (op ≤ 4)) || recO op

theorem shl_u32 (a n : Int) : a * 2 ^ n.toNat % 4294967296 = a * 2 ^ n.toNat % 4294967296 := rfl

theorem and31 (b : Int) (hb : 0 ≤ b) (hb' : b < 4294967296) : bits .and .u32 b 31 = b % 32 := by
  obtain ⟨n, rfl⟩ := Int.eq_ofNat_of_zero_le hb
  have h := u32_and_nat n 31 (by omega) (by decide)
  have e : n &&& 31 = n % 32 := by
    have := Nat.and_two_pow_sub_one_eq_mod n 5
    simpa using this
  rw [e] at h
  exact h.trans (by omega)

end Go.Proofs.Ytmobkjdbjgopgaa
