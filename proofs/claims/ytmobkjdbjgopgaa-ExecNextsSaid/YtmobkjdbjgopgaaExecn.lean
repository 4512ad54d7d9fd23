/- Contracts of package exec: Next, Access. -/
import Derived.Test.YtmobkjdbjgopgaaExecc
namespace Go.Proofs.Ytmobkjdbjgopgaa
open Go.RowKit
set_option linter.unusedVariables false
set_option linter.unusedSimpArgs false

/-- Does it go where it says? -/
def goB (op a b : Int) : Bool :=
  if op = 3 then true else if op = 5 then a == b else if op = 6 then !(a == b) else if op = 7 then decide (wrap32 a < wrap32 b) else if op = 8 then decide (wrap32 b ≤ wrap32 a)
  else if op = 9 then decide (a < b) else if op = 10 then decide (b ≤ a) else false

def nextV (op a b pc imm size : Int) : Int :=
  if op = 4 then bits .andNot .u32 ((a + imm % 4294967296) % 4294967296) 1
  else if goB op a b = true then (pc + imm % 4294967296) % 4294967296 else (pc + size % 4294967296) % 4294967296

def accN (op : Int) : Int := if op = 11 ∨ op = 14 ∨ op = 16 then 1 else if op = 12 ∨ op = 15 ∨ op = 17 then 2 else if op = 13 ∨ op = 18 then 4 else 0

def accS (op : Int) : Bool := decide (16 ≤ op) && decide (op ≤ 18)

def accG (op : Int) : Bool := decide (11 ≤ op) && decide (op ≤ 13)

def accA (op a imm : Int) : Int := if accN op = 0 then 0 else (a + imm % 4294967296) % 4294967296

theorem ret4 {a b c d : Int} {e f g h : Bool} (h1 : a = b) (h2 : c = d) (h3 : e = f) (h4 : g = h) : Ending.returned (.tuple #[.int .u32 a, .int .i64 c, .bool e, .bool g]) = Ending.returned (.tuple #[.int .u32 b, .int .i64 d, .bool f, .bool h]) := by rw [h1, h2, h3, h4]

end Go.Proofs.Ytmobkjdbjgopgaa
