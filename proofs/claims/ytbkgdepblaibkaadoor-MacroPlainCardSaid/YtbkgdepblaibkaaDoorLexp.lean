/- Plain: what the document reads in a source: its tokens, its lines. -/
import Derived.Test.YtbkgdepblaibkaaDoorBlk
namespace Go.Proofs.YtbkgdepblaibkaaDoor
open Go.RowKit
set_option linter.unusedVariables false
set_option linter.unusedSimpArgs false

/-- Letters and the low line; digits; those of base sixteen; what may stand in a name. -/
def letN : List UInt8 := [97, 98, 99, 100, 101, 102, 103, 104, 105, 106, 107, 108, 109, 110, 111, 112, 113, 114, 115, 116, 117, 118, 119, 120, 121, 122, 65, 66, 67, 68, 69, 70, 71, 72, 73, 74, 75, 76, 77, 78, 79, 80, 81, 82, 83, 84, 85, 86, 87, 88, 89, 90, 95]

def digN : List UInt8 := [48, 49, 50, 51, 52, 53, 54, 55, 56, 57]

def hexN : List UInt8 := [48, 49, 50, 51, 52, 53, 54, 55, 56, 57, 97, 98, 99, 100, 101, 102, 65, 66, 67, 68, 69, 70]

def goN : List UInt8 := letN ++ digN ++ [46, 36]

/-- How many of the bytes at the beginning are among some. -/
def whileN (set : List UInt8) : List UInt8 → Nat
  | [] => 0
  | c :: l => if set.contains c = true then 1 + whileN set l else 0

theorem whileN_le (set l : List UInt8) : whileN set l ≤ l.length := by
  induction l with
  | nil => exact Nat.le_refl _
  | cons c l ih => unfold whileN; split <;> simp only [List.length_cons] <;> omega

/-- A digit's value. -/
def digV (c : UInt8) : Nat := if 97 ≤ c.toNat then c.toNat - 97 + 10 else if 65 ≤ c.toNat then c.toNat - 65 + 10 else (c.toNat + 208) % 256

def numFrom (s : List UInt8) : Nat := if s.take 2 = [48, 98] then 2 else if s.take 2 = [48, 120] then 2 else 0

def numBase (s : List UInt8) : Nat := if s.take 2 = [48, 98] then 2 else if s.take 2 = [48, 120] then 16 else 10

def numSet (s : List UInt8) : List UInt8 := if s.take 2 = [48, 98] then [48, 49] else if s.take 2 = [48, 120] then hexN else digN

/-- The value of some digits; none, if it is too great. -/
def valU (base : Nat) : List UInt8 → Nat → Option Nat
  | [], v => some v
  | c :: l, v => if 4294967296 ≤ v * base + digV c then none else valU base l (v * base + digV c)

/-- A number at the beginning: its value, and how long it is; 0: there is none. -/
def numR (s : List UInt8) : Nat × Nat :=
  if whileN (numSet s) (s.drop (numFrom s)) = 0 ∨ (numFrom s + whileN (numSet s) (s.drop (numFrom s)) < s.length ∧ goN.contains (s.getD (numFrom s + whileN (numSet s) (s.drop (numFrom s))) 0) = true) then (0, 0)
  else match valU (numBase s) ((s.drop (numFrom s)).take (whileN (numSet s) (s.drop (numFrom s)))) 0 with
    | none => (0, 0)
    | some v => (v, numFrom s + whileN (numSet s) (s.drop (numFrom s)))

def escTab (c : UInt8) : Option UInt8 :=
  if c = 110 then some 10 else if c = 116 then some 9 else if c = 114 then some 13 else if c = 48 then some 0 else if c = 92 then some 92 else if c = 39 then some 39 else if c = 34 then some 34 else none

/-- An escape at the beginning: its byte, and how long it is; 0: there is none. -/
def escR : List UInt8 → UInt8 × Nat
  | 92 :: c :: l => match escTab c with
    | some b => (b, 2)
    | none => if c = 120 then (match l with
      | a :: b :: _ => if hexN.contains a = true ∧ hexN.contains b = true then (UInt8.ofNat (digV a * 16 + digV b), 4) else (0, 0)
      | _ => (0, 0)) else (0, 0)
  | _ => (0, 0)

/-- A byte within quotes, and how long it is. -/
def quoR (q : UInt8) : List UInt8 → UInt8 × Nat
  | [] => (0, 0)
  | c :: l => if c = q then (0, 0) else if c = 92 then escR (c :: l) else if 32 ≤ c.toNat ∨ (c = 9 ∧ q = 34) then (c, 1) else (0, 0)

/-- The bytes of a text, and how long they are. -/
def txtR : Nat → List UInt8 → List UInt8 × Nat
  | 0, _ => ([], 0)
  | f + 1, s => if (quoR 34 s).2 = 0 then ([], 0) else ((quoR 34 s).1 :: (txtR f (s.drop (quoR 34 s).2)).1, (quoR 34 s).2 + (txtR f (s.drop (quoR 34 s).2)).2)

/-- A text at the beginning. -/
def textR (s : List UInt8) : List UInt8 × Nat :=
  if 1 + (txtR s.length (s.drop 1)).2 < s.length ∧ s.getD (1 + (txtR s.length (s.drop 1)).2) 0 = 34 then ((txtR s.length (s.drop 1)).1, 1 + (txtR s.length (s.drop 1)).2 + 1) else ([], 0)

def tok0 : Tok := ⟨0, 0, 0, [], 0, 0⟩

def tokN (k : Int) (s : List UInt8) : Tok := ⟨k, 0, 0, s, 0, 0⟩

def tokU (v : Nat) : Tok := ⟨5, 0, 0, [], v, 0⟩

/-- The marks of one byte. -/
def markN : List UInt8 := [44, 58, 40, 41, 43, 45, 42, 47, 38, 124, 94, 126, 61]

/-- The token at the beginning, and how long it is; or 0, and a code. -/
def tokR (s : List UInt8) : Tok × Nat × Nat :=
  if (letN ++ [46]).contains (s.getD 0 0) = true then (tokN 1 (s.take (whileN goN s)), whileN goN s, 0)
  else if digN.contains (s.getD 0 0) = true then (tokU (numR s).1, (numR s).2, 3)
  else if s.getD 0 0 = 39 then
    (if 0 < (quoR 39 (s.drop 1)).2 ∧ (quoR 39 (s.drop 1)).2 < (s.drop 1).length ∧ (s.drop 1).getD (quoR 39 (s.drop 1)).2 0 = 39 then (tokU (quoR 39 (s.drop 1)).1.toNat, (quoR 39 (s.drop 1)).2 + 2, 0) else (tok0, 0, 3))
  else if s.getD 0 0 = 34 then (tokN 6 (textR s).1, (textR s).2, 4)
  else if s.getD 0 0 = 37 ∧ ((s.drop 1).take (whileN (letN ++ digN) (s.drop 1)) = [104, 105] ∨ (s.drop 1).take (whileN (letN ++ digN) (s.drop 1)) = [108, 111] ∨ (s.drop 1).take (whileN (letN ++ digN) (s.drop 1)) = [112, 99, 114, 101, 108]) then
    (tokN 4 ((s.drop 1).take (whileN (letN ++ digN) (s.drop 1))), whileN (letN ++ digN) (s.drop 1) + 1, 0)
  else if (s.getD 0 0 = 64 ∨ s.getD 0 0 = 92) ∧ 0 < whileN (letN ++ digN) (s.drop 1) ∧ letN.contains ((s.drop 1).getD 0 0) = true then
    (tokN (if s.getD 0 0 = 92 then 3 else 2) ((s.drop 1).take (whileN (letN ++ digN) (s.drop 1))), whileN (letN ++ digN) (s.drop 1) + 1, 0)
  else if s.take 2 = [60, 60] ∨ s.take 2 = [62, 62] then (tokN 7 (s.take 2), 2, 0)
  else if markN.contains (s.getD 0 0) = true then (tokN 7 (s.take 1), 1, 0)
  else (tok0, 0, 2)

/-- What comes of a line, or of lines: the tokens; or a place, and a code. -/
inductive LRes (α : Type) where
  | ok (l : α)
  | bad (line col code : Int)

def placeT (t : Tok) (line col : Int) : Tok := { t with line := line, col := col }

def blankN : List UInt8 := [32, 9, 13]

/-- A line's tokens, from the place i on. -/
def lineR (number : Int) : Nat → Nat → List UInt8 → LRes (List Tok)
  | 0, _, _ => .ok []
  | f + 1, i, s =>
    if s = [] then .ok []
    else if blankN.contains (s.getD 0 0) = true then lineR number f (i + 1) (s.drop 1)
    else if s.getD 0 0 = 35 then .ok []
    else if (tokR s).2.1 = 0 then .bad number ((i + 1 : Nat) : Int) (tokR s).2.2
    else match lineR number f (i + (tokR s).2.1) (s.drop (tokR s).2.1) with
      | .bad a b c => .bad a b c
      | .ok ts => .ok (placeT (tokR s).1 number ((i + 1 : Nat) : Int) :: ts)

/-- What is between line feeds. -/
def splitL : List UInt8 → List (List UInt8)
  | [] => [[]]
  | c :: l => if c = 10 then [] :: splitL l else match splitL l with
    | [] => [[c]]
    | a :: r => (c :: a) :: r

/-- The lines' tokens, from some number on. -/
def linesR : Nat → List (List UInt8) → LRes (List (List Tok))
  | _, [] => .ok []
  | n, s :: r => match lineR n s.length 0 s with
    | .bad a b c => .bad a b c
    | .ok ts => match linesR (n + 1) r with
      | .bad a b c => .bad a b c
      | .ok ls => .ok (ts :: ls)

/-- A source's lines. -/
def srcR (s : List UInt8) : LRes (List (List Tok)) := if 65536 < s.length then .bad 1 1 12 else linesR 1 (splitL s)

end Go.Proofs.YtbkgdepblaibkaaDoor
