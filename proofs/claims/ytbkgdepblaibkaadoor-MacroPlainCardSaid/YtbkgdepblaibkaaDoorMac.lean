/- Plain: macros: how tokens are parted, a head, what is handed, what is filled in. -/
import Derived.Test.YtbkgdepblaibkaaDoorLexp
namespace Go.Proofs.YtbkgdepblaibkaaDoor
open Go.RowKit
set_option linter.unusedVariables false
set_option linter.unusedSimpArgs false

/-- Is a token that mark? -/
def mkN (s : List UInt8) (t : Tok) : Bool := (t.kind == 7) && (t.text == s)

/-- How many parentheses are open behind a token. -/
def depN (d : Nat) (t : Tok) : Nat := if mkN [40] t = true then d + 1 else if mkN [41] t = true then d - 1 else d

/-- How many tokens stand ahead of the first comma that parts. -/
def comN : Nat → List Tok → Nat
  | _, [] => 0
  | d, t :: l => if mkN [44] t = true ∧ d = 0 then 0 else 1 + comN (depN d t) l

theorem mk_apart (s r : List UInt8) (t : Tok) (h : mkN s t = true) (hne : (s == r) = false) : mkN r t = false := by
  unfold mkN at h ⊢
  simp only [Bool.and_eq_true, beq_iff_eq] at h
  rw [h.1, h.2, hne]; rfl

theorem comN_le (l : List Tok) : ∀ d, comN d l ≤ l.length := by
  induction l with
  | nil => intro d; exact Nat.le_refl _
  | cons t l ih =>
    intro d
    unfold comN
    split
    · exact Nat.zero_le _
    · have := ih (depN d t)
      simp only [List.length_cons]; omega

/-- Where it is a comma. -/
theorem comN_at (l : List Tok) : ∀ d, comN d l < l.length → ∃ t, l[comN d l]? = some t ∧ mkN [44] t = true := by
  induction l with
  | nil => intro d h; exact absurd h (by simp [comN])
  | cons t l ih =>
    intro d h
    unfold comN at h ⊢
    split
    · rename_i h1; exact ⟨t, rfl, h1.1⟩
    · rename_i h1
      rw [if_neg h1] at h
      simp only [List.length_cons] at h
      obtain ⟨u, h2, h3⟩ := ih (depN d t) (by omega)
      exact ⟨u, by rw [Nat.add_comm, List.getElem?_cons_succ]; exact h2, h3⟩

/-- Of what is ahead of it nothing parts. -/
theorem comN_take (l : List Tok) : ∀ d, comN d (l.take (comN d l)) = comN d l := by
  induction l with
  | nil => intro d; rfl
  | cons t l ih =>
    intro d
    by_cases h1 : mkN [44] t = true ∧ d = 0
    · have e : comN d (t :: l) = 0 := by unfold comN; rw [if_pos h1]
      rw [e]; rfl
    · have e : comN d (t :: l) = comN (depN d t) l + 1 := by rw [comN, if_neg h1]; omega
      rw [e, List.take_succ_cons, comN, if_neg h1, ih]; omega

/-- Tokens, parted. -/
def partF : Nat → List Tok → List (List Tok)
  | 0, _ => []
  | f + 1, l => if comN 0 l < l.length then l.take (comN 0 l) :: partF f (l.drop (comN 0 l + 1)) else [l]

def partT (l : List Tok) : List (List Tok) := partF (l.length + 1) l

def partP (l : List Tok) : List (List Tok) := if l = [] then [] else partT l

theorem partF_more : ∀ (f g : Nat) (l : List Tok), l.length < f → l.length < g → partF f l = partF g l := by
  intro f
  induction f with
  | zero => intro g l h; omega
  | succ f ih =>
    intro g l h1 h2
    obtain ⟨g, rfl⟩ : ∃ k, g = k + 1 := ⟨g - 1, by omega⟩
    unfold partF
    by_cases h : comN 0 l < l.length
    · rw [if_pos h, if_pos h, ih g _ (by rw [List.length_drop]; omega) (by rw [List.length_drop]; omega)]
    · rw [if_neg h, if_neg h]

theorem partT_cons (l : List Tok) (h : comN 0 l < l.length) : partT l = l.take (comN 0 l) :: partT (l.drop (comN 0 l + 1)) := by
  unfold partT
  rw [partF, if_pos h, partF_more l.length ((l.drop (comN 0 l + 1)).length + 1) _ (by rw [List.length_drop]; omega) (by omega)]

theorem partT_one (l : List Tok) (h : comN 0 l = l.length) : partT l = [l] := by
  unfold partT
  rw [partF, if_neg (by omega)]

/-- All the parts' lengths. -/
def sumL : List (List Tok) → Nat
  | [] => 0
  | l :: r => l.length + sumL r

theorem sumL_snoc (p : List (List Tok)) (l : List Tok) : sumL (p ++ [l]) = sumL p + l.length := by
  induction p with
  | nil => simp [sumL]
  | cons a p ih => rw [List.cons_append, sumL, sumL, ih]; omega

theorem partT_sum : ∀ (n : Nat) (l : List Tok), l.length ≤ n → 1 ≤ (partT l).length ∧ sumL (partT l) + (partT l).length = l.length + 1 ∧ ∀ p ∈ partT l, comN 0 p = p.length := by
  intro n
  induction n with
  | zero =>
    intro l h
    obtain rfl : l = [] := List.eq_nil_of_length_eq_zero (by omega)
    rw [partT_one [] rfl]
    refine ⟨Nat.le_refl _, rfl, fun p hp => ?_⟩
    simp at hp; subst hp; rfl
  | succ n ih =>
    intro l hl
    by_cases h : comN 0 l < l.length
    · rw [partT_cons l h]
      obtain ⟨h1, h2, h3⟩ := ih (l.drop (comN 0 l + 1)) (by rw [List.length_drop]; omega)
      refine ⟨by simp, ?_, fun p hp => ?_⟩
      · simp only [sumL, List.length_cons, List.length_take]
        rw [List.length_drop] at h2
        omega
      · rcases List.mem_cons.1 hp with rfl | hp
        · rw [comN_take, List.length_take]; omega
        · exact h3 p hp
    · have h0 := comN_le l 0
      have e : comN 0 l = l.length := by omega
      rw [partT_one l e]
      refine ⟨Nat.le_refl _, by simp [sumL], fun p hp => ?_⟩
      simp at hp; subst hp; exact e

/-- A part that is parted again is itself. -/
theorem part_part (l p : List Tok) (hp : p ∈ partT l) : partT p = [p] := partT_one p ((partT_sum l.length l (Nat.le_refl _)).2.2 p hp)

/-- A parameter: its name, whether it has a default, and that. -/
structure PPar where
  name : List UInt8
  has : Bool
  dflt : List Tok

/-- What comes of a head. -/
inductive HRes where
  | ok (name : List UInt8) (ps : List PPar)
  | bad (line col code : Int)

/-- The token at a place, or the last one; of none nothing. -/
def atT (l : List Tok) (i : Nat) : Tok := l.getD (min i (l.length - 1)) tok0

def badT (l : List Tok) (i : Nat) (code : Int) : HRes := .bad (atT l i).line (atT l i).col code

/-- A head's parameters, from a place on. -/
def parF (l : List Tok) (name : List UInt8) : Nat → Nat → List PPar → HRes
  | 0, _, ps => .ok name ps
  | f + 1, i, ps =>
    if ¬ (i < l.length ∧ (atT l i).kind = 1) then badT l i 5
    else if (ps.any fun p => p.name == (atT l i).text) = true then badT l i 10
    else if i + 1 < l.length ∧ mkN [61] (atT l (i + 1)) = true then
      (if i + 2 + comN 0 (l.drop (i + 2)) < l.length then parF l name f (i + 2 + comN 0 (l.drop (i + 2)) + 1) (ps ++ [⟨(atT l i).text, true, (l.drop (i + 2)).take (comN 0 (l.drop (i + 2)))⟩])
      else .ok name (ps ++ [⟨(atT l i).text, true, (l.drop (i + 2)).take (comN 0 (l.drop (i + 2)))⟩]))
    else if i + 1 < l.length then
      (if mkN [44] (atT l (i + 1)) = true then parF l name f (i + 2) (ps ++ [⟨(atT l i).text, false, []⟩]) else badT l (i + 1) 5)
    else .ok name (ps ++ [⟨(atT l i).text, false, []⟩])

def parT (l : List Tok) (name : List UInt8) (i : Nat) (ps : List PPar) : HRes := parF l name (l.length + 1 - i) i ps

theorem parF_more (l : List Tok) (name : List UInt8) : ∀ (f g i : Nat) (ps : List PPar), l.length < f + i → l.length < g + i → 0 < f → 0 < g → parF l name f i ps = parF l name g i ps := by
  intro f
  induction f with
  | zero => intro g i ps _ _ h; omega
  | succ f ih =>
    intro g i ps h1 h2 _ h4
    obtain ⟨g, rfl⟩ : ∃ k, g = k + 1 := ⟨g - 1, by omega⟩
    unfold parF
    split
    · rfl
    · rename_i hi
      have hi : i < l.length := by
        rcases Nat.lt_or_ge i l.length with h | h
        · exact h
        · exact absurd (fun h5 => by omega) hi
      split
      · rfl
      · split
        · split
          · rename_i h5
            exact ih g _ _ (by omega) (by omega) (by omega) (by omega)
          · rfl
        · split
          · split
            · exact ih g _ _ (by omega) (by omega) (by omega) (by omega)
            · rfl
          · rfl

/-- A step of it. -/
theorem parT_step (l : List Tok) (name : List UInt8) (i : Nat) (ps : List PPar) (hi : i ≤ l.length) : parT l name i ps =
    if ¬ (i < l.length ∧ (atT l i).kind = 1) then badT l i 5
    else if (ps.any fun p => p.name == (atT l i).text) = true then badT l i 10
    else if i + 1 < l.length ∧ mkN [61] (atT l (i + 1)) = true then
      (if i + 2 + comN 0 (l.drop (i + 2)) < l.length then parT l name (i + 2 + comN 0 (l.drop (i + 2)) + 1) (ps ++ [⟨(atT l i).text, true, (l.drop (i + 2)).take (comN 0 (l.drop (i + 2)))⟩])
      else .ok name (ps ++ [⟨(atT l i).text, true, (l.drop (i + 2)).take (comN 0 (l.drop (i + 2)))⟩]))
    else if i + 1 < l.length then
      (if mkN [44] (atT l (i + 1)) = true then parT l name (i + 2) (ps ++ [⟨(atT l i).text, false, []⟩]) else badT l (i + 1) 5)
    else .ok name (ps ++ [⟨(atT l i).text, false, []⟩]) := by
  unfold parT
  rw [show l.length + 1 - i = (l.length - i) + 1 by omega, parF]
  split
  · rfl
  · rename_i hi2
    have hi2 : i < l.length := by
      rcases Nat.lt_or_ge i l.length with h | h
      · exact h
      · exact absurd (fun h5 => by omega) hi2
    split
    · rfl
    · split
      · split
        · rename_i h5
          exact parF_more l name _ _ _ _ (by omega) (by omega) (by omega) (by omega)
        · rfl
      · split
        · split
          · exact parF_more l name _ _ _ _ (by omega) (by omega) (by omega) (by omega)
          · rfl
        · rfl

/-- A head. -/
def headP (l : List Tok) : HRes :=
  if ¬ (1 < l.length ∧ (atT l 1).kind = 1) then badT l 1 5
  else if (atT l 1).text.head? = some 46 then badT l 1 8
  else if 2 < l.length then parT l (atT l 1).text 2 []
  else .ok (atT l 1).text []

/-- What each parameter is handed; none: it is refused. -/
def bindP : List PPar → List (List Tok) → Option (List (List Tok))
  | [], [] => some []
  | [], _ :: _ => none
  | p :: ps, args => match (if (args.headD []) ≠ [] then some (args.headD []) else if p.has = true then some p.dflt else none) with
    | none => none
    | some v => match bindP ps args.tail with
      | none => none
      | some vs => some (v :: vs)

end Go.Proofs.YtbkgdepblaibkaaDoor
