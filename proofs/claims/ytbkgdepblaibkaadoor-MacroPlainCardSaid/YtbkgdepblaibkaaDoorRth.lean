/- Plain: a line's tokens without fuel. -/
import Derived.Test.YtbkgdepblaibkaaDoorLexq
namespace Go.Proofs.YtbkgdepblaibkaaDoor
open Go.RowKit
set_option linter.unusedVariables false
set_option linter.unusedSimpArgs false

theorem numR_le (s : List UInt8) : (numR s).2 ≤ s.length := by
  unfold numR
  have h := whileN_le (numSet s) (s.drop (numFrom s))
  rw [List.length_drop] at h
  split
  · exact Nat.zero_le _
  · rename_i hn
    split
    · exact Nat.zero_le _
    · show numFrom s + _ ≤ s.length
      omega

theorem txtR_le : ∀ (f : Nat) (s : List UInt8), (txtR f s).2 ≤ s.length
  | 0, s => Nat.zero_le _
  | f + 1, s => by
    unfold txtR
    split
    · exact Nat.zero_le _
    · show (quoR 34 s).2 + _ ≤ s.length
      have h1 := quoR_le 34 s
      have h2 := txtR_le f (s.drop (quoR 34 s).2)
      rw [List.length_drop] at h2
      omega

theorem tokR_le (s : List UInt8) (hs : 1 ≤ s.length) : (tokR s).2.1 ≤ s.length := by
  unfold tokR
  have hr : (s.drop 1).length = s.length - 1 := List.length_drop
  split
  · exact whileN_le _ _
  · split
    · exact numR_le s
    · split
      · split
        · rename_i h
          show (quoR 39 (s.drop 1)).2 + 2 ≤ s.length
          omega
        · exact Nat.zero_le _
      · split
        · show (textR s).2 ≤ s.length
          unfold textR
          split
          · rename_i h
            show 1 + (txtR s.length (s.drop 1)).2 + 1 ≤ s.length
            omega
          · exact Nat.zero_le _
        · have hw := whileN_le (letN ++ digN) (s.drop 1)
          split
          · show whileN (letN ++ digN) (s.drop 1) + 1 ≤ s.length
            omega
          · split
            · show whileN (letN ++ digN) (s.drop 1) + 1 ≤ s.length
              omega
            · split
              · rename_i h
                show 2 ≤ s.length
                rcases h with h | h
                · have := congrArg List.length h; simp at this; omega
                · have := congrArg List.length h; simp at this; omega
              · split
                · exact hs
                · exact Nat.zero_le _

/-- Some tokens ahead of a line's. -/
def LRes.pre {α : Type} (o : List α) : LRes (List α) → LRes (List α)
  | .ok l => .ok (o ++ l)
  | .bad a b c => .bad a b c

theorem pre_nil {α : Type} (r : LRes (List α)) : LRes.pre [] r = r := by cases r <;> rfl

theorem pre_pre {α : Type} (a b : List α) (r : LRes (List α)) : LRes.pre a (LRes.pre b r) = LRes.pre (a ++ b) r := by cases r <;> simp [LRes.pre]

theorem lineR_fuel (n : Int) : ∀ (f : Nat) (i : Nat) (s : List UInt8), s.length ≤ f → ∀ g, s.length ≤ g → lineR n f i s = lineR n g i s := by
  intro f
  induction f with
  | zero =>
    intro i s h g hg
    obtain rfl : s = [] := List.eq_nil_of_length_eq_zero (by omega)
    cases g <;> rfl
  | succ f ih =>
    intro i s h g hg
    cases g with
    | zero =>
      obtain rfl : s = [] := List.eq_nil_of_length_eq_zero (by omega)
      rfl
    | succ g =>
      unfold lineR
      by_cases h0 : s = []
      · rw [if_pos h0, if_pos h0]
      · rw [if_neg h0, if_neg h0]
        have hs : 1 ≤ s.length := by cases s with | nil => exact absurd rfl h0 | cons a l => simp
        by_cases h1 : blankN.contains (s.getD 0 0) = true
        · rw [if_pos h1, if_pos h1]
          exact ih _ _ (by rw [List.length_drop]; omega) g (by rw [List.length_drop]; omega)
        · rw [if_neg h1, if_neg h1]
          by_cases h2 : s.getD 0 0 = 35
          · rw [if_pos h2, if_pos h2]
          · rw [if_neg h2, if_neg h2]
            by_cases h3 : (tokR s).2.1 = 0
            · rw [if_pos h3, if_pos h3]
            · rw [if_neg h3, if_neg h3, ih _ _ (by rw [List.length_drop]; omega) g (by rw [List.length_drop]; omega)]

/-- A line's tokens, from the place i on. -/
def lineT (n : Int) (i : Nat) (s : List UInt8) : LRes (List Tok) := lineR n s.length i s

theorem lineT_nil (n : Int) (i : Nat) : lineT n i [] = .ok [] := rfl

theorem lineT_cons (n : Int) (i : Nat) (s : List UInt8) (hs : 1 ≤ s.length) : lineT n i s =
    if blankN.contains (s.getD 0 0) = true then lineT n (i + 1) (s.drop 1)
    else if s.getD 0 0 = 35 then .ok []
    else if (tokR s).2.1 = 0 then .bad n ((i + 1 : Nat) : Int) (tokR s).2.2
    else LRes.pre [placeT (tokR s).1 n ((i + 1 : Nat) : Int)] (lineT n (i + (tokR s).2.1) (s.drop (tokR s).2.1)) := by
  have h0 : ¬ s = [] := by intro h; rw [h] at hs; simp at hs
  unfold lineT
  obtain ⟨m, hm⟩ : ∃ m, s.length = m + 1 := ⟨s.length - 1, by omega⟩
  rw [hm, lineR, if_neg h0]
  by_cases h1 : blankN.contains (s.getD 0 0) = true
  · rw [if_pos h1, if_pos h1]
    exact lineR_fuel n _ _ _ (by rw [List.length_drop]; omega) _ (Nat.le_refl _)
  · rw [if_neg h1, if_neg h1]
    by_cases h2 : s.getD 0 0 = 35
    · rw [if_pos h2, if_pos h2]
    · rw [if_neg h2, if_neg h2]
      by_cases h3 : (tokR s).2.1 = 0
      · rw [if_pos h3, if_pos h3]
      · rw [if_neg h3, if_neg h3, lineR_fuel n m _ _ (by rw [List.length_drop]; omega) (s.drop (tokR s).2.1).length (Nat.le_refl _)]
        cases lineR n (s.drop (tokR s).2.1).length (i + (tokR s).2.1) (s.drop (tokR s).2.1) <;> rfl

end Go.Proofs.YtbkgdepblaibkaaDoor
