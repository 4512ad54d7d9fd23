/- Plain: a remark behind a line changes no token. -/
import Derived.Test.YtbkgdepblaibkaaDoorLxn
namespace Go.Proofs.YtbkgdepblaibkaaDoor
open Go.RowKit
set_option linter.unusedVariables false
set_option linter.unusedSimpArgs false

theorem while_tail (set : List UInt8) (h : set.contains 32 = false) (s r : List UInt8) : whileN set (s ++ 32 :: r) = whileN set s := by
  induction s with
  | nil => show whileN set (32 :: r) = 0; rw [whileN, if_neg (by rw [h]; decide)]
  | cons c s ih => rw [List.cons_append, whileN, whileN, ih]

theorem getD_tail (s r : List UInt8) (i : Nat) (h : i < s.length) : (s ++ r).getD i 0 = s.getD i 0 := by
  rw [List.getD_eq_getElem?_getD, List.getD_eq_getElem?_getD, List.getElem?_append_left h]

theorem take2_tail (s r : List UInt8) (x y : UInt8) (hs : 1 ≤ s.length) (hy : y ≠ 32) : ((s ++ 32 :: r).take 2 = [x, y]) ↔ (s.take 2 = [x, y]) := by
  cases s with
  | nil => simp at hs
  | cons a s =>
    cases s with
    | nil =>
      constructor
      · intro h
        have : (32 : UInt8) = y := by have := congrArg (fun l => l.getD 1 0) h; exact this
        exact absurd this.symm hy
      · intro h
        have := congrArg List.length h
        simp at this
    | cons b s => exact Iff.rfl

theorem num_tail (s r : List UInt8) (hs : 1 ≤ s.length) : numR (s ++ 32 :: r) = numR s := by
  have t1 := take2_tail s r 48 98 hs (by decide)
  have t2 := take2_tail s r 48 120 hs (by decide)
  have e1 : numFrom (s ++ 32 :: r) = numFrom s := by unfold numFrom; simp only [t1, t2]
  have e2 : numBase (s ++ 32 :: r) = numBase s := by unfold numBase; simp only [t1, t2]
  have e3 : numSet (s ++ 32 :: r) = numSet s := by unfold numSet; simp only [t1, t2]
  have hf : numFrom s ≤ s.length := by
    unfold numFrom
    split
    · rename_i h; have := congrArg List.length h; simp at this; omega
    · split
      · rename_i h; have := congrArg List.length h; simp at this; omega
      · omega
  have hset : (numSet s).contains 32 = false := by
    unfold numSet
    split
    · decide
    · split <;> decide
  have ed : (s ++ 32 :: r).drop (numFrom s) = s.drop (numFrom s) ++ 32 :: r := List.drop_append_of_le_length hf
  have ew := while_tail (numSet s) hset (s.drop (numFrom s)) r
  have hk := whileN_le (numSet s) (s.drop (numFrom s))
  rw [List.length_drop] at hk
  unfold numR
  rw [e1, e2, e3, ed, ew]
  generalize whileN (numSet s) (s.drop (numFrom s)) = k at *
  have ec : (numFrom s + k < (s ++ 32 :: r).length ∧ goN.contains ((s ++ 32 :: r).getD (numFrom s + k) 0) = true) ↔ (numFrom s + k < s.length ∧ goN.contains (s.getD (numFrom s + k) 0) = true) := by
    by_cases h : numFrom s + k < s.length
    · rw [getD_tail _ _ _ h]
      simp only [List.length_append, List.length_cons]
      constructor
      · rintro ⟨_, h2⟩; exact ⟨h, h2⟩
      · rintro ⟨_, h2⟩; exact ⟨by omega, h2⟩
    · have h2 : numFrom s + k = s.length := by omega
      constructor
      · rintro ⟨_, h3⟩
        rw [h2, List.getD_eq_getElem?_getD, List.getElem?_append_right (Nat.le_refl _), Nat.sub_self] at h3
        exact absurd h3 (by show ¬ goN.contains (32 : UInt8) = true; decide)
      · rintro ⟨h3, _⟩; exact absurd h3 h
  have et : (s.drop (numFrom s) ++ 32 :: r).take k = (s.drop (numFrom s)).take k := List.take_append_of_le_length (by rw [List.length_drop]; omega)
  simp only [ec, et]

theorem esc_tail (s r : List UInt8) (h : 0 < (escR s).2) : escR (s ++ r) = escR s := by
  cases s with
  | nil => exact absurd h (by decide)
  | cons c s =>
    by_cases hc : c = 92
    · subst hc
      cases s with
      | nil => exact absurd h (by decide)
      | cons d s =>
        show (match escTab d with | some b => (b, 2) | none => _) = (match escTab d with | some b => (b, 2) | none => _)
        cases he : escTab d with
        | some b => rfl
        | none =>
          simp only [escR, he] at h
          by_cases hd : d = 120
          · cases s with
            | nil => simp [hd] at h
            | cons a s =>
              cases s with
              | nil => simp [hd] at h
              | cons b s => rfl
          · simp [hd] at h
    · exfalso
      unfold escR at h
      split at h
      · rename_i h2; cases h2; exact hc rfl
      · exact absurd h (by decide)

theorem quo_tail (q : UInt8) (s r : List UInt8) (h : 0 < (quoR q s).2) : quoR q (s ++ r) = quoR q s := by
  cases s with
  | nil => exact absurd (show 0 < 0 from h) (by decide)
  | cons c s =>
    rw [List.cons_append, quoR_cons, quoR_cons]
    rw [quoR_cons] at h
    by_cases h1 : c = q
    · rw [if_pos h1, if_pos h1]
    · rw [if_neg h1] at h ⊢
      rw [if_neg h1]
      by_cases h2 : c = 92
      · rw [if_pos h2] at h ⊢
        rw [if_pos h2]
        exact esc_tail (c :: s) r h
      · rw [if_neg h2, if_neg h2]

theorem txt_tail (r : List UInt8) : ∀ (m : Nat) (u : List UInt8), u.length ≤ m → (txtT u).2 < u.length → u.getD (txtT u).2 0 = 34 → txtT (u ++ r) = txtT u := by
  intro m
  induction m with
  | zero => intro u h1 h2; omega
  | succ m ih =>
    intro u h1 h2 h3
    by_cases hq : (quoR 34 u).2 = 0
    · rw [txtT_stop u hq] at h2 h3 ⊢
      obtain ⟨c, u', rfl⟩ : ∃ c u', u = c :: u' := by cases u with | nil => simp at h2 | cons a b => exact ⟨a, b, rfl⟩
      have hc : c = 34 := h3
      subst hc
      exact txtT_stop _ (quo_shut _)
    · have hle := quoR_le 34 u
      have e := quo_tail 34 u r (by omega)
      rw [txtT_go u hq] at h2 h3 ⊢
      rw [txtT_go (u ++ r) (by rw [e]; exact hq), e]
      rw [List.drop_append_of_le_length hle]
      have hd : (u.drop (quoR 34 u).2).length = u.length - (quoR 34 u).2 := List.length_drop
      rw [ih (u.drop (quoR 34 u).2) (by omega) (by dsimp only at h2; omega) (by
        rw [List.getD_eq_getElem?_getD, List.getElem?_drop, ← List.getD_eq_getElem?_getD]; exact h3)]

end Go.Proofs.YtbkgdepblaibkaaDoor
