/- Plain: where a line's tokens stand in it. -/
import Derived.Test.YtbkgdepblaibkaaDoorLxm
namespace Go.Proofs.YtbkgdepblaibkaaDoor
open Go.RowKit
set_option linter.unusedVariables false
set_option linter.unusedSimpArgs false

theorem tok_kind1 (r : List UInt8) (h : (tokR r).1.kind = 1) : ∃ m, m ≤ r.length ∧ (tokR r).1.text = r.take m := by
  unfold tokR at h ⊢
  split at h
  · rename_i h1
    rw [if_pos h1]
    exact ⟨whileN goN r, whileN_le _ _, rfl⟩
  · exfalso
    revert h
    split
    · intro h; exact absurd (show (5 : Int) = 1 from h) (by decide)
    · split
      · split
        · intro h; exact absurd (show (5 : Int) = 1 from h) (by decide)
        · intro h; exact absurd (show (0 : Int) = 1 from h) (by decide)
      · split
        · intro h; exact absurd (show (6 : Int) = 1 from h) (by decide)
        · split
          · intro h; exact absurd (show (4 : Int) = 1 from h) (by decide)
          · split
            · intro h
              have h : (if r.getD 0 0 = 92 then (3 : Int) else 2) = 1 := h
              split at h <;> exact absurd h (by decide)
            · split
              · intro h; exact absurd (show (7 : Int) = 1 from h) (by decide)
              · split
                · intro h; exact absurd (show (7 : Int) = 1 from h) (by decide)
                · intro h; exact absurd (show (0 : Int) = 1 from h) (by decide)

/-- A line's tokens stand one behind the other, behind a column; a name's text stands there. -/
def okL (n : Int) (s : List UInt8) : Nat → List Tok → Prop
  | _, [] => True
  | last, t :: ts => ∃ c : Nat, t.line = n ∧ t.col = (c : Int) ∧ last < c ∧ c ≤ s.length ∧ (t.kind = 1 → c - 1 + t.text.length ≤ s.length ∧ (s.drop (c - 1)).take t.text.length = t.text) ∧ okL n s c ts

theorem line_okL (n : Int) (s : List UInt8) : ∀ (f i last : Nat) (ts : List Tok), last ≤ i → lineR n f i (s.drop i) = .ok ts → okL n s last ts := by
  intro f
  induction f with
  | zero => intro i last ts _ h; rw [lineR] at h; cases h; trivial
  | succ f ih =>
    intro i last ts hl h
    unfold lineR at h
    by_cases h0 : s.drop i = []
    · rw [if_pos h0] at h; cases h; trivial
    · rw [if_neg h0] at h
      have hi : i < s.length := by
        rcases Nat.lt_or_ge i s.length with h | h
        · exact h
        · exact absurd (List.drop_eq_nil_of_le h) h0
      by_cases h1 : blankN.contains ((s.drop i).getD 0 0) = true
      · rw [if_pos h1, List.drop_drop] at h
        exact ih (i + 1) last ts (by omega) h
      · rw [if_neg h1] at h
        by_cases h2 : (s.drop i).getD 0 0 = 35
        · rw [if_pos h2] at h; cases h; trivial
        · rw [if_neg h2] at h
          by_cases h3 : (tokR (s.drop i)).2.1 = 0
          · rw [if_pos h3] at h; cases h
          · rw [if_neg h3, List.drop_drop] at h
            cases hr : lineR n f (i + (tokR (s.drop i)).2.1) (s.drop (i + (tokR (s.drop i)).2.1)) with
            | bad a b c => rw [hr] at h; cases h
            | ok tr =>
              rw [hr] at h
              cases h
              refine ⟨i + 1, rfl, rfl, by omega, by omega, ?_, ih _ _ _ (by omega) hr⟩
              intro hk
              obtain ⟨m, hm, ht⟩ := tok_kind1 (s.drop i) hk
              have ht' : (placeT (tokR (s.drop i)).1 n ((i + 1 : Nat) : Int)).text = (s.drop i).take m := ht
              rw [List.length_drop] at hm
              have hlen : ((s.drop i).take m).length = m := by rw [List.length_take, List.length_drop]; omega
              rw [ht', hlen]
              exact ⟨by omega, rfl⟩

theorem lineT_okL (n : Int) (s : List UInt8) (ts : List Tok) (h : lineT n 0 s = .ok ts) : okL n s 0 ts := line_okL n s s.length 0 0 ts (Nat.le_refl _) h

theorem okL_drop (n : Int) (s : List UInt8) (last k : Nat) (ts : List Tok) (t : Tok) (hk : ts[k]? = some t) (h : okL n s last (ts.drop k)) :
    ∃ c : Nat, t.line = n ∧ t.col = (c : Int) ∧ last < c ∧ c ≤ s.length ∧ (t.kind = 1 → c - 1 + t.text.length ≤ s.length ∧ (s.drop (c - 1)).take t.text.length = t.text) ∧ okL n s c (ts.drop (k + 1)) := by
  obtain ⟨hlt, hv⟩ := List.getElem?_eq_some_iff.1 hk
  rw [List.drop_eq_getElem_cons hlt, hv] at h
  exact h

end Go.Proofs.YtbkgdepblaibkaaDoor
