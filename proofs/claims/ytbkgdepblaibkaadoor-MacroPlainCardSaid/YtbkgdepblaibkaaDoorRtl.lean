/- Plain: a source's lines, one behind the other. -/
import Derived.Test.YtbkgdepblaibkaaDoorRth
namespace Go.Proofs.YtbkgdepblaibkaaDoor
open Go.RowKit
set_option linter.unusedVariables false
set_option linter.unusedSimpArgs false

theorem splitL_ne (l : List UInt8) : splitL l ≠ [] := by
  cases l with
  | nil => simp [splitL]
  | cons c l =>
    unfold splitL
    split
    · simp
    · split <;> simp

theorem splitL_end (a : List UInt8) (h : ∀ c ∈ a, c ≠ 10) : splitL a = [a] := by
  induction a with
  | nil => rfl
  | cons c a ih =>
    unfold splitL
    rw [if_neg (h c (by simp)), ih (fun x hx => h x (by simp [hx]))]

theorem splitL_feed (a b : List UInt8) (h : ∀ c ∈ a, c ≠ 10) : splitL (a ++ 10 :: b) = a :: splitL b := by
  induction a with
  | nil => show splitL (10 :: b) = _; rw [splitL, if_pos rfl]
  | cons c a ih =>
    rw [List.cons_append, splitL, if_neg (h c (by simp)), ih (fun x hx => h x (by simp [hx]))]

theorem linesR_cons (n : Nat) (s : List UInt8) (r : List (List UInt8)) : linesR n (s :: r) = match lineT n 0 s with
    | .bad a b c => .bad a b c
    | .ok ts => LRes.pre [ts] (linesR (n + 1) r) := by
  rw [linesR]
  show (match lineT n 0 s with | .bad a b c => _ | .ok ts => _) = _
  cases lineT n 0 s with
  | bad a b c => rfl
  | ok ts =>
    show (match linesR (n + 1) r with | .bad a b c => _ | .ok ls => _) = _
    cases linesR (n + 1) r <;> rfl

/-- The rest of a source: the lines that are to come, from the place i on; nothing behind the end. -/
def restL (l : List UInt8) (from_ : Nat) : List (List UInt8) := if from_ ≤ l.length then splitL (l.drop from_) else []

theorem restL_end (l : List UInt8) (a : Nat) (ha : a ≤ l.length) (h : ∀ c ∈ l.drop a, c ≠ 10) : restL l a = l.drop a :: restL l (l.length + 1) := by
  unfold restL
  rw [if_pos ha, if_neg (by omega), splitL_end _ h]

theorem restL_feed (l : List UInt8) (a i : Nat) (ha : a ≤ i) (hi : l[i]? = some 10) (h : ∀ c ∈ (l.take i).drop a, c ≠ 10) : restL l a = (l.take i).drop a :: restL l (i + 1) := by
  obtain ⟨hlt, hv⟩ := List.getElem?_eq_some_iff.1 hi
  unfold restL
  rw [if_pos (by omega), if_pos (by omega)]
  have e : l.drop a = (l.take i).drop a ++ 10 :: l.drop (i + 1) := by
    have h1 : l.drop i = 10 :: l.drop (i + 1) := by rw [List.drop_eq_getElem_cons hlt, hv]
    rw [← h1]
    conv => lhs; rw [← List.take_append_drop i l]
    rw [List.drop_append_of_le_length (by rw [List.length_take]; omega)]
  rw [e, splitL_feed _ _ h]

theorem nofeed_snoc (l : List UInt8) (a i : Nat) (ha : a ≤ i) (c : UInt8) (hi : l[i]? = some c) (hc : c ≠ 10) (h : ∀ x ∈ (l.take i).drop a, x ≠ 10) : ∀ x ∈ (l.take (i + 1)).drop a, x ≠ 10 := by
  intro x hx
  rw [List.take_add_one, hi, List.drop_append] at hx
  simp only [Option.toList_some, List.mem_append] at hx
  rcases hx with hx | hx
  · exact h x hx
  · have := List.mem_of_mem_drop hx
    simp at this
    rw [this]; exact hc

end Go.Proofs.YtbkgdepblaibkaaDoor
