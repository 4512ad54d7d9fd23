/- Plain: two sources, parted by a line feed. -/
import Derived.Test.YtbkgdepblaibkaaDoorLxl
namespace Go.Proofs.YtbkgdepblaibkaaDoor
open Go.RowKit
set_option linter.unusedVariables false
set_option linter.unusedSimpArgs false

theorem splitL_app (a b : List UInt8) : splitL (a ++ 10 :: b) = splitL a ++ splitL b := by
  induction a with
  | nil => rfl
  | cons c a ih =>
    rw [List.cons_append]
    by_cases hc : c = 10
    · rw [splitL, if_pos hc, ih, splitL, if_pos hc]; rfl
    · rw [splitL, if_neg hc, ih, splitL, if_neg hc]
      cases h : splitL a with
      | nil => exact absurd h (splitL_ne a)
      | cons x r => rfl

/-- A token further down. -/
def shT (k : Int) (t : Tok) : Tok := { t with line := t.line + k }

def shL (k : Int) : LRes (List Tok) → LRes (List Tok)
  | .ok ts => .ok (ts.map (shT k))
  | .bad a b c => .bad (a + k) b c

def shS (k : Int) : LRes (List (List Tok)) → LRes (List (List Tok))
  | .ok ls => .ok (ls.map fun ts => ts.map (shT k))
  | .bad a b c => .bad (a + k) b c

theorem lineR_shift (n k : Int) : ∀ (f i : Nat) (s : List UInt8), lineR (n + k) f i s = shL k (lineR n f i s) := by
  intro f
  induction f with
  | zero => intro i s; rfl
  | succ f ih =>
    intro i s
    unfold lineR
    by_cases h0 : s = []
    · rw [if_pos h0, if_pos h0]; rfl
    · rw [if_neg h0, if_neg h0]
      by_cases h1 : blankN.contains (s.getD 0 0) = true
      · rw [if_pos h1, if_pos h1]; exact ih _ _
      · rw [if_neg h1, if_neg h1]
        by_cases h2 : s.getD 0 0 = 35
        · rw [if_pos h2, if_pos h2]; rfl
        · rw [if_neg h2, if_neg h2]
          by_cases h3 : (tokR s).2.1 = 0
          · rw [if_pos h3, if_pos h3]; rfl
          · rw [if_neg h3, if_neg h3, ih]
            cases lineR n f (i + (tokR s).2.1) (s.drop (tokR s).2.1) <;> rfl

theorem linesR_shift (k : Nat) (q : List (List UInt8)) : ∀ n : Nat, linesR (n + k) q = shS k (linesR n q) := by
  induction q with
  | nil => intro n; rfl
  | cons s r ih =>
    intro n
    unfold linesR
    rw [show ((n + k : Nat) : Int) = (n : Int) + k from Int.natCast_add n k, lineR_shift, show n + k + 1 = (n + 1) + k by omega, ih]
    cases lineR (n : Int) s.length 0 s with
    | bad a b c => rfl
    | ok ts =>
      show (match shS k (linesR (n + 1) r) with | .bad a b c => _ | .ok ls => _) = _
      cases linesR (n + 1) r <;> rfl

theorem linesR_app (p q : List (List UInt8)) : ∀ n : Nat, linesR n (p ++ q) = match linesR n p with
    | .bad a b c => .bad a b c
    | .ok la => LRes.pre la (linesR (n + p.length) q) := by
  induction p with
  | nil => intro n; show linesR n q = LRes.pre [] (linesR n q); rw [pre_nil]
  | cons s r ih =>
    intro n
    rw [List.cons_append, linesR_cons, linesR_cons, ih (n + 1), show n + 1 + r.length = n + (s :: r).length by simp; omega]
    cases lineT (n : Int) 0 s with
    | bad a b c => rfl
    | ok ts =>
      show LRes.pre [ts] (match linesR (n + 1) r with | .bad a b c => _ | .ok la => _) = _
      cases linesR (n + 1) r with
      | bad a b c => rfl
      | ok la => show LRes.pre [ts] (LRes.pre la _) = LRes.pre ([ts] ++ la) _; rw [pre_pre]

theorem linesR_len (p : List (List UInt8)) : ∀ (n : Nat) (la : List (List Tok)), linesR n p = .ok la → la.length = p.length := by
  induction p with
  | nil => intro n la h; rw [linesR] at h; cases h; rfl
  | cons s r ih =>
    intro n la h
    rw [linesR_cons] at h
    cases h1 : lineT (n : Int) 0 s with
    | bad a b c => rw [h1] at h; cases h
    | ok ts =>
      rw [h1] at h
      cases h2 : linesR (n + 1) r with
      | bad a b c => rw [h2] at h; cases h
      | ok lr => rw [h2] at h; cases h; have := ih _ _ h2; simp [this]

theorem src_parts (a b : List UInt8) (h : a.length + b.length + 1 ≤ 65536) : srcR (a ++ 10 :: b) = match srcR a with
    | .bad x y z => .bad x y z
    | .ok la => match srcR b with
      | .bad x y z => .bad (x + la.length) y z
      | .ok lb => .ok (la ++ lb.map fun ts => ts.map (shT la.length)) := by
  have e1 : srcR (a ++ 10 :: b) = linesR 1 (splitL (a ++ 10 :: b)) := by unfold srcR; rw [if_neg (by simp; omega)]
  have e2 : srcR a = linesR 1 (splitL a) := by unfold srcR; rw [if_neg (by omega)]
  have e3 : srcR b = linesR 1 (splitL b) := by unfold srcR; rw [if_neg (by omega)]
  rw [e1, e2, e3, splitL_app, linesR_app, linesR_shift]
  cases h1 : linesR 1 (splitL a) with
  | bad x y z => rfl
  | ok la =>
    rw [← linesR_len _ _ _ h1]
    show LRes.pre la (shS _ (linesR 1 (splitL b))) = _
    cases linesR 1 (splitL b) <;> rfl

end Go.Proofs.YtbkgdepblaibkaaDoor
