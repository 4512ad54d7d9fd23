/- Plain: lines of tokens; where a block of lines ends, by the program's way and by the document's. -/
import Derived.Test.YtbkgdepblaibkaaDoorFrame
namespace Go.Proofs.YtbkgdepblaibkaaDoor
open Go.RowKit
set_option linter.unusedVariables false
set_option linter.unusedSimpArgs false

/-- A token: its kind, its place, its text, its number, its scope. -/
structure Tok where
  kind : Int
  line : Int
  col : Int
  text : List UInt8
  num : Int
  scope : Int

/-- The words that begin, part and end blocks, by their numbers. -/
def kwN (s : List UInt8) : Nat :=
  if s = [46, 109, 97, 99, 114, 111] then 1 else if s = [46, 101, 110, 100, 109] then 2 else if s = [46, 114, 101, 112, 116] then 3 else if s = [46, 101, 110, 100, 114] then 4
  else if s = [46, 105, 102] then 5 else if s = [46, 101, 108, 115, 101] then 6 else if s = [46, 101, 110, 100, 105, 102] then 7 else 0

/-- A line's kind. -/
def kindP : List Tok → Nat
  | [] => 0
  | t :: _ => if t.kind = 1 then kwN t.text else 0

theorem kwN_le (s : List UInt8) : kwN s ≤ 7 := by
  unfold kwN
  repeat' split
  all_goals omega

theorem kindP_le (l : List Tok) : kindP l ≤ 7 := by
  cases l with
  | nil => exact Nat.zero_le _
  | cons t l =>
    show (if t.kind = 1 then kwN t.text else 0) ≤ 7
    by_cases h : t.kind = 1
    · rw [if_pos h]; exact kwN_le _
    · rw [if_neg h]; omega

/-- How many tokens the labels at a line's beginning are. -/
def labelsP : List Tok → Nat
  | a :: b :: l => if (a.kind = 1 ∨ a.kind = 2) ∧ b.kind = 7 ∧ b.text = [58] then 2 + labelsP l else 0
  | _ => 0

def begB (k : Nat) : Bool := k == 1 || k == 3 || k == 5

/-- The kind of block that a line ends, or halves. -/
def ofN (k : Nat) : Nat := if k = 2 then 1 else if k = 4 then 3 else if k = 6 ∨ k = 7 then 5 else 0

/-- What comes of it: the end, and the other half; or a place. -/
inductive BRes where
  | ok (e o : Int)
  | bad (line col : Int)

def badAt : List Tok → BRes
  | [] => .bad 0 0
  | t :: _ => .bad t.line t.col

/-- The program's way: the blocks that are open, the last one first. -/
def goP (fail : BRes) : List (Nat × Bool) → Int → Nat → List (List Tok) → BRes
  | _, _, _, [] => fail
  | st, other, n, l :: ls =>
    if begB (kindP l) = true then goP fail ((kindP l, false) :: st) other (n + 1) ls
    else if ofN (kindP l) = 0 then goP fail st other (n + 1) ls
    else match st with
      | [] => fail
      | (k, half) :: rest =>
        if k ≠ ofN (kindP l) ∨ (kindP l = 6 ∧ half = true) then badAt l
        else if kindP l = 6 then goP fail ((k, true) :: rest) (if rest = [] then (n : Int) else other) (n + 1) ls
        else if rest = [] then .ok n other
        else goP fail rest other (n + 1) ls

def endP (ls : List (List Tok)) (at_ : Int) : BRes :=
  if at_ < 0 ∨ (ls.length : Int) ≤ at_ then .bad 0 0
  else if begB (kindP (ls.getD at_.toNat [])) = true then goP (badAt (ls.getD at_.toNat [])) [(kindP (ls.getD at_.toNat []), false)] (-1) (at_.toNat + 1) (ls.drop (at_.toNat + 1))
  else badAt (ls.getD at_.toNat [])

/-- The document's way: kinds and other halves. -/
def goR (fail : BRes) : List (Nat × Int) → Nat → List (List Tok) → BRes
  | _, _, [] => fail
  | st, n, l :: ls =>
    if begB (kindP l) = true then goR fail ((kindP l, -1) :: st) (n + 1) ls
    else if kindP l = 0 then goR fail st (n + 1) ls
    else match st with
      | [] => fail
      | (k, els) :: rest =>
        if kindP l = 6 then (if k ≠ 5 ∨ 0 ≤ els then badAt l else goR fail ((k, (n : Int)) :: rest) (n + 1) ls)
        else if (kindP l = 2 ∧ k ≠ 1) ∨ (kindP l = 4 ∧ k ≠ 3) ∨ (kindP l = 7 ∧ k ≠ 5) then badAt l
        else if rest = [] then .ok n els
        else goR fail rest (n + 1) ls

def endR (ls : List (List Tok)) (at_ : Int) : BRes :=
  if at_ < 0 ∨ (ls.length : Int) ≤ at_ then .bad 0 0
  else if begB (kindP (ls.getD at_.toNat [])) = true then goR (badAt (ls.getD at_.toNat [])) [(kindP (ls.getD at_.toNat []), -1)] (at_.toNat + 1) (ls.drop (at_.toNat + 1))
  else badAt (ls.getD at_.toNat [])

/-- The two ways' stacks. -/
def Alk : List (Nat × Bool) → Int → List (Nat × Int) → Prop
  | [], _, [] => True
  | [(k, h)], o, [(k', e)] => k = k' ∧ h = decide (0 ≤ e) ∧ o = e
  | (k, h) :: (a :: st), o, (k', e) :: (b :: st') => k = k' ∧ h = decide (0 ≤ e) ∧ Alk (a :: st) o (b :: st')
  | _, _, _ => False

theorem Alk.push {st : List (Nat × Bool)} {o : Int} {st' : List (Nat × Int)} (h : Alk st o st') (hne : st ≠ []) (k : Nat) : Alk ((k, false) :: st) o ((k, -1) :: st') := by
  cases st with
  | nil => exact absurd rfl hne
  | cons a st =>
    cases st' with
    | nil => cases st <;> cases a <;> exact h.elim
    | cons b st' => exact ⟨rfl, by decide, h⟩

theorem Alk.top {k : Nat} {h : Bool} {st : List (Nat × Bool)} {o : Int} {st' : List (Nat × Int)} (hA : Alk ((k, h) :: st) o st') : ∃ e r', st' = (k, e) :: r' ∧ h = decide (0 ≤ e) ∧ ((st = [] ∧ r' = [] ∧ o = e) ∨ (st ≠ [] ∧ r' ≠ [] ∧ Alk st o r')) := by
  cases st with
  | nil =>
    match st', hA with
    | [(k', e)], hA => obtain ⟨rfl, h2, h3⟩ := hA; exact ⟨e, [], rfl, h2, Or.inl ⟨rfl, rfl, h3⟩⟩
  | cons a st =>
    match st', hA with
    | (k', e) :: (b :: r'), hA => obtain ⟨rfl, h2, h3⟩ := hA; exact ⟨e, b :: r', rfl, h2, Or.inr ⟨by simp, by simp, h3⟩⟩

theorem go_alike (fail : BRes) (ls : List (List Tok)) : ∀ (st : List (Nat × Bool)) (o : Int) (st' : List (Nat × Int)) (n : Nat), st ≠ [] → Alk st o st' → goP fail st o n ls = goR fail st' n ls := by
  induction ls with
  | nil => intro st o st' n _ _; cases st <;> cases st' <;> rfl
  | cons l ls ih =>
    intro st o st' n hne hA
    have hk := kindP_le l
    obtain ⟨⟨k, h⟩, rest, rfl⟩ : ∃ a r, st = a :: r := by cases st with | nil => exact absurd rfl hne | cons a r => exact ⟨a, r, rfl⟩
    obtain ⟨e, r', rfl, hh, hrest⟩ := hA.top
    unfold goP goR
    generalize kindP l = q at *
    by_cases hb : begB q = true
    · rw [if_pos hb, if_pos hb]
      exact ih _ _ _ _ (by simp) (hA.push (by simp) q)
    · rw [if_neg hb, if_neg hb]
      have hq : q = 0 ∨ q = 2 ∨ q = 4 ∨ q = 6 ∨ q = 7 := by
        have : ¬ (q = 1 ∨ q = 3 ∨ q = 5) := fun hc => hb (by rcases hc with rfl | rfl | rfl <;> rfl)
        omega
      rcases hq with rfl | rfl | rfl | rfl | rfl
      · rw [if_pos rfl, if_pos (show ofN 0 = 0 from rfl)]
        exact ih _ _ _ _ (by simp) hA
      · rw [if_neg (show ¬ ofN 2 = 0 by decide), if_neg (show ¬ (2 : Nat) = 0 by decide)]
        dsimp only
        rw [if_neg (show ¬ (2 : Nat) = 6 by decide), if_neg (show ¬ (2 : Nat) = 6 by decide)]
        by_cases hc : k = 1
        · subst hc
          rw [if_neg (show ¬ ((1 : Nat) ≠ ofN 2 ∨ ((2 : Nat) = 6 ∧ h = true)) by simp [ofN]), if_neg (show ¬ (((2 : Nat) = 2 ∧ (1 : Nat) ≠ 1) ∨ ((2 : Nat) = 4 ∧ (1 : Nat) ≠ 3) ∨ ((2 : Nat) = 7 ∧ (1 : Nat) ≠ 5)) by simp)]
          rcases hrest with ⟨rfl, rfl, rfl⟩ | ⟨h1, h2, h3⟩
          · rw [if_pos rfl, if_pos rfl]
          · rw [if_neg h1, if_neg h2]; exact ih _ _ _ _ h1 h3
        · rw [if_pos (Or.inl (by simpa [ofN] using hc)), if_pos (Or.inl ⟨rfl, hc⟩)]
      · rw [if_neg (show ¬ ofN 4 = 0 by decide), if_neg (show ¬ (4 : Nat) = 0 by decide)]
        dsimp only
        rw [if_neg (show ¬ (4 : Nat) = 6 by decide), if_neg (show ¬ (4 : Nat) = 6 by decide)]
        by_cases hc : k = 3
        · subst hc
          rw [if_neg (show ¬ ((3 : Nat) ≠ ofN 4 ∨ ((4 : Nat) = 6 ∧ h = true)) by simp [ofN]), if_neg (show ¬ (((4 : Nat) = 2 ∧ (3 : Nat) ≠ 1) ∨ ((4 : Nat) = 4 ∧ (3 : Nat) ≠ 3) ∨ ((4 : Nat) = 7 ∧ (3 : Nat) ≠ 5)) by simp)]
          rcases hrest with ⟨rfl, rfl, rfl⟩ | ⟨h1, h2, h3⟩
          · rw [if_pos rfl, if_pos rfl]
          · rw [if_neg h1, if_neg h2]; exact ih _ _ _ _ h1 h3
        · rw [if_pos (Or.inl (by simpa [ofN] using hc)), if_pos (Or.inr (Or.inl ⟨rfl, hc⟩))]
      · rw [if_neg (show ¬ ofN 6 = 0 by decide), if_neg (show ¬ (6 : Nat) = 0 by decide)]
        dsimp only
        rw [if_pos rfl, if_pos rfl]
        by_cases hc : k = 5
        · subst hc
          by_cases h0 : 0 ≤ e
          · rw [if_pos (show (5 : Nat) ≠ ofN 6 ∨ ((6 : Nat) = 6 ∧ h = true) from Or.inr ⟨rfl, by rw [hh]; simpa using h0⟩), if_pos (show (5 : Nat) ≠ 5 ∨ 0 ≤ e from Or.inr h0)]
          · rw [if_neg (show ¬ ((5 : Nat) ≠ ofN 6 ∨ ((6 : Nat) = 6 ∧ h = true)) by simp [ofN, hh]; omega), if_neg (show ¬ ((5 : Nat) ≠ 5 ∨ 0 ≤ e) by simp; omega)]
            refine ih _ _ _ _ (by simp) ?_
            rcases hrest with ⟨rfl, rfl, rfl⟩ | ⟨h1, h2, h3⟩
            · rw [if_pos rfl]; exact ⟨rfl, by simp, rfl⟩
            · rw [if_neg h1]
              cases rest with
              | nil => exact absurd rfl h1
              | cons a rest => cases r' with
                | nil => exact absurd rfl h2
                | cons b r' => exact ⟨rfl, by simp, h3⟩
        · rw [if_pos (Or.inl (by simpa [ofN] using hc)), if_pos (Or.inl hc)]
      · rw [if_neg (show ¬ ofN 7 = 0 by decide), if_neg (show ¬ (7 : Nat) = 0 by decide)]
        dsimp only
        rw [if_neg (show ¬ (7 : Nat) = 6 by decide), if_neg (show ¬ (7 : Nat) = 6 by decide)]
        by_cases hc : k = 5
        · subst hc
          rw [if_neg (show ¬ ((5 : Nat) ≠ ofN 7 ∨ ((7 : Nat) = 6 ∧ h = true)) by simp [ofN]), if_neg (show ¬ (((7 : Nat) = 2 ∧ (5 : Nat) ≠ 1) ∨ ((7 : Nat) = 4 ∧ (5 : Nat) ≠ 3) ∨ ((7 : Nat) = 7 ∧ (5 : Nat) ≠ 5)) by simp)]
          rcases hrest with ⟨rfl, rfl, rfl⟩ | ⟨h1, h2, h3⟩
          · rw [if_pos rfl, if_pos rfl]
          · rw [if_neg h1, if_neg h2]; exact ih _ _ _ _ h1 h3
        · rw [if_pos (Or.inl (by simpa [ofN] using hc)), if_pos (Or.inr (Or.inr ⟨rfl, hc⟩))]

theorem end_alike (ls : List (List Tok)) (at_ : Int) : endP ls at_ = endR ls at_ := by
  unfold endP endR
  split
  · rfl
  · split
    · exact go_alike _ _ _ _ _ _ (by simp) ⟨rfl, rfl, rfl⟩
    · rfl

def BRes.isOk : BRes → Bool
  | .ok _ _ => true
  | .bad _ _ => false

theorem badAt_ok (l : List Tok) : (badAt l).isOk = false := by cases l <;> rfl

/-- What comes of one line. -/
theorem goP_cons (fail : BRes) (st : List (Nat × Bool)) (o : Int) (n : Nat) (l : List Tok) (hne : st ≠ []) :
    (∃ st2 o2, st2 ≠ [] ∧ (o2 = o ∨ o2 = n) ∧ ∀ f ls, goP f st o n (l :: ls) = goP f st2 o2 (n + 1) ls) ∨ (∃ a b, ∀ f ls, goP f st o n (l :: ls) = .bad a b) ∨ (∀ f ls, goP f st o n (l :: ls) = .ok n o) := by
  obtain ⟨⟨k, h⟩, rest, rfl⟩ : ∃ a r, st = a :: r := by cases st with | nil => exact absurd rfl hne | cons a r => exact ⟨a, r, rfl⟩
  by_cases hb : begB (kindP l) = true
  · left
    refine ⟨(kindP l, false) :: (k, h) :: rest, o, by simp, Or.inl rfl, fun f ls => ?_⟩
    rw [goP, if_pos hb]
  · by_cases h0 : ofN (kindP l) = 0
    · left
      refine ⟨(k, h) :: rest, o, by simp, Or.inl rfl, fun f ls => ?_⟩
      rw [goP, if_neg hb, if_pos h0]
    · by_cases h1 : k ≠ ofN (kindP l) ∨ (kindP l = 6 ∧ h = true)
      · right; left
        cases l with
        | nil => exact absurd rfl h0
        | cons t l =>
          refine ⟨t.line, t.col, fun f ls => ?_⟩
          rw [goP, if_neg hb, if_neg h0]
          rw [if_pos h1]
          rfl
      · by_cases h6 : kindP l = 6
        · left
          refine ⟨(k, true) :: rest, if rest = [] then (n : Int) else o, by simp, by split <;> simp, fun f ls => ?_⟩
          rw [goP, if_neg hb, if_neg h0]
          rw [if_neg h1, if_pos h6]
        · by_cases hr : rest = []
          · right; right
            intro f ls
            rw [goP, if_neg hb, if_neg h0]
            rw [if_neg h1, if_neg h6, if_pos hr]
          · left
            refine ⟨rest, o, hr, Or.inl rfl, fun f ls => ?_⟩
            rw [goP, if_neg hb, if_neg h0]
            rw [if_neg h1, if_neg h6, if_neg hr]

theorem go_front (fail : BRes) (hf : fail.isOk = false) (ls : List (List Tok)) : ∀ (st : List (Nat × Bool)) (o : Int) (n : Nat) (e x : Int), st ≠ [] → goP fail st o n ls = .ok e x →
    ∃ j : Nat, j < ls.length ∧ e = ((n + j : Nat) : Int) ∧ (x = o ∨ ((n : Int) ≤ x ∧ x < e)) ∧ ∀ f more, goP f st o n (ls.take (j + 1) ++ more) = .ok e x := by
  induction ls with
  | nil => intro st o n e x _ h; rw [show goP fail st o n [] = fail by cases st <;> rfl] at h; rw [h] at hf; cases hf
  | cons l ls ih =>
    intro st o n e x hne h
    rcases goP_cons fail st o n l hne with ⟨st2, o2, h2, ho, hg⟩ | ⟨a, b, hg⟩ | hg
    · rw [hg] at h
      obtain ⟨j, hj, he, hx, hm⟩ := ih st2 o2 (n + 1) e x h2 h
      refine ⟨j + 1, by simpa using hj, by rw [he]; congr 1; omega, ?_, fun f more => ?_⟩
      · rcases hx with hx | ⟨h3, h4⟩
        · rcases ho with ho | ho
          · left; rw [hx, ho]
          · right; rw [hx, ho, he]; exact ⟨by omega, by omega⟩
        · right; exact ⟨by omega, h4⟩
      · rw [List.take_succ_cons, List.cons_append, hg]
        exact hm f more
    · rw [hg] at h; cases h
    · rw [hg] at h
      cases h
      exact ⟨0, by simp, by simp, Or.inl rfl, fun f more => by rw [List.take_succ_cons, List.take_zero, List.cons_append, hg]⟩

/-- A block that ends, further out goes on behind it. -/
theorem go_inner (fail2 : BRes) (hf : fail2.isOk = false) (ls : List (List Tok)) : ∀ (s1 : List (Nat × Bool)) (o1 : Int) (n : Nat) (k x : Int), s1 ≠ [] → goP fail2 s1 o1 n ls = .ok k x →
    ∀ (fail : BRes) (st : List (Nat × Bool)) (o : Int), st ≠ [] → ∃ (j : Nat) (o2 : Int), k = ((n + j : Nat) : Int) ∧ goP fail (s1 ++ st) o n ls = goP fail st o2 (n + j + 1) (ls.drop (j + 1)) := by
  induction ls with
  | nil => intro s1 o1 n k x _ h; rw [show goP fail2 s1 o1 n [] = fail2 by cases s1 <;> rfl] at h; rw [h] at hf; cases hf
  | cons l ls ih =>
    intro s1 o1 n k x hne h fail st o hst
    obtain ⟨⟨q, hq⟩, rest, rfl⟩ : ∃ a r, s1 = a :: r := by cases s1 with | nil => exact absurd rfl hne | cons a r => exact ⟨a, r, rfl⟩
    rw [List.cons_append]
    have step : ∀ s2 o2 o3, s2 ≠ [] → goP fail2 s2 o2 (n + 1) ls = .ok k x → goP fail ((q, hq) :: (rest ++ st)) o n (l :: ls) = goP fail (s2 ++ st) o3 (n + 1) ls →
        ∃ (j : Nat) (o2 : Int), k = ((n + j : Nat) : Int) ∧ goP fail ((q, hq) :: (rest ++ st)) o n (l :: ls) = goP fail st o2 (n + j + 1) ((l :: ls).drop (j + 1)) := by
      intro s2 o2 o3 h2 h3 h4
      obtain ⟨j, o4, e1, e2⟩ := ih s2 o2 (n + 1) k x h2 h3 fail st o3 hst
      refine ⟨j + 1, o4, by rw [e1]; congr 1; omega, ?_⟩
      rw [h4, e2, List.drop_succ_cons, show n + 1 + j + 1 = n + (j + 1) + 1 by omega]
    rw [goP] at h
    by_cases hb : begB (kindP l) = true
    · rw [if_pos hb] at h
      exact step _ _ o (by simp) h (by rw [goP, if_pos hb]; rfl)
    · rw [if_neg hb] at h
      by_cases h0 : ofN (kindP l) = 0
      · rw [if_pos h0] at h
        exact step _ _ o (by simp) h (by rw [goP, if_neg hb, if_pos h0]; rfl)
      · rw [if_neg h0] at h
        by_cases h1 : q ≠ ofN (kindP l) ∨ (kindP l = 6 ∧ hq = true)
        · rw [if_pos h1] at h
          have := badAt_ok l
          rw [h] at this; cases this
        · rw [if_neg h1] at h
          by_cases h6 : kindP l = 6
          · rw [if_pos h6] at h
            refine step _ _ (if rest ++ st = [] then (n : Int) else o) (by simp) h ?_
            rw [goP, if_neg hb, if_neg h0]
            rw [if_neg h1, if_pos h6]
            rfl
          · rw [if_neg h6] at h
            by_cases hr : rest = []
            · rw [if_pos hr] at h
              cases h
              refine ⟨0, o, by simp, ?_⟩
              subst hr
              rw [goP, if_neg hb, if_neg h0]
              rw [if_neg h1, if_neg h6, List.nil_append, if_neg hst]
              rfl
            · rw [if_neg hr] at h
              refine step _ _ o hr h ?_
              rw [goP, if_neg hb, if_neg h0]
              rw [if_neg h1, if_neg h6, if_neg (by simp [hr])]

/-- On the way to the end some blocks are open. -/
theorem go_at (fail : BRes) (hf : fail.isOk = false) (ls : List (List Tok)) : ∀ (st : List (Nat × Bool)) (o : Int) (n : Nat) (e x : Int) (j : Nat), st ≠ [] → goP fail st o n ls = .ok e x → ((n + j : Nat) : Int) < e →
    ∃ st2 o2, st2 ≠ [] ∧ goP fail st2 o2 (n + j) (ls.drop j) = .ok e x := by
  induction ls with
  | nil => intro st o n e x j _ h; rw [show goP fail st o n [] = fail by cases st <;> rfl] at h; rw [h] at hf; cases hf
  | cons l ls ih =>
    intro st o n e x j hne h hlt
    cases j with
    | zero => exact ⟨st, o, hne, h⟩
    | succ j =>
      rcases goP_cons fail st o n l hne with ⟨st2, o2, h2, ho, hg⟩ | ⟨a, b, hg⟩ | hg
      · rw [hg] at h
        rw [List.drop_succ_cons, show n + (j + 1) = n + 1 + j by omega]
        exact ih st2 o2 (n + 1) e x j h2 h (by rw [show n + 1 + j = n + (j + 1) by omega]; exact hlt)
      · rw [hg] at h; cases h
      · rw [hg] at h; cases h; exfalso; omega

/-- An end, from where the block begins. -/
theorem endP_ok (ls : List (List Tok)) (at_ e x : Int) (h : endP ls at_ = .ok e x) :
    ∃ a : Nat, at_ = a ∧ a < ls.length ∧ begB (kindP (ls.getD a [])) = true ∧ goP (badAt (ls.getD a [])) [(kindP (ls.getD a []), false)] (-1) (a + 1) (ls.drop (a + 1)) = .ok e x := by
  unfold endP at h
  by_cases h1 : at_ < 0 ∨ (ls.length : Int) ≤ at_
  · rw [if_pos h1] at h; cases h
  · rw [if_neg h1] at h
    by_cases h2 : begB (kindP (ls.getD at_.toNat [])) = true
    · rw [if_pos h2] at h
      exact ⟨at_.toNat, by omega, by omega, h2, h⟩
    · rw [if_neg h2] at h
      have := badAt_ok (ls.getD at_.toNat [])
      rw [h] at this; cases this

theorem endP_behind (ls more : List (List Tok)) (at_ e x : Int) (h : endP ls at_ = .ok e x) :
    0 ≤ e ∧ e < ls.length ∧ endP (ls.take (e.toNat + 1) ++ more) at_ = .ok e x := by
  obtain ⟨a, rfl, ha, hb, hg⟩ := endP_ok ls at_ e x h
  obtain ⟨j, hj, he, _, hm⟩ := go_front _ (badAt_ok _) _ _ _ _ _ _ (by simp) hg
  rw [List.length_drop] at hj
  have het : e.toNat = a + 1 + j := by omega
  refine ⟨by omega, by omega, ?_⟩
  have hlen : (ls.take (e.toNat + 1)).length = a + 1 + j + 1 := by rw [List.length_take, het]; omega
  have hgd : (ls.take (e.toNat + 1) ++ more).getD a [] = ls.getD a [] := by
    rw [List.getD_eq_getElem?_getD, List.getD_eq_getElem?_getD, List.getElem?_append_left (by omega), List.getElem?_take_of_lt (by omega)]
  have hdr : (ls.take (e.toNat + 1) ++ more).drop (a + 1) = (ls.drop (a + 1)).take (j + 1) ++ more := by
    rw [List.drop_append_of_le_length (by omega), List.drop_take, show e.toNat + 1 - (a + 1) = j + 1 by omega]
  unfold endP
  rw [if_neg (by rw [List.length_append, hlen]; omega)]
  rw [show ((a : Int)).toNat = a by simp, hgd, if_pos hb, hdr]
  exact hm _ more

theorem endP_within (ls : List (List Tok)) (a b e x k y : Int) (h : endP ls a = .ok e x) (hk : endP ls b = .ok k y) (hab : a < b) (hbe : b < e) : k < e := by
  obtain ⟨a, rfl, ha, hb, hg⟩ := endP_ok ls a e x h
  obtain ⟨b, rfl, hb1, hb2, hg2⟩ := endP_ok ls b k y hk
  obtain ⟨st, o, hst, hat⟩ := go_at _ (badAt_ok _) _ _ _ _ _ _ (b - (a + 1)) (by simp) hg (by omega)
  rw [List.drop_drop, show a + 1 + (b - (a + 1)) = b by omega] at hat
  have hd : ls.drop b = ls.getD b [] :: ls.drop (b + 1) := by
    rw [List.drop_eq_getElem_cons hb1]
    congr 1
    rw [List.getD_eq_getElem?_getD, List.getElem?_eq_getElem hb1]; rfl
  obtain ⟨⟨q, hq⟩, rest, rfl⟩ : ∃ a r, st = a :: r := by cases st with | nil => exact absurd rfl hst | cons a r => exact ⟨a, r, rfl⟩
  rw [hd, goP, if_pos hb2] at hat
  obtain ⟨j, o2, ek, e2⟩ := go_inner _ (badAt_ok _) _ _ _ _ _ _ (by simp) hg2 (badAt (ls.getD a [])) ((q, hq) :: rest) o hst
  rw [List.cons_append, List.nil_append] at e2
  rw [e2] at hat
  obtain ⟨j2, _, e3, _, _⟩ := go_front _ (badAt_ok _) _ _ _ _ _ _ hst hat
  omega

theorem endP_bounds (ls : List (List Tok)) (a e x : Int) (h : endP ls a = .ok e x) : a < e ∧ e < ls.length ∧ (x = -1 ∨ (a < x ∧ x < e)) := by
  obtain ⟨a, rfl, ha, hb, hg⟩ := endP_ok ls a e x h
  obtain ⟨j, hj, he, hx, _⟩ := go_front _ (badAt_ok _) _ _ _ _ _ _ (by simp) hg
  rw [List.length_drop] at hj
  refine ⟨by omega, by omega, ?_⟩
  rcases hx with hx | ⟨h1, h2⟩
  · exact Or.inl hx
  · exact Or.inr ⟨by omega, h2⟩

end Go.Proofs.YtbkgdepblaibkaaDoor
