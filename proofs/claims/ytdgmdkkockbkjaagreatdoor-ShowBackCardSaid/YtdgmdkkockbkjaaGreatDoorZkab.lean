/- Parts of the proof, one behind the other. -/
import Derived.Test.YtdgmdkkockbkjaaGreatDoorZkaa
/- Plain: the program's way of reading bytes, by the document's. -/
namespace Go.Proofs.YtdgmdkkockbkjaaGreatDoor
open Go.RowKit
set_option linter.unusedVariables false
set_option linter.unusedSimpArgs false

theorem byte_all (p : UInt8 → Bool) (h : ∀ n, n < 256 → p (UInt8.ofNat n) = true) (c : UInt8) : p c = true := by
  have := h c.toNat c.toNat_lt
  rwa [UInt8.ofNat_toNat] at this

def letB (c : UInt8) : Bool := (decide (97 ≤ c.toNat) && decide (c.toNat ≤ 122)) || (decide (65 ≤ c.toNat) && decide (c.toNat ≤ 90))

def digB (c : UInt8) : Bool := decide (48 ≤ c.toNat) && decide (c.toNat ≤ 57)

def goB (c : UInt8) : Bool := letB c || (digB c || (c == 46 || (c == 95 || c == 36)))

/-- The program's digit. -/
def digP (c : UInt8) : Nat := if digB c = true then c.toNat - 48 else if 97 ≤ c.toNat ∧ c.toNat ≤ 102 then c.toNat - 97 + 10 else if 65 ≤ c.toNat ∧ c.toNat ≤ 70 then c.toNat - 65 + 10 else 256

theorem goN_B (c : UInt8) : goN.contains c = goB c := by
  have := byte_all (fun c => goN.contains c == goB c) (by decide +kernel) c
  simpa using this

theorem letN_B (c : UInt8) : letN.contains c = (letB c || c == 95) := by
  have := byte_all (fun c => letN.contains c == (letB c || c == 95)) (by decide +kernel) c
  simpa using this

theorem digN_B (c : UInt8) : digN.contains c = digB c := by
  have := byte_all (fun c => digN.contains c == digB c) (by decide +kernel) c
  simpa using this

theorem ldN_B (c : UInt8) : (letN ++ digN).contains c = (letB c || (digB c || c == 95)) := by
  have := byte_all (fun c => (letN ++ digN).contains c == (letB c || (digB c || c == 95))) (by decide +kernel) c
  simpa using this

theorem dig10 (c : UInt8) : digN.contains c = decide (digP c < 10) := by
  have := byte_all (fun c => digN.contains c == decide (digP c < 10)) (by decide +kernel) c
  simpa using this

theorem dig16 (c : UInt8) : hexN.contains c = decide (digP c < 16) := by
  have := byte_all (fun c => hexN.contains c == decide (digP c < 16)) (by decide +kernel) c
  simpa using this

theorem dig2 (c : UInt8) : ([48, 49] : List UInt8).contains c = decide (digP c < 2) := by
  have := byte_all (fun c => ([48, 49] : List UInt8).contains c == decide (digP c < 2)) (by decide +kernel) c
  simpa using this

theorem digV_P (c : UInt8) (h : digP c < 16) : digV c = digP c := by
  have := byte_all (fun c => !decide (digP c < 16) || digV c == digP c) (by decide +kernel) c
  simp [h] at this
  exact this

theorem digP_le (c : UInt8) : digP c ≤ 256 := by
  have := byte_all (fun c => decide (digP c ≤ 256)) (by decide +kernel) c
  simpa using this

/-- The program's way of a number's value, no greater than 2^32, and how many digits it has. -/
def accP (base : Nat) : List UInt8 → Nat → Nat × Nat
  | [], v => (v, 0)
  | c :: l, v => if base ≤ digP c then (v, 0) else ((accP base l (min (v * base + digP c) 4294967296)).1, (accP base l (min (v * base + digP c) 4294967296)).2 + 1)

theorem acc_count (base : Nat) (set : List UInt8) (hs : ∀ c, set.contains c = decide (digP c < base)) (l : List UInt8) : ∀ v, (accP base l v).2 = whileN set l := by
  induction l with
  | nil => intro v; rfl
  | cons c l ih =>
    intro v
    unfold accP whileN
    by_cases h : base ≤ digP c
    · rw [if_pos h, hs, if_neg (by simpa using h)]
    · rw [if_neg h, hs, if_pos (by simpa using h)]
      show (accP base l _).2 + 1 = _
      rw [ih]; omega

theorem acc_big (base : Nat) (hb : 1 ≤ base) (l : List UInt8) : ∀ v, 4294967296 ≤ v → 4294967296 ≤ (accP base l v).1 := by
  induction l with
  | nil => intro v h; exact h
  | cons c l ih =>
    intro v h
    unfold accP
    split
    · exact h
    · refine ih _ ?_
      have : v * 1 ≤ v * base := Nat.mul_le_mul_left v hb
      omega

theorem acc_le (base : Nat) (l : List UInt8) : ∀ v, v ≤ 4294967296 → (accP base l v).1 ≤ 4294967296 := by
  induction l with
  | nil => intro v h; exact h
  | cons c l ih =>
    intro v h
    unfold accP
    split
    · exact h
    · exact ih _ (Nat.min_le_right _ _)

theorem acc_val (base : Nat) (hb : 1 ≤ base) (hb' : base ≤ 16) (set : List UInt8) (hs : ∀ c, set.contains c = decide (digP c < base)) (l : List UInt8) : ∀ v, v < 4294967296 →
    valU base (l.take (whileN set l)) v = if 4294967296 ≤ (accP base l v).1 then none else some (accP base l v).1 := by
  induction l with
  | nil => intro v h; rw [show (accP base [] v).1 = v from rfl, if_neg (by omega)]; rfl
  | cons c l ih =>
    intro v h
    unfold accP whileN
    by_cases hc : base ≤ digP c
    · rw [if_pos hc, hs, if_neg (by simpa using hc), if_neg (by show ¬ 4294967296 ≤ v; omega)]; rfl
    · rw [if_neg hc, hs, if_pos (by simpa using hc), show 1 + whileN set l = whileN set l + 1 by omega, List.take_succ_cons]
      unfold valU
      rw [digV_P c (by omega)]
      show _ = if 4294967296 ≤ (accP base l _).1 then none else some (accP base l _).1
      by_cases hv : 4294967296 ≤ v * base + digP c
      · rw [if_pos hv, if_pos (acc_big base hb l _ (by omega))]
      · rw [if_neg hv, ih _ (by omega), show min (v * base + digP c) 4294967296 = v * base + digP c by omega]

theorem num_set (s : List UInt8) (c : UInt8) : (numSet s).contains c = decide (digP c < numBase s) := by
  unfold numSet numBase
  split
  · exact dig2 c
  · split
    · exact dig16 c
    · exact dig10 c

theorem num_base (s : List UInt8) : 1 ≤ numBase s ∧ numBase s ≤ 16 := by
  unfold numBase
  split
  · omega
  · split <;> omega

/-- A number at the beginning, by the program's way. -/
theorem num_P (s : List UInt8) : numR s = if (accP (numBase s) (s.drop (numFrom s)) 0).2 = 0 ∨ 4294967296 ≤ (accP (numBase s) (s.drop (numFrom s)) 0).1 ∨ (numFrom s + (accP (numBase s) (s.drop (numFrom s)) 0).2 < s.length ∧ goB (s.getD (numFrom s + (accP (numBase s) (s.drop (numFrom s)) 0).2) 0) = true)
    then (0, 0) else ((accP (numBase s) (s.drop (numFrom s)) 0).1, numFrom s + (accP (numBase s) (s.drop (numFrom s)) 0).2) := by
  obtain ⟨b1, b2⟩ := num_base s
  unfold numR
  rw [acc_count _ _ (num_set s), acc_val _ b1 b2 _ (num_set s) _ 0 (by omega), goN_B]
  generalize accP (numBase s) (s.drop (numFrom s)) 0 = a
  generalize whileN (numSet s) (s.drop (numFrom s)) = k
  by_cases h1 : k = 0
  · rw [if_pos (Or.inl h1), if_pos (Or.inl h1)]
  · by_cases h2 : numFrom s + k < s.length ∧ goB (s.getD (numFrom s + k) 0) = true
    · rw [if_pos (Or.inr h2), if_pos (Or.inr (Or.inr h2))]
    · by_cases h3 : 4294967296 ≤ a.1
      · rw [if_neg (fun h => h.elim h1 h2), if_pos h3, if_pos (Or.inr (Or.inl h3))]
      · rw [if_neg (fun h => h.elim h1 h2), if_neg h3, if_neg (fun h => h.elim h1 (fun h => h.elim h3 h2))]

/-- A text, by the program's way: its bytes, and how long they are; none, if it does not end. -/
def txtP : Nat → List UInt8 → Option (List UInt8 × Nat)
  | 0, _ => none
  | f + 1, s => if s = [] then none else if s.getD 0 0 = 34 then some ([], 0) else if (quoR 34 s).2 = 0 then none else match txtP f (s.drop (quoR 34 s).2) with
    | none => none
    | some (o, m) => some ((quoR 34 s).1 :: o, (quoR 34 s).2 + m)

theorem escR_le (s : List UInt8) : (escR s).2 ≤ s.length := by
  unfold escR
  split
  · split
    · simp
    · split
      · split
        · split <;> simp
        · simp
      · simp
  · simp

theorem quoR_le (q : UInt8) (s : List UInt8) : (quoR q s).2 ≤ s.length := by
  unfold quoR
  split
  · exact Nat.le_refl _
  · rename_i c l
    split
    · exact Nat.zero_le _
    · split
      · exact escR_le _
      · split
        · show 1 ≤ l.length + 1; omega
        · exact Nat.zero_le _

theorem txt_P (f : Nat) : ∀ s : List UInt8, s.length < f → txtP f s = if (txtR f s).2 < s.length ∧ s.getD (txtR f s).2 0 = 34 then some (txtR f s) else none := by
  induction f with
  | zero => intro s h; omega
  | succ f ih =>
    intro s h
    unfold txtP txtR
    by_cases h0 : s = []
    · subst h0
      rw [if_pos rfl, if_pos (show (quoR 34 []).2 = 0 from rfl), if_neg (by simp)]
    · rw [if_neg h0]
      obtain ⟨c, l, rfl⟩ : ∃ c l, s = c :: l := by cases s with | nil => exact absurd rfl h0 | cons c l => exact ⟨c, l, rfl⟩
      by_cases h1 : (c :: l).getD 0 0 = 34
      · have hc : c = 34 := h1
        subst hc
        rw [if_pos h1, if_pos (show (quoR 34 (34 :: l)).2 = 0 from rfl), if_pos ⟨by simp, h1⟩]
      · rw [if_neg h1]
        by_cases h2 : (quoR 34 (c :: l)).2 = 0
        · rw [if_pos h2, if_pos h2, if_neg (fun h => h1 h.2)]
        · rw [if_neg h2, if_neg h2]
          have hle := quoR_le 34 (c :: l)
          generalize quoR 34 (c :: l) = q at *
          have hd : ((c :: l).drop q.2).length = (c :: l).length - q.2 := List.length_drop
          rw [ih _ (by omega)]
          generalize hr : txtR f ((c :: l).drop q.2) = r
          by_cases h3 : r.2 < ((c :: l).drop q.2).length ∧ ((c :: l).drop q.2).getD r.2 0 = 34
          · rw [if_pos h3]
            have h4 : q.2 + r.2 < (c :: l).length ∧ (c :: l).getD (q.2 + r.2) 0 = 34 := by
              refine ⟨by omega, ?_⟩
              have := h3.2
              rw [List.getD_eq_getElem?_getD, List.getElem?_drop] at this
              rw [List.getD_eq_getElem?_getD]; exact this
            rw [if_pos h4]
          · rw [if_neg h3]
            have h4 : ¬ (q.2 + r.2 < (c :: l).length ∧ (c :: l).getD (q.2 + r.2) 0 = 34) := by
              intro h5
              refine h3 ⟨by omega, ?_⟩
              rw [List.getD_eq_getElem?_getD, List.getElem?_drop]
              have := h5.2
              rw [List.getD_eq_getElem?_getD] at this; exact this
            rw [if_neg h4]

/-- How long a macro's own name is, by the program's way. -/
def ownN : List UInt8 → Nat
  | [] => 0
  | c :: l => if letN.contains c = true then 1 + whileN (letN ++ digN) l else 0

theorem own_N (s : List UInt8) : ownN s = if 0 < whileN (letN ++ digN) s ∧ letN.contains (s.getD 0 0) = true then whileN (letN ++ digN) s else 0 := by
  cases s with
  | nil => rfl
  | cons c l =>
    show (if letN.contains c = true then 1 + whileN (letN ++ digN) l else 0) = _
    have e : (c :: l).getD 0 0 = c := rfl
    rw [e]
    by_cases h : letN.contains c = true
    · have h2 : (letN ++ digN).contains c = true := by
        rw [ldN_B]; rw [letN_B] at h
        revert h
        cases letB c <;> cases digB c <;> cases (c == 95) <;> simp
      have h3 : whileN (letN ++ digN) (c :: l) = 1 + whileN (letN ++ digN) l := by
        rw [whileN, if_pos h2]
      rw [if_pos h, h3, if_pos ⟨by omega, h⟩]
    · rw [if_neg h, if_neg (fun hh => h hh.2)]

end Go.Proofs.YtdgmdkkockbkjaaGreatDoor

/- Plain: a line's tokens without fuel. -/
namespace Go.Proofs.YtdgmdkkockbkjaaGreatDoor
open Go.RowKit
set_option linter.unusedVariables false
set_option linter.unusedSimpArgs false

theorem numR_le (s : List UInt8) : (numR s).2 ≤ s.length := by
  unfold numR
  have h := whileN_le (numSet s) (s.drop (numFrom s))
  rw [List.length_drop] at h
  split
  · exact Nat.zero_le _
  · rename_i hn
    split
    · exact Nat.zero_le _
    · show numFrom s + _ ≤ s.length
      omega

theorem txtR_le : ∀ (f : Nat) (s : List UInt8), (txtR f s).2 ≤ s.length
  | 0, s => Nat.zero_le _
  | f + 1, s => by
    unfold txtR
    split
    · exact Nat.zero_le _
    · show (quoR 34 s).2 + _ ≤ s.length
      have h1 := quoR_le 34 s
      have h2 := txtR_le f (s.drop (quoR 34 s).2)
      rw [List.length_drop] at h2
      omega

theorem tokR_le (s : List UInt8) (hs : 1 ≤ s.length) : (tokR s).2.1 ≤ s.length := by
  unfold tokR
  have hr : (s.drop 1).length = s.length - 1 := List.length_drop
  split
  · exact whileN_le _ _
  · split
    · exact numR_le s
    · split
      · split
        · rename_i h
          show (quoR 39 (s.drop 1)).2 + 2 ≤ s.length
          omega
        · exact Nat.zero_le _
      · split
        · show (textR s).2 ≤ s.length
          unfold textR
          split
          · rename_i h
            show 1 + (txtR s.length (s.drop 1)).2 + 1 ≤ s.length
            omega
          · exact Nat.zero_le _
        · have hw := whileN_le (letN ++ digN) (s.drop 1)
          split
          · show whileN (letN ++ digN) (s.drop 1) + 1 ≤ s.length
            omega
          · split
            · show whileN (letN ++ digN) (s.drop 1) + 1 ≤ s.length
              omega
            · split
              · rename_i h
                show 2 ≤ s.length
                rcases h with h | h
                · have := congrArg List.length h; simp at this; omega
                · have := congrArg List.length h; simp at this; omega
              · split
                · exact hs
                · exact Nat.zero_le _

/-- Some tokens ahead of a line's. -/
def LRes.pre {α : Type} (o : List α) : LRes (List α) → LRes (List α)
  | .ok l => .ok (o ++ l)
  | .bad a b c => .bad a b c

theorem pre_nil {α : Type} (r : LRes (List α)) : LRes.pre [] r = r := by cases r <;> rfl

theorem pre_pre {α : Type} (a b : List α) (r : LRes (List α)) : LRes.pre a (LRes.pre b r) = LRes.pre (a ++ b) r := by cases r <;> simp [LRes.pre]

theorem lineR_fuel (n : Int) : ∀ (f : Nat) (i : Nat) (s : List UInt8), s.length ≤ f → ∀ g, s.length ≤ g → lineR n f i s = lineR n g i s := by
  intro f
  induction f with
  | zero =>
    intro i s h g hg
    obtain rfl : s = [] := List.eq_nil_of_length_eq_zero (by omega)
    cases g <;> rfl
  | succ f ih =>
    intro i s h g hg
    cases g with
    | zero =>
      obtain rfl : s = [] := List.eq_nil_of_length_eq_zero (by omega)
      rfl
    | succ g =>
      unfold lineR
      by_cases h0 : s = []
      · rw [if_pos h0, if_pos h0]
      · rw [if_neg h0, if_neg h0]
        have hs : 1 ≤ s.length := by cases s with | nil => exact absurd rfl h0 | cons a l => simp
        by_cases h1 : blankN.contains (s.getD 0 0) = true
        · rw [if_pos h1, if_pos h1]
          exact ih _ _ (by rw [List.length_drop]; omega) g (by rw [List.length_drop]; omega)
        · rw [if_neg h1, if_neg h1]
          by_cases h2 : s.getD 0 0 = 35
          · rw [if_pos h2, if_pos h2]
          · rw [if_neg h2, if_neg h2]
            by_cases h3 : (tokR s).2.1 = 0
            · rw [if_pos h3, if_pos h3]
            · rw [if_neg h3, if_neg h3, ih _ _ (by rw [List.length_drop]; omega) g (by rw [List.length_drop]; omega)]

/-- A line's tokens, from the place i on. -/
def lineT (n : Int) (i : Nat) (s : List UInt8) : LRes (List Tok) := lineR n s.length i s

theorem lineT_nil (n : Int) (i : Nat) : lineT n i [] = .ok [] := rfl

theorem lineT_cons (n : Int) (i : Nat) (s : List UInt8) (hs : 1 ≤ s.length) : lineT n i s =
    if blankN.contains (s.getD 0 0) = true then lineT n (i + 1) (s.drop 1)
    else if s.getD 0 0 = 35 then .ok []
    else if (tokR s).2.1 = 0 then .bad n ((i + 1 : Nat) : Int) (tokR s).2.2
    else LRes.pre [placeT (tokR s).1 n ((i + 1 : Nat) : Int)] (lineT n (i + (tokR s).2.1) (s.drop (tokR s).2.1)) := by
  have h0 : ¬ s = [] := by intro h; rw [h] at hs; simp at hs
  unfold lineT
  obtain ⟨m, hm⟩ : ∃ m, s.length = m + 1 := ⟨s.length - 1, by omega⟩
  rw [hm, lineR, if_neg h0]
  by_cases h1 : blankN.contains (s.getD 0 0) = true
  · rw [if_pos h1, if_pos h1]
    exact lineR_fuel n _ _ _ (by rw [List.length_drop]; omega) _ (Nat.le_refl _)
  · rw [if_neg h1, if_neg h1]
    by_cases h2 : s.getD 0 0 = 35
    · rw [if_pos h2, if_pos h2]
    · rw [if_neg h2, if_neg h2]
      by_cases h3 : (tokR s).2.1 = 0
      · rw [if_pos h3, if_pos h3]
      · rw [if_neg h3, if_neg h3, lineR_fuel n m _ _ (by rw [List.length_drop]; omega) (s.drop (tokR s).2.1).length (Nat.le_refl _)]
        cases lineR n (s.drop (tokR s).2.1).length (i + (tokR s).2.1) (s.drop (tokR s).2.1) <;> rfl

end Go.Proofs.YtdgmdkkockbkjaaGreatDoor

/- Plain: a source's lines, one behind the other. -/
namespace Go.Proofs.YtdgmdkkockbkjaaGreatDoor
open Go.RowKit
set_option linter.unusedVariables false
set_option linter.unusedSimpArgs false

theorem splitL_ne (l : List UInt8) : splitL l ≠ [] := by
  cases l with
  | nil => simp [splitL]
  | cons c l =>
    unfold splitL
    split
    · simp
    · split <;> simp

theorem splitL_end (a : List UInt8) (h : ∀ c ∈ a, c ≠ 10) : splitL a = [a] := by
  induction a with
  | nil => rfl
  | cons c a ih =>
    unfold splitL
    rw [if_neg (h c (by simp)), ih (fun x hx => h x (by simp [hx]))]

theorem splitL_feed (a b : List UInt8) (h : ∀ c ∈ a, c ≠ 10) : splitL (a ++ 10 :: b) = a :: splitL b := by
  induction a with
  | nil => show splitL (10 :: b) = _; rw [splitL, if_pos rfl]
  | cons c a ih =>
    rw [List.cons_append, splitL, if_neg (h c (by simp)), ih (fun x hx => h x (by simp [hx]))]

theorem linesR_cons (n : Nat) (s : List UInt8) (r : List (List UInt8)) : linesR n (s :: r) = match lineT n 0 s with
    | .bad a b c => .bad a b c
    | .ok ts => LRes.pre [ts] (linesR (n + 1) r) := by
  rw [linesR]
  show (match lineT n 0 s with | .bad a b c => _ | .ok ts => _) = _
  cases lineT n 0 s with
  | bad a b c => rfl
  | ok ts =>
    show (match linesR (n + 1) r with | .bad a b c => _ | .ok ls => _) = _
    cases linesR (n + 1) r <;> rfl

/-- The rest of a source: the lines that are to come, from the place i on; nothing behind the end. -/
def restL (l : List UInt8) (from_ : Nat) : List (List UInt8) := if from_ ≤ l.length then splitL (l.drop from_) else []

theorem restL_end (l : List UInt8) (a : Nat) (ha : a ≤ l.length) (h : ∀ c ∈ l.drop a, c ≠ 10) : restL l a = l.drop a :: restL l (l.length + 1) := by
  unfold restL
  rw [if_pos ha, if_neg (by omega), splitL_end _ h]

theorem restL_feed (l : List UInt8) (a i : Nat) (ha : a ≤ i) (hi : l[i]? = some 10) (h : ∀ c ∈ (l.take i).drop a, c ≠ 10) : restL l a = (l.take i).drop a :: restL l (i + 1) := by
  obtain ⟨hlt, hv⟩ := List.getElem?_eq_some_iff.1 hi
  unfold restL
  rw [if_pos (by omega), if_pos (by omega)]
  have e : l.drop a = (l.take i).drop a ++ 10 :: l.drop (i + 1) := by
    have h1 : l.drop i = 10 :: l.drop (i + 1) := by rw [List.drop_eq_getElem_cons hlt, hv]
    rw [← h1]
    conv => lhs; rw [← List.take_append_drop i l]
    rw [List.drop_append_of_le_length (by rw [List.length_take]; omega)]
  rw [e, splitL_feed _ _ h]

theorem nofeed_snoc (l : List UInt8) (a i : Nat) (ha : a ≤ i) (c : UInt8) (hi : l[i]? = some c) (hc : c ≠ 10) (h : ∀ x ∈ (l.take i).drop a, x ≠ 10) : ∀ x ∈ (l.take (i + 1)).drop a, x ≠ 10 := by
  intro x hx
  rw [List.take_add_one, hi, List.drop_append] at hx
  simp only [Option.toList_some, List.mem_append] at hx
  rcases hx with hx | hx
  · exact h x hx
  · have := List.mem_of_mem_drop hx
    simp at this
    rw [this]; exact hc

end Go.Proofs.YtdgmdkkockbkjaaGreatDoor

/- Layer 23, plain: the tokens that the document reads in the text of an instruction. -/
namespace Go.Proofs.YtdgmdkkockbkjaaGreatDoor
open Go.RowKit
set_option linter.unusedVariables false
set_option linter.unusedSimpArgs false

theorem while_app (set : List UInt8) (a r : List UInt8) (h : ∀ c ∈ a, set.contains c = true) : whileN set (a ++ r) = a.length + whileN set r := by
  induction a with
  | nil => simp
  | cons c a ih =>
    rw [List.cons_append, whileN, if_pos (h c (by simp)), ih (fun x hx => h x (by simp [hx])), List.length_cons]
    omega

/-- What digits are worth. -/
def valD (base : Nat) : List UInt8 → Nat
  | [] => 0
  | c :: l => digV c * base ^ l.length + valD base l

theorem valU_D (base : Nat) (hb : 1 ≤ base) (l : List UInt8) : ∀ v, v * base ^ l.length + valD base l < 4294967296 → valU base l v = some (v * base ^ l.length + valD base l) := by
  induction l with
  | nil => intro v h; simp [valU, valD]
  | cons c l ih =>
    intro v h
    have e : v * base ^ (c :: l).length + valD base (c :: l) = (v * base + digV c) * base ^ l.length + valD base l := by
      rw [List.length_cons, Nat.pow_succ, valD, Nat.add_mul, Nat.mul_assoc, Nat.mul_comm base (base ^ l.length)]
      omega
    rw [e] at h ⊢
    have hp : 1 ≤ base ^ l.length := Nat.one_le_pow _ _ hb
    have h2 : v * base + digV c ≤ (v * base + digV c) * base ^ l.length := Nat.le_mul_of_pos_right _ hp
    rw [valU, if_neg (by omega)]
    exact ih _ h

theorem num_at (s d r : List UInt8) (base from_ v : Nat) (set : List UInt8) (h1 : numFrom s = from_) (h2 : numBase s = base) (h3 : numSet s = set) (hs : s.drop from_ = d ++ r) (hd : ∀ c ∈ d, set.contains c = true) (hd1 : 1 ≤ d.length) (hr : r = [] ∨ ∃ x r', r = x :: r' ∧ set.contains x = false ∧ goN.contains x = false) (hb : 1 ≤ base) (hv : valD base d = v) (hlt : v < 4294967296) : numR s = (v, from_ + d.length) := by
  have hw : whileN set (d ++ r) = d.length := by
    rw [while_app set d r hd]
    rcases hr with rfl | ⟨x, r', rfl, hx, _⟩
    · rfl
    · rw [whileN, if_neg (by rw [hx]; decide)]; rfl
  unfold numR
  rw [h1, h2, h3, hs, hw]
  rw [if_neg]
  · rw [List.take_left' rfl, valU_D base hb d 0 (by omega)]
    simp [hv]
  · rintro (h | ⟨h4, h5⟩)
    · omega
    · have hg : s.getD (from_ + d.length) 0 = (d ++ r).getD d.length 0 := by
        rw [← hs, List.getD_eq_getElem?_getD, List.getD_eq_getElem?_getD, List.getElem?_drop]
      rw [hg, List.getD_eq_getElem?_getD, List.getElem?_append_right (Nat.le_refl _), Nat.sub_self] at h5
      rcases hr with rfl | ⟨x, r', rfl, _, hx⟩
      · have : (s.drop from_).length = d.length := by rw [hs]; simp
        rw [List.length_drop] at this
        omega
      · rw [show (x :: r')[0]?.getD 0 = x from rfl, hx] at h5
        cases h5

/-- What a token is, but for its place. -/
def keyT (t : Tok) : Int × List UInt8 × Int := (t.kind, t.text, t.num)

/-- A line's tokens, but for their places. -/
def LineIs (s : List UInt8) (ks : List (Int × List UInt8 × Int)) : Prop := ∀ (n : Int) (i : Nat), ∃ ts, lineT n i s = .ok ts ∧ ts.map keyT = ks

theorem li_nil : LineIs [] [] := fun n i => ⟨[], rfl, rfl⟩

theorem li_blank {r : List UInt8} {ks : List (Int × List UInt8 × Int)} (h : LineIs r ks) : LineIs (32 :: r) ks := by
  intro n i
  obtain ⟨ts, h1, h2⟩ := h n (i + 1)
  refine ⟨ts, ?_, h2⟩
  rw [lineT_cons _ _ _ (by simp), if_pos (by rfl)]
  exact h1

theorem li_tok {a r : List UInt8} {t : Tok} {c : Nat} {ks : List (Int × List UInt8 × Int)} (ht : tokR (a ++ r) = (t, a.length, c)) (ha : a ≠ []) (hb : ∀ x, a.head? = some x → blankN.contains x = false ∧ x ≠ 35) (hr : LineIs r ks) : LineIs (a ++ r) (keyT t :: ks) := by
  intro n i
  obtain ⟨x, a', rfl⟩ : ∃ x a', a = x :: a' := by cases a with | nil => exact absurd rfl ha | cons x l => exact ⟨x, l, rfl⟩
  obtain ⟨h1, h2⟩ := hb x rfl
  obtain ⟨ts, h3, h4⟩ := hr n (i + (x :: a').length)
  refine ⟨placeT t n ((i + 1 : Nat) : Int) :: ts, ?_, ?_⟩
  · rw [lineT_cons _ _ _ (by simp)]
    have e : ((x :: a') ++ r).getD 0 0 = x := rfl
    rw [e, if_neg (by rw [h1]; decide), if_neg h2, ht]
    rw [if_neg (by simp)]
    dsimp only
    rw [List.drop_left' rfl, h3]
    rfl
  · rw [List.map_cons, h4]; rfl

/-- What may stand behind a name, or a number. -/
def restOk (r : List UInt8) : Prop := r = [] ∨ ∃ x r', r = x :: r' ∧ digN.contains x = false ∧ goN.contains x = false

theorem name_head (c : UInt8) (h : (letN ++ [46]).contains c = true) : goN.contains c = true ∧ blankN.contains c = false ∧ c ≠ 35 := by
  have := byte_all (fun c => !(letN ++ [46]).contains c || (goN.contains c && (!blankN.contains c && c != 35))) (by decide +kernel) c
  rw [h] at this
  simpa using this

theorem li_name {a r : List UInt8} {ks : List (Int × List UInt8 × Int)} (ha : ∃ x a', a = x :: a' ∧ (letN ++ [46]).contains x = true) (hg : ∀ c ∈ a, goN.contains c = true) (hr : restOk r) (h : LineIs r ks) : LineIs (a ++ r) ((1, a, 0) :: ks) := by
  obtain ⟨x, a', rfl, hx⟩ := ha
  obtain ⟨_, h2, h3⟩ := name_head x hx
  have hw : whileN goN ((x :: a') ++ r) = (x :: a').length := by
    rw [while_app goN _ r hg]
    rcases hr with rfl | ⟨y, r', rfl, _, hy⟩
    · rfl
    · rw [whileN, if_neg (by rw [hy]; decide)]; rfl
  refine li_tok (t := tokN 1 (x :: a')) (c := 0) ?_ (by simp) (fun y hy => by cases hy; exact ⟨h2, h3⟩) h
  unfold tokR
  rw [if_pos (by exact hx), hw, List.take_left' rfl]

theorem dig_not (c : UInt8) (h : digN.contains c = true) : c ≠ 10 ∧ blankN.contains c = false ∧ c ≠ 35 ∧ (letN ++ [46]).contains c = false ∧ c ≠ 98 ∧ c ≠ 120 := by
  have := byte_all (fun c => !digN.contains c || (c != 10 && (!blankN.contains c && (c != 35 && (!(letN ++ [46]).contains c && (c != 98 && c != 120)))))) (by decide +kernel) c
  rw [h] at this
  simpa using this

theorem valD_snoc (a : List UInt8) (d : UInt8) : valD 10 (a ++ [d]) = valD 10 a * 10 + digV d := by
  induction a with
  | nil => simp [valD]
  | cons c a ih =>
    rw [List.cons_append, valD, valD, ih, List.length_append, List.length_singleton, Nat.pow_succ, Nat.add_mul, Nat.mul_assoc]
    omega

theorem dec_facts : ∀ k, k < 10 → digN.contains (UInt8.ofNat (48 + k)) = true ∧ digV (UInt8.ofNat (48 + k)) = k := by decide

theorem dec_dig (u : Nat) : ∀ c ∈ Lib.decDigits u, digN.contains c = true := by
  intro c hc
  have h := dec_nu u c hc
  have := byte_all (fun c => !nuC c || digN.contains c) (by decide +kernel) c
  rw [h] at this
  simpa using this

theorem dec_val (u : Nat) : valD 10 (Lib.decDigits u) = u := by
  induction u using Nat.strongRecOn with
  | ind u ih =>
    by_cases hu : u < 10
    · rw [Lib.decDigits_one hu]
      have := (dec_facts u hu).2
      show digV _ * 10 ^ 0 + 0 = u
      rw [this]
      omega
    · have e : Lib.decDigits u = Lib.decDigits (u / 10) ++ [UInt8.ofNat (48 + u % 10)] := by rw [Lib.decDigits, dif_neg hu]
      rw [e, valD_snoc, ih (u / 10) (by omega), (dec_facts (u % 10) (Nat.mod_lt _ (by decide))).2]
      omega

theorem li_num {u : Nat} {r : List UInt8} {ks : List (Int × List UInt8 × Int)} (hu : u < 4294967296) (hr : restOk r) (h : LineIs r ks) : LineIs (Lib.decDigits u ++ r) ((5, [], (u : Int)) :: ks) := by
  have hv := dec_val u
  have hd := dec_dig u
  have hne := dec_ne u
  generalize Lib.decDigits u = d at *
  obtain ⟨x, d', rfl⟩ : ∃ x d', d = x :: d' := by cases d with | nil => exact absurd rfl hne | cons x l => exact ⟨x, l, rfl⟩
  obtain ⟨_, h1, h2, h3, _, _⟩ := dig_not x (hd x (by simp))
  have t2 : ∀ y, (y = 98 ∨ y = 120) → ((x :: d') ++ r).take 2 ≠ [48, y] := by
    intro y hy he
    cases d' with
    | nil =>
      rcases hr with rfl | ⟨z, r', rfl, hz1, hz2⟩
      · have := congrArg List.length he
        simp at this
      · have : z = y := by have := congrArg (fun l => l.getD 1 0) he; exact this
        rcases hy with rfl | rfl
        · rw [this] at hz2; revert hz2; decide
        · rw [this] at hz2; revert hz2; decide
    | cons c1 d'' =>
      obtain ⟨_, _, _, _, k5, k6⟩ := dig_not c1 (hd c1 (by simp))
      have : c1 = y := by have := congrArg (fun l => l.getD 1 0) he; exact this
      rcases hy with rfl | rfl
      · exact k5 this
      · exact k6 this
  have hn : numR ((x :: d') ++ r) = (u, 0 + (x :: d').length) := by
    refine num_at _ (x :: d') r 10 0 u digN ?_ ?_ ?_ rfl hd (by simp) hr (by omega) hv hu
    · unfold numFrom; rw [if_neg (t2 98 (Or.inl rfl)), if_neg (t2 120 (Or.inr rfl))]
    · unfold numBase; rw [if_neg (t2 98 (Or.inl rfl)), if_neg (t2 120 (Or.inr rfl))]
    · unfold numSet; rw [if_neg (t2 98 (Or.inl rfl)), if_neg (t2 120 (Or.inr rfl))]
  refine li_tok (t := tokU u) (c := 3) ?_ (by simp) (fun y hy => by cases hy; exact ⟨h1, h2⟩) h
  unfold tokR
  rw [if_neg (by show ¬ (letN ++ [46]).contains x = true; rw [h3]; decide), if_pos (by exact hd x (by simp)), hn]
  simp

theorem mark_facts : ∀ c ∈ ([44, 40, 41, 43, 45] : List UInt8), (letN ++ [46]).contains c = false ∧ digN.contains c = false ∧ c ≠ 39 ∧ c ≠ 34 ∧ c ≠ 37 ∧ c ≠ 64 ∧ c ≠ 92 ∧ c ≠ 60 ∧ c ≠ 62 ∧ markN.contains c = true ∧ blankN.contains c = false ∧ c ≠ 35 ∧ goN.contains c = false := by decide +kernel

theorem li_mark {c : UInt8} {r : List UInt8} {ks : List (Int × List UInt8 × Int)} (hc : c ∈ ([44, 40, 41, 43, 45] : List UInt8)) (h : LineIs r ks) : LineIs (c :: r) ((7, [c], 0) :: ks) := by
  obtain ⟨m1, m2, m3, m4, m5, m6, m7, m8, m9, m10, m11, m12, _⟩ := mark_facts c hc
  refine li_tok (a := [c]) (t := tokN 7 [c]) (c := 0) ?_ (by simp) (fun y hy => by cases hy; exact ⟨m11, m12⟩) h
  have e : ([c] ++ r).getD 0 0 = c := rfl
  have t2 : ∀ y, c ≠ y → ([c] ++ r).take 2 ≠ [y, y] := by
    intro y hy he
    have : c = y := by have := congrArg (fun l => l.getD 0 0) he; exact this
    exact hy this
  unfold tokR
  rw [e, if_neg (by rw [m1]; decide), if_neg (by rw [m2]; decide), if_neg m3, if_neg m4, if_neg (fun h => m5 h.1), if_neg (fun h => h.1.elim m6 m7), if_neg (fun h => h.elim (t2 60 m8) (t2 62 m9)), if_pos m10]
  rfl

theorem rest_mark {c : UInt8} {r : List UInt8} (hc : c ∈ ([44, 40, 41, 43, 45] : List UInt8)) : restOk (c :: r) := by
  obtain ⟨m1, m2, m3, m4, m5, m6, m7, m8, m9, m10, m11, m12, m13⟩ := mark_facts c hc
  exact Or.inr ⟨c, r, rfl, m2, m13⟩

/-- An operand that is read. -/
inductive Opd where
  | reg (n : Int)
  | imm (v : Int)
  | mem (v n : Int)
  | here (v : Int)

/-- A number's tokens. -/
def numK (v : Int) : List (Int × List UInt8 × Int) := if v < 0 then [(7, [45], 0), (5, [], (v.natAbs : Int))] else [(5, [], (v.natAbs : Int))]

/-- Its tokens. -/
def opK : Opd → List (Int × List UInt8 × Int)
  | .reg n => [(1, regNP n, 0)]
  | .imm v => numK v
  | .mem v n => numK v ++ [(7, [40], 0), (1, regNP n, 0), (7, [41], 0)]
  | .here v => [(1, [46], 0), (7, [if v < 0 then 45 else 43], 0), (5, [], (v.natAbs : Int))]

def regOk (n : Int) : Prop := 0 ≤ n ∧ n ≤ 31

def opOk : Opd → Prop
  | .reg n => regOk n
  | .imm v => v.natAbs < 4294967296
  | .mem v n => v.natAbs < 4294967296 ∧ regOk n
  | .here v => v.natAbs < 4294967296

/-- The operand of a letter. -/
def opO (c : UInt8) (i : In5) : Opd :=
  if c = 100 then .reg i.rd else if c = 120 then .reg i.rd else if c = 115 then .reg i.rs1 else if c = 116 then .reg i.rs2
  else if c = 117 then .imm (i.imm % 4294967296 / 4096)
  else if c = 109 then .mem i.imm i.rs1
  else if c = 106 then .here i.imm
  else .imm i.imm

/-- Its text. -/
def opX : Opd → List UInt8
  | .reg n => regNP n
  | .imm v => Lib.itoa v
  | .mem v n => Lib.itoa v ++ ([40] ++ (regNP n ++ [41]))
  | .here v => [46] ++ (if 0 ≤ v then [43] ++ Lib.itoa v else Lib.itoa v)

theorem opnd_X (c : UInt8) (i : In5) : opnd c i = opX (opO c i) := by
  unfold opnd opO
  split
  · rfl
  split
  · rfl
  split
  · rfl
  split
  · rfl
  split
  · rfl
  split
  · rfl
  split
  · rfl
  rfl

theorem opO_ok (c : UInt8) (i : In5) (hr : rgs i) (hi : -2147483648 ≤ i.imm ∧ i.imm ≤ 2147483647) : opOk (opO c i) := by
  obtain ⟨h1, h2, h3⟩ := hr
  unfold opO
  repeat' split
  · exact h1
  · exact h1
  · exact h2
  · exact h3
  · show (i.imm % 4294967296 / 4096).natAbs < 4294967296; omega
  · exact ⟨by show i.imm.natAbs < _; omega, h2⟩
  · show i.imm.natAbs < 4294967296; omega
  · show i.imm.natAbs < 4294967296; omega

theorem regT_name : ∀ a ∈ regT, (∃ x a', a = x :: a' ∧ (letN ++ [46]).contains x = true) ∧ ∀ c ∈ a, goN.contains c = true := by
  have h : (regT.all fun a => (match a with | [] => false | x :: _ => (letN ++ [46]).contains x) && a.all fun c => goN.contains c) = true := by decide +kernel
  intro a ha
  have := List.all_eq_true.1 h a ha
  rw [Bool.and_eq_true] at this
  cases a with
  | nil => cases this.1
  | cons x l => exact ⟨⟨x, l, rfl, this.1⟩, fun c hc => List.all_eq_true.1 this.2 c hc⟩

theorem li_reg {n : Int} {r : List UInt8} {ks : List (Int × List UInt8 × Int)} (hn : regOk n) (hr : restOk r) (h : LineIs r ks) : LineIs (regNP n ++ r) ((1, regNP n, 0) :: ks) := by
  have hm : regNP n ∈ regT := by
    unfold regNP
    rw [if_neg (by have := hn.1; have := hn.2; omega)]
    exact List.mem_of_getElem? (regT_at n.toNat (by have := hn.2; omega))
  obtain ⟨h1, h2⟩ := regT_name _ hm
  exact li_name h1 h2 hr h

theorem li_itoa {v : Int} {r : List UInt8} {ks : List (Int × List UInt8 × Int)} (hv : v.natAbs < 4294967296) (hr : restOk r) (h : LineIs r ks) : LineIs (Lib.itoa v ++ r) (numK v ++ ks) := by
  unfold Lib.itoa numK
  split
  · rename_i h0
    rw [List.cons_append]
    exact li_mark (by decide) (li_num hv hr h)
  · rename_i h0
    have e : v.toNat = v.natAbs := by omega
    rw [e]
    exact li_num hv hr h

theorem li_opd {o : Opd} {r : List UInt8} {ks : List (Int × List UInt8 × Int)} (ho : opOk o) (hr : restOk r) (h : LineIs r ks) : LineIs (opX o ++ r) (opK o ++ ks) := by
  cases o with
  | reg n => exact li_reg ho hr h
  | imm v => exact li_itoa ho hr h
  | mem v n =>
    have h1 := li_itoa (v := v) ho.1 (rest_mark (by decide)) (li_mark (c := 40) (by decide) (li_reg ho.2 (rest_mark (by decide)) (li_mark (c := 41) (by decide) h)))
    show LineIs ((Lib.itoa v ++ ([40] ++ (regNP n ++ [41]))) ++ r) ((numK v ++ [(7, [40], 0), (1, regNP n, 0), (7, [41], 0)]) ++ ks)
    simpa using h1
  | here v =>
    have hg : ∀ c ∈ ([46] : List UInt8), goN.contains c = true := by decide +kernel
    have key : LineIs ((if 0 ≤ v then [43] ++ Lib.itoa v else Lib.itoa v) ++ r) ((7, [if v < 0 then 45 else 43], 0) :: (5, [], (v.natAbs : Int)) :: ks) ∧ restOk ((if 0 ≤ v then [43] ++ Lib.itoa v else Lib.itoa v) ++ r) := by
      unfold Lib.itoa
      by_cases hv : v < 0
      · rw [if_pos hv, if_pos hv, if_neg (by omega)]
        exact ⟨li_mark (by decide) (li_num ho hr h), rest_mark (by decide)⟩
      · rw [if_neg hv, if_neg hv, if_pos (by omega)]
        have e : v.toNat = v.natAbs := by omega
        rw [e]
        exact ⟨li_mark (c := 43) (by decide) (li_num ho hr h), rest_mark (by decide)⟩
    have h1 := li_name (a := [46]) ⟨46, [], rfl, by decide⟩ hg key.2 key.1
    show LineIs (([46] ++ (if 0 ≤ v then [43] ++ Lib.itoa v else Lib.itoa v)) ++ r) ([(1, [46], 0), (7, [if v < 0 then 45 else 43], 0), (5, [], (v.natAbs : Int))] ++ ks)
    rw [List.append_assoc]
    exact h1

/-- The tokens of further operands. -/
def tailK : List Opd → List (Int × List UInt8 × Int)
  | [] => []
  | o :: r => (7, [44], 0) :: (opK o ++ tailK r)

/-- The tokens of all. -/
def opsK : List Opd → List (Int × List UInt8 × Int)
  | [] => []
  | o :: r => opK o ++ tailK r

theorem li_tail : ∀ (os : List Opd), (∀ o ∈ os, opOk o) → LineIs (tailJ (os.map opX)) (tailK os) ∧ restOk (tailJ (os.map opX))
  | [], _ => ⟨li_nil, Or.inl rfl⟩
  | o :: r, h => by
    obtain ⟨h1, h2⟩ := li_tail r (fun p hp => h p (List.mem_cons_of_mem _ hp))
    have h3 := li_opd (h o List.mem_cons_self) h2 h1
    refine ⟨?_, rest_mark (c := 44) (by decide)⟩
    exact li_mark (c := 44) (by decide) (li_blank h3)

theorem li_text (nm : List UInt8) (os : List Opd) (hn : (∃ x a', nm = x :: a' ∧ (letN ++ [46]).contains x = true) ∧ ∀ c ∈ nm, goN.contains c = true) (h : ∀ o ∈ os, opOk o) : LineIs (joinJ nm (os.map opX)) ((1, nm, 0) :: opsK os) := by
  cases os with
  | nil =>
    have := li_name (r := []) hn.1 hn.2 (Or.inl rfl) li_nil
    rw [List.append_nil] at this
    exact this
  | cons o r =>
    obtain ⟨h1, h2⟩ := li_tail r (fun p hp => h p (List.mem_cons_of_mem _ hp))
    have h3 := li_opd (h o List.mem_cons_self) h2 h1
    have h4 := li_name (r := 32 :: (opX o ++ tailJ (r.map opX))) hn.1 hn.2 (Or.inr ⟨32, _, rfl, by decide, by decide +kernel⟩) (li_blank h3)
    show LineIs (nm ++ [32] ++ opX o ++ tailJ (r.map opX)) _
    have e : nm ++ [32] ++ opX o ++ tailJ (r.map opX) = nm ++ 32 :: (opX o ++ tailJ (r.map opX)) := by simp
    rw [e]
    exact h4

theorem nmB_name : ∀ a ∈ nmB, a ≠ [] → (∃ x a', a = x :: a' ∧ (letN ++ [46]).contains x = true) ∧ ∀ c ∈ a, goN.contains c = true := by
  have h : (nmB.all fun a => a == [] || ((match a with | [] => false | x :: _ => (letN ++ [46]).contains x) && a.all fun c => goN.contains c)) = true := by decide +kernel
  intro a ha hne
  have := List.all_eq_true.1 h a ha
  cases a with
  | nil => exact absurd rfl hne
  | cons x l =>
    have this : (((letN ++ [46]).contains x) && (x :: l).all fun c => goN.contains c) = true := by simpa using this
    rw [Bool.and_eq_true] at this
    exact ⟨⟨x, l, rfl, this.1⟩, fun c hc => List.all_eq_true.1 this.2 c hc⟩

theorem shB_name : ∀ a ∈ shB, (∃ x a', a = x :: a' ∧ (letN ++ [46]).contains x = true) ∧ ∀ c ∈ a, goN.contains c = true := by
  have h : (shB.all fun a => (match a with | [] => false | x :: _ => (letN ++ [46]).contains x) && a.all fun c => goN.contains c) = true := by decide +kernel
  intro a ha
  have := List.all_eq_true.1 h a ha
  rw [Bool.and_eq_true] at this
  cases a with
  | nil => cases this.1
  | cons x l => exact ⟨⟨x, l, rfl, this.1⟩, fun c hc => List.all_eq_true.1 this.2 c hc⟩

/-- A name is an operation's, or a short's. -/
theorem nmT_or (i : In5) (s : List UInt8) (h : okT i s = true) : (s = [] ∧ nmT i s = nmB.getD i.op.toNat [] ∧ 1 ≤ i.op ∧ i.op ≤ 48) ∨ (s ∈ shB ∧ nmT i s = s) := by
  have ho := may_op i (okT_may i s h)
  by_cases hs : s = []
  · refine Or.inl ⟨hs, ?_, ho.1, ho.2⟩
    unfold nmT
    rw [if_pos hs]
    unfold nameP
    rw [if_neg (by omega)]
  · refine Or.inr ⟨?_, by unfold nmT; rw [if_neg hs]⟩
    unfold okT at h
    rw [Bool.and_eq_true, Bool.or_eq_true] at h
    rcases h.2 with h2 | h2
    · exact absurd (by simpa using h2) hs
    · obtain ⟨n, r, hr, hname, _⟩ := fitS_at s _ _ _ _ _ h2
      have := name_at n r hr
      rw [← hname, this.1]
      have hn : n < 27 := (List.getElem?_eq_some_iff.1 hr).1
      have e : shB[n]? = some r.name := by rw [← names_rows, List.getElem?_map, hr]; rfl
      rw [← this.1]
      exact List.mem_of_getElem? e

theorem src_text (i : In5) (s : List UInt8) (h : okT i s = true) (hi : -2147483648 ≤ i.imm ∧ i.imm ≤ 2147483647) :
    (textP i s).length ≤ 100 ∧ ∃ ts, srcR (textP i s) = .ok [ts] ∧ ts.map keyT = (1, nmT i s, 0) :: opsK ((lsT i s).map fun c => opO c i) := by
  have hr := may_rgs i (okT_may i s h)
  have hn := (nmT_opC i s h)
  have hl := lsT_len i s
  have e : textP i s = joinJ (nmT i s) (((lsT i s).map fun c => opO c i).map opX) := by
    unfold textP opsT
    rw [if_pos h, List.map_map]
    congr 1
    exact List.map_congr_left fun c _ => opnd_X c i
  have hname : (∃ x a', nmT i s = x :: a' ∧ (letN ++ [46]).contains x = true) ∧ ∀ c ∈ nmT i s, goN.contains c = true := by
    rcases nmT_or i s h with ⟨_, h1, h2, h3⟩ | ⟨h1, h2⟩
    · have e2 := nmB_at i.op.toNat (by omega)
      rw [h1]
      exact nmB_name _ (List.mem_of_getElem? e2) (nmB_ne i.op.toNat (by omega) (by omega))
    · rw [h2]; exact shB_name s h1
  have hlen : (textP i s).length ≤ 100 := by
    have ho := fun c => opnd_len c i hi.1 hi.2
    unfold textP opsT
    rw [if_pos h]
    have hn2 := hn.2
    generalize nmT i s = nm at *
    generalize lsT i s = ls at *
    match ls, hl with
    | [], _ => simp [joinJ]; omega
    | [a], _ => have := ho a; simp [joinJ, tailJ]; omega
    | [a, b], _ => have := ho a; have := ho b; simp [joinJ, tailJ]; omega
    | [a, b, c], _ => have := ho a; have := ho b; have := ho c; simp [joinJ, tailJ]; omega
  have hnf : ∀ c ∈ textP i s, c ≠ 10 := by
    intro c hc e
    have := (text_looks i s h).2.1 c hc
    subst e
    revert this; decide
  refine ⟨hlen, ?_⟩
  have hl := li_text (nmT i s) ((lsT i s).map fun c => opO c i) hname (by
    intro o ho
    obtain ⟨c, _, rfl⟩ := List.mem_map.1 ho
    exact opO_ok c i hr hi)
  rw [← e] at hl
  obtain ⟨ts, h1, h2⟩ := hl ((1 : Nat) : Int) 0
  refine ⟨ts, ?_, h2⟩
  unfold srcR
  rw [if_neg (by omega), splitL_end _ hnf, linesR_cons, h1]
  simp [LRes.pre, linesR]

end Go.Proofs.YtdgmdkkockbkjaaGreatDoor

