/- Plain: the program's way of reading bytes, by the document's. -/
import Derived.Test.YtbkgdepblaibkaaDoorLexp
namespace Go.Proofs.YtbkgdepblaibkaaDoor
open Go.RowKit
set_option linter.unusedVariables false
set_option linter.unusedSimpArgs false

theorem byte_all (p : UInt8 → Bool) (h : ∀ n, n < 256 → p (UInt8.ofNat n) = true) (c : UInt8) : p c = true := by
  have := h c.toNat c.toNat_lt
  rwa [UInt8.ofNat_toNat] at this

def letB (c : UInt8) : Bool := (decide (97 ≤ c.toNat) && decide (c.toNat ≤ 122)) || (decide (65 ≤ c.toNat) && decide (c.toNat ≤ 90))

def digB (c : UInt8) : Bool := decide (48 ≤ c.toNat) && decide (c.toNat ≤ 57)

def goB (c : UInt8) : Bool := letB c || (digB c || (c == 46 || (c == 95 || c == 36)))

/-- The program's digit. -/
def digP (c : UInt8) : Nat := if digB c = true then c.toNat - 48 else if 97 ≤ c.toNat ∧ c.toNat ≤ 102 then c.toNat - 97 + 10 else if 65 ≤ c.toNat ∧ c.toNat ≤ 70 then c.toNat - 65 + 10 else 256

theorem goN_B (c : UInt8) : goN.contains c = goB c := by
  have := byte_all (fun c => goN.contains c == goB c) (by decide +kernel) c
  simpa using this

theorem letN_B (c : UInt8) : letN.contains c = (letB c || c == 95) := by
  have := byte_all (fun c => letN.contains c == (letB c || c == 95)) (by decide +kernel) c
  simpa using this

theorem digN_B (c : UInt8) : digN.contains c = digB c := by
  have := byte_all (fun c => digN.contains c == digB c) (by decide +kernel) c
  simpa using this

theorem ldN_B (c : UInt8) : (letN ++ digN).contains c = (letB c || (digB c || c == 95)) := by
  have := byte_all (fun c => (letN ++ digN).contains c == (letB c || (digB c || c == 95))) (by decide +kernel) c
  simpa using this

theorem dig10 (c : UInt8) : digN.contains c = decide (digP c < 10) := by
  have := byte_all (fun c => digN.contains c == decide (digP c < 10)) (by decide +kernel) c
  simpa using this

theorem dig16 (c : UInt8) : hexN.contains c = decide (digP c < 16) := by
  have := byte_all (fun c => hexN.contains c == decide (digP c < 16)) (by decide +kernel) c
  simpa using this

theorem dig2 (c : UInt8) : ([48, 49] : List UInt8).contains c = decide (digP c < 2) := by
  have := byte_all (fun c => ([48, 49] : List UInt8).contains c == decide (digP c < 2)) (by decide +kernel) c
  simpa using this

theorem digV_P (c : UInt8) (h : digP c < 16) : digV c = digP c := by
  have := byte_all (fun c => !decide (digP c < 16) || digV c == digP c) (by decide +kernel) c
  simp [h] at this
  exact this

theorem digP_le (c : UInt8) : digP c ≤ 256 := by
  have := byte_all (fun c => decide (digP c ≤ 256)) (by decide +kernel) c
  simpa using this

/-- The program's way of a number's value, no greater than 2^32, and how many digits it has. -/
def accP (base : Nat) : List UInt8 → Nat → Nat × Nat
  | [], v => (v, 0)
  | c :: l, v => if base ≤ digP c then (v, 0) else ((accP base l (min (v * base + digP c) 4294967296)).1, (accP base l (min (v * base + digP c) 4294967296)).2 + 1)

theorem acc_count (base : Nat) (set : List UInt8) (hs : ∀ c, set.contains c = decide (digP c < base)) (l : List UInt8) : ∀ v, (accP base l v).2 = whileN set l := by
  induction l with
  | nil => intro v; rfl
  | cons c l ih =>
    intro v
    unfold accP whileN
    by_cases h : base ≤ digP c
    · rw [if_pos h, hs, if_neg (by simpa using h)]
    · rw [if_neg h, hs, if_pos (by simpa using h)]
      show (accP base l _).2 + 1 = _
      rw [ih]; omega

theorem acc_big (base : Nat) (hb : 1 ≤ base) (l : List UInt8) : ∀ v, 4294967296 ≤ v → 4294967296 ≤ (accP base l v).1 := by
  induction l with
  | nil => intro v h; exact h
  | cons c l ih =>
    intro v h
    unfold accP
    split
    · exact h
    · refine ih _ ?_
      have : v * 1 ≤ v * base := Nat.mul_le_mul_left v hb
      omega

theorem acc_le (base : Nat) (l : List UInt8) : ∀ v, v ≤ 4294967296 → (accP base l v).1 ≤ 4294967296 := by
  induction l with
  | nil => intro v h; exact h
  | cons c l ih =>
    intro v h
    unfold accP
    split
    · exact h
    · exact ih _ (Nat.min_le_right _ _)

theorem acc_val (base : Nat) (hb : 1 ≤ base) (hb' : base ≤ 16) (set : List UInt8) (hs : ∀ c, set.contains c = decide (digP c < base)) (l : List UInt8) : ∀ v, v < 4294967296 →
    valU base (l.take (whileN set l)) v = if 4294967296 ≤ (accP base l v).1 then none else some (accP base l v).1 := by
  induction l with
  | nil => intro v h; rw [show (accP base [] v).1 = v from rfl, if_neg (by omega)]; rfl
  | cons c l ih =>
    intro v h
    unfold accP whileN
    by_cases hc : base ≤ digP c
    · rw [if_pos hc, hs, if_neg (by simpa using hc), if_neg (by show ¬ 4294967296 ≤ v; omega)]; rfl
    · rw [if_neg hc, hs, if_pos (by simpa using hc), show 1 + whileN set l = whileN set l + 1 by omega, List.take_succ_cons]
      unfold valU
      rw [digV_P c (by omega)]
      show _ = if 4294967296 ≤ (accP base l _).1 then none else some (accP base l _).1
      by_cases hv : 4294967296 ≤ v * base + digP c
      · rw [if_pos hv, if_pos (acc_big base hb l _ (by omega))]
      · rw [if_neg hv, ih _ (by omega), show min (v * base + digP c) 4294967296 = v * base + digP c by omega]

theorem num_set (s : List UInt8) (c : UInt8) : (numSet s).contains c = decide (digP c < numBase s) := by
  unfold numSet numBase
  split
  · exact dig2 c
  · split
    · exact dig16 c
    · exact dig10 c

theorem num_base (s : List UInt8) : 1 ≤ numBase s ∧ numBase s ≤ 16 := by
  unfold numBase
  split
  · omega
  · split <;> omega

/-- A number at the beginning, by the program's way. -/
theorem num_P (s : List UInt8) : numR s = if (accP (numBase s) (s.drop (numFrom s)) 0).2 = 0 ∨ 4294967296 ≤ (accP (numBase s) (s.drop (numFrom s)) 0).1 ∨ (numFrom s + (accP (numBase s) (s.drop (numFrom s)) 0).2 < s.length ∧ goB (s.getD (numFrom s + (accP (numBase s) (s.drop (numFrom s)) 0).2) 0) = true)
    then (0, 0) else ((accP (numBase s) (s.drop (numFrom s)) 0).1, numFrom s + (accP (numBase s) (s.drop (numFrom s)) 0).2) := by
  obtain ⟨b1, b2⟩ := num_base s
  unfold numR
  rw [acc_count _ _ (num_set s), acc_val _ b1 b2 _ (num_set s) _ 0 (by omega), goN_B]
  generalize accP (numBase s) (s.drop (numFrom s)) 0 = a
  generalize whileN (numSet s) (s.drop (numFrom s)) = k
  by_cases h1 : k = 0
  · rw [if_pos (Or.inl h1), if_pos (Or.inl h1)]
  · by_cases h2 : numFrom s + k < s.length ∧ goB (s.getD (numFrom s + k) 0) = true
    · rw [if_pos (Or.inr h2), if_pos (Or.inr (Or.inr h2))]
    · by_cases h3 : 4294967296 ≤ a.1
      · rw [if_neg (fun h => h.elim h1 h2), if_pos h3, if_pos (Or.inr (Or.inl h3))]
      · rw [if_neg (fun h => h.elim h1 h2), if_neg h3, if_neg (fun h => h.elim h1 (fun h => h.elim h3 h2))]

/-- A text, by the program's way: its bytes, and how long they are; none, if it does not end. -/
def txtP : Nat → List UInt8 → Option (List UInt8 × Nat)
  | 0, _ => none
  | f + 1, s => if s = [] then none else if s.getD 0 0 = 34 then some ([], 0) else if (quoR 34 s).2 = 0 then none else match txtP f (s.drop (quoR 34 s).2) with
    | none => none
    | some (o, m) => some ((quoR 34 s).1 :: o, (quoR 34 s).2 + m)

theorem escR_le (s : List UInt8) : (escR s).2 ≤ s.length := by
  unfold escR
  split
  · split
    · simp
    · split
      · split
        · split <;> simp
        · simp
      · simp
  · simp

theorem quoR_le (q : UInt8) (s : List UInt8) : (quoR q s).2 ≤ s.length := by
  unfold quoR
  split
  · exact Nat.le_refl _
  · rename_i c l
    split
    · exact Nat.zero_le _
    · split
      · exact escR_le _
      · split
        · show 1 ≤ l.length + 1; omega
        · exact Nat.zero_le _

theorem txt_P (f : Nat) : ∀ s : List UInt8, s.length < f → txtP f s = if (txtR f s).2 < s.length ∧ s.getD (txtR f s).2 0 = 34 then some (txtR f s) else none := by
  induction f with
  | zero => intro s h; omega
  | succ f ih =>
    intro s h
    unfold txtP txtR
    by_cases h0 : s = []
    · subst h0
      rw [if_pos rfl, if_pos (show (quoR 34 []).2 = 0 from rfl), if_neg (by simp)]
    · rw [if_neg h0]
      obtain ⟨c, l, rfl⟩ : ∃ c l, s = c :: l := by cases s with | nil => exact absurd rfl h0 | cons c l => exact ⟨c, l, rfl⟩
      by_cases h1 : (c :: l).getD 0 0 = 34
      · have hc : c = 34 := h1
        subst hc
        rw [if_pos h1, if_pos (show (quoR 34 (34 :: l)).2 = 0 from rfl), if_pos ⟨by simp, h1⟩]
      · rw [if_neg h1]
        by_cases h2 : (quoR 34 (c :: l)).2 = 0
        · rw [if_pos h2, if_pos h2, if_neg (fun h => h1 h.2)]
        · rw [if_neg h2, if_neg h2]
          have hle := quoR_le 34 (c :: l)
          generalize quoR 34 (c :: l) = q at *
          have hd : ((c :: l).drop q.2).length = (c :: l).length - q.2 := List.length_drop
          rw [ih _ (by omega)]
          generalize hr : txtR f ((c :: l).drop q.2) = r
          by_cases h3 : r.2 < ((c :: l).drop q.2).length ∧ ((c :: l).drop q.2).getD r.2 0 = 34
          · rw [if_pos h3]
            have h4 : q.2 + r.2 < (c :: l).length ∧ (c :: l).getD (q.2 + r.2) 0 = 34 := by
              refine ⟨by omega, ?_⟩
              have := h3.2
              rw [List.getD_eq_getElem?_getD, List.getElem?_drop] at this
              rw [List.getD_eq_getElem?_getD]; exact this
            rw [if_pos h4]
          · rw [if_neg h3]
            have h4 : ¬ (q.2 + r.2 < (c :: l).length ∧ (c :: l).getD (q.2 + r.2) 0 = 34) := by
              intro h5
              refine h3 ⟨by omega, ?_⟩
              rw [List.getD_eq_getElem?_getD, List.getElem?_drop]
              have := h5.2
              rw [List.getD_eq_getElem?_getD] at this; exact this
            rw [if_neg h4]

/-- How long a macro's own name is, by the program's way. -/
def ownN : List UInt8 → Nat
  | [] => 0
  | c :: l => if letN.contains c = true then 1 + whileN (letN ++ digN) l else 0

theorem own_N (s : List UInt8) : ownN s = if 0 < whileN (letN ++ digN) s ∧ letN.contains (s.getD 0 0) = true then whileN (letN ++ digN) s else 0 := by
  cases s with
  | nil => rfl
  | cons c l =>
    show (if letN.contains c = true then 1 + whileN (letN ++ digN) l else 0) = _
    have e : (c :: l).getD 0 0 = c := rfl
    rw [e]
    by_cases h : letN.contains c = true
    · have h2 : (letN ++ digN).contains c = true := by
        rw [ldN_B]; rw [letN_B] at h
        revert h
        cases letB c <;> cases digB c <;> cases (c == 95) <;> simp
      have h3 : whileN (letN ++ digN) (c :: l) = 1 + whileN (letN ++ digN) l := by
        rw [whileN, if_pos h2]
      rw [if_pos h, h3, if_pos ⟨by omega, h⟩]
    · rw [if_neg h, if_neg (fun hh => h hh.2)]

end Go.Proofs.YtbkgdepblaibkaaDoor
