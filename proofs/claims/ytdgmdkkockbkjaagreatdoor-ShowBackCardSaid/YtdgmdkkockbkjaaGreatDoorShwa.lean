/- Layer 23, plain: the text of an instruction, or of it as a short. -/
import Derived.Test.YtdgmdkkockbkjaaGreatDoorShwz
import Derived.Test.YtdgmdkkockbkjaaGreatDoorNan
import Derived.Lib.ItoaNum
namespace Go.Proofs.YtdgmdkkockbkjaaGreatDoor
open Go.RowKit
set_option linter.unusedVariables false
set_option linter.unusedSimpArgs false

/-- The letters of an operation's statement, by its form. -/
def letF (f : Int) : List UInt8 :=
  if f = 1 then [100, 117] else if f = 2 then [100, 106] else if f = 3 then [115, 116, 106] else if f = 4 then [100, 109] else if f = 5 then [116, 109]
  else if f = 6 then [100, 115, 105] else if f = 7 then [100, 115, 105] else if f = 8 then [100, 115, 116] else []

/-- The letters of the shorts' statements, in the order of the table. -/
def letSL : List (List UInt8) := [[100, 115, 105], [100, 109], [116, 109], [], [120, 105], [106], [100, 105], [120, 105], [100, 117], [120, 105], [120, 105], [120, 105], [120, 116], [120, 116], [120, 116], [120, 116], [106], [115, 106], [115, 106], [120, 105], [100, 109], [115], [100, 116], [], [115], [120, 116], [116, 109]]

def letS (s : List UInt8) : List UInt8 := letSL.getD (shB.idxOf s) []

/-- An operand, of its letter. -/
def opnd (c : UInt8) (i : In5) : List UInt8 :=
  if c = 100 then regNP i.rd else if c = 120 then regNP i.rd else if c = 115 then regNP i.rs1 else if c = 116 then regNP i.rs2
  else if c = 117 then Lib.itoa (i.imm % 4294967296 / 4096)
  else if c = 109 then Lib.itoa i.imm ++ ([40] ++ (regNP i.rs1 ++ [41]))
  else if c = 106 then [46] ++ (if 0 ≤ i.imm then [43] ++ Lib.itoa i.imm else Lib.itoa i.imm)
  else Lib.itoa i.imm

/-- Texts one behind the other. -/
def tailJ : List (List UInt8) → List UInt8
  | [] => []
  | o :: r => [44, 32] ++ o ++ tailJ r

def joinJ (s : List UInt8) : List (List UInt8) → List UInt8
  | [] => s
  | o :: r => s ++ [32] ++ o ++ tailJ r

def okT (i : In5) (s : List UInt8) : Bool := mayB i.op i.rd i.rs1 i.rs2 i.imm && (s == [] || fitS (B s) i.op i.rd i.rs1 i.rs2 i.imm)

def nmT (i : In5) (s : List UInt8) : List UInt8 := if s = [] then nameP i.op else s

def lsT (i : In5) (s : List UInt8) : List UInt8 := if s = [] then letF (formN i.op) else letS s

def opsT (i : In5) (s : List UInt8) : List (List UInt8) := (lsT i s).map fun c => opnd c i

/-- The text of an instruction; none, if there is none. -/
def textP (i : In5) (s : List UInt8) : List UInt8 := if okT i s = true then joinJ (nmT i s) (opsT i s) else []

theorem tailJ_snoc (o : List UInt8) : ∀ l, tailJ (l ++ [o]) = tailJ l ++ [44, 32] ++ o
  | [] => by simp [tailJ]
  | a :: l => by simp [tailJ, tailJ_snoc o l]

theorem joinJ_snoc (s o a : List UInt8) (l : List (List UInt8)) : joinJ s (a :: l ++ [o]) = joinJ s (a :: l) ++ [44, 32] ++ o := by
  simp [joinJ, tailJ_snoc]

/-! ### Which bytes stand where -/

/-- A byte of an operand or of a name. -/
def opC (c : UInt8) : Bool := (97 ≤ c.toNat && c.toNat ≤ 122) || (48 ≤ c.toNat && c.toNat ≤ 57) || c == 46 || c == 45 || c == 43 || c == 40 || c == 41

/-- A byte of a numeral. -/
def nuC (c : UInt8) : Bool := (48 ≤ c.toNat && c.toNat ≤ 57)

theorem dec_nu (u : Nat) : ∀ c ∈ Lib.decDigits u, nuC c = true := by
  intro c hc
  rw [Lib.decDigits_eq] at hc
  obtain ⟨t, _, rfl⟩ := List.mem_map.1 hc
  generalize Lib.nDigits u - 1 - t = j
  unfold Lib.dg
  have : u / 10 ^ j % 10 < 10 := Nat.mod_lt _ (by decide)
  generalize u / 10 ^ j % 10 = d at *
  have h : ((List.range 10).all fun d => nuC (UInt8.ofNat (48 + d))) = true := by decide
  exact List.all_eq_true.1 h d (List.mem_range.2 this)

theorem dec_ne (u : Nat) : Lib.decDigits u ≠ [] := by
  intro h
  have h1 := Lib.decDigits_length u
  rw [h] at h1
  have := Lib.nDigits_pos u
  simp at h1
  omega

theorem dec_inj : ∀ u v : Nat, Lib.decDigits u = Lib.decDigits v → u = v := by
  intro u
  induction u using Nat.strongRecOn with
  | ind u ih =>
    intro v h
    have hd : ∀ a b : Nat, a < 10 → b < 10 → UInt8.ofNat (48 + a) = UInt8.ofNat (48 + b) → a = b := by
      intro a b ha hb h
      have := congrArg UInt8.toNat h
      simp [UInt8.toNat_ofNat] at this
      omega
    have one : ∀ a : Nat, ¬ a < 10 → Lib.decDigits a = Lib.decDigits (a / 10) ++ [UInt8.ofNat (48 + a % 10)] := by
      intro a ha
      rw [Lib.decDigits, dif_neg ha]
    by_cases hu : u < 10
    · by_cases hv : v < 10
      · rw [Lib.decDigits_one hu, Lib.decDigits_one hv] at h
        exact hd u v hu hv (by injection h)
      · rw [Lib.decDigits_one hu, one v hv] at h
        have := congrArg List.length h
        simp at this
        exact absurd this (dec_ne _)
    · by_cases hv : v < 10
      · rw [Lib.decDigits_one hv, one u hu] at h
        have := congrArg List.length h
        simp at this
        exact absurd this (dec_ne _)
      · rw [one u hu, one v hv] at h
        have h2 := List.append_inj' h rfl
        have h3 := ih (u / 10) (by omega) (v / 10) h2.1
        have h4 := hd _ _ (Nat.mod_lt _ (by decide)) (Nat.mod_lt _ (by decide)) (by have := h2.2; injection this)
        omega

theorem itoa_nu (n : Int) : ∀ c ∈ Lib.itoa n, nuC c = true ∨ c = 45 := by
  intro c hc
  unfold Lib.itoa at hc
  split at hc
  · rcases List.mem_cons.1 hc with h | h
    · exact Or.inr h
    · exact Or.inl (dec_nu _ c h)
  · exact Or.inl (dec_nu _ c hc)

theorem itoa_inj (a b : Int) (h : Lib.itoa a = Lib.itoa b) : a = b := by
  unfold Lib.itoa at h
  have hn : ∀ u : Nat, ∀ l, Lib.decDigits u = 45 :: l → False := by
    intro u l h
    have := dec_nu u 45 (by rw [h]; exact List.mem_cons_self)
    revert this; decide
  split at h <;> split at h
  · have := dec_inj _ _ (by injection h)
    omega
  · exact (hn _ _ h.symm).elim
  · exact (hn _ _ h).elim
  · have := dec_inj _ _ h
    omega

theorem itoa_len (n : Int) (h0 : -4294967296 ≤ n) (h1 : n ≤ 4294967296) : (Lib.itoa n).length ≤ 11 := by
  have hk : ∀ (k u : Nat), u < 10 ^ (k + 1) → Lib.nDigits u ≤ k + 1 := by
    intro k
    induction k with
    | zero => intro u h; rw [Lib.nDigits_small (by simpa using h)]; exact Nat.le_refl _
    | succ k ih =>
      intro u h
      by_cases hu : u < 10
      · rw [Lib.nDigits_small hu]; omega
      · rw [Lib.nDigits_big hu]
        have := ih (u / 10) (by rw [Nat.div_lt_iff_lt_mul (by decide)]; rw [Nat.pow_succ] at h; exact h)
        omega
  unfold Lib.itoa
  split
  · have := hk 9 n.natAbs (by simp only [Nat.reduceAdd, Nat.reducePow]; omega)
    rw [List.length_cons, Lib.decDigits_length]; omega
  · have := hk 9 n.toNat (by simp only [Nat.reduceAdd, Nat.reducePow]; omega)
    rw [Lib.decDigits_length]; omega

theorem regT_opC : ∀ s ∈ regT, (∀ c ∈ s, (97 ≤ c.toNat && c.toNat ≤ 122 || nuC c) = true) ∧ s.length ≤ 4 := by decide +kernel

theorem regNP_opC (n : Int) : (∀ c ∈ regNP n, (97 ≤ c.toNat && c.toNat ≤ 122 || nuC c) = true) ∧ (regNP n).length ≤ 4 := by
  unfold regNP
  split
  · exact ⟨(fun c h => (List.not_mem_nil h).elim), Nat.zero_le _⟩
  · rename_i h
    have e := regT_at n.toNat (by omega)
    exact regT_opC _ (List.mem_of_getElem? e)

theorem regT_inj : ∀ a < 32, ∀ b < 32, regT.getD a [] = regT.getD b [] → a = b := by decide +kernel

theorem regNP_inj (a b : Int) (ha : 0 ≤ a) (ha' : a ≤ 31) (hb : 0 ≤ b) (hb' : b ≤ 31) (h : regNP a = regNP b) : a = b := by
  unfold regNP at h
  rw [if_neg (by omega), if_neg (by omega)] at h
  have := regT_inj a.toNat (by omega) b.toNat (by omega) h
  omega

theorem nmB_opC : ∀ s ∈ nmB, (∀ c ∈ s, opC c = true) ∧ s.length ≤ 6 ∧ ¬ (46 : UInt8) ∈ s := by decide

theorem shB_opC : ∀ s ∈ shB, (∀ c ∈ s, opC c = true) ∧ s.length ≤ 10 ∧ (46 : UInt8) ∈ s := by decide

theorem opC_nu (c : UInt8) (h : (97 ≤ c.toNat && c.toNat ≤ 122 || nuC c) = true) : opC c = true := by
  unfold opC; unfold nuC at h
  simp only [Bool.or_eq_true] at h ⊢
  rcases h with h | h
  · exact Or.inl (Or.inl (Or.inl (Or.inl (Or.inl (Or.inl h)))))
  · exact Or.inl (Or.inl (Or.inl (Or.inl (Or.inl (Or.inr h)))))

theorem opnd_opC (c : UInt8) (i : In5) : ∀ x ∈ opnd c i, opC x = true := by
  have hr := fun n => (regNP_opC n).1
  have hi : ∀ (n : Int), ∀ x ∈ Lib.itoa n, opC x = true := by
    intro n x hx
    rcases itoa_nu n x hx with h | h
    · exact opC_nu x (by rw [h, Bool.or_true])
    · subst h; decide
  have hg : ∀ (n : Int), ∀ x ∈ regNP n, opC x = true := fun n x hx => opC_nu x (hr n x hx)
  intro x hx
  unfold opnd at hx
  split at hx
  · exact hg _ x hx
  split at hx
  · exact hg _ x hx
  split at hx
  · exact hg _ x hx
  split at hx
  · exact hg _ x hx
  split at hx
  · exact hi _ x hx
  split at hx
  · simp only [List.mem_append, List.mem_singleton] at hx
    rcases hx with h | h | h | h
    · exact hi _ x h
    · subst h; decide
    · exact hg _ x h
    · subst h; decide
  split at hx
  · simp only [List.mem_append, List.mem_singleton] at hx
    rcases hx with h | h
    · subst h; decide
    · split at h
      · simp only [List.mem_append, List.mem_singleton] at h
        rcases h with h | h
        · subst h; decide
        · exact hi _ x h
      · exact hi _ x h
  · exact hi _ x hx

theorem opnd_len (c : UInt8) (i : In5) (h0 : -2147483648 ≤ i.imm) (h1 : i.imm ≤ 2147483647) : (opnd c i).length ≤ 17 := by
  have hr := fun n => (regNP_opC n).2
  have hi := itoa_len i.imm (by omega) (by omega)
  have hu := itoa_len (i.imm % 4294967296 / 4096) (by omega) (by omega)
  have := hr i.rd
  have := hr i.rs1
  have := hr i.rs2
  unfold opnd
  repeat' split
  all_goals (try simp only [List.length_append, List.length_cons, List.length_nil])
  all_goals omega

theorem opC_no (s : List UInt8) (h : ∀ c ∈ s, opC c = true) : ¬ (32 : UInt8) ∈ s ∧ ¬ (44 : UInt8) ∈ s :=
  ⟨fun h1 => by have := h _ h1; revert this; decide, fun h1 => by have := h _ h1; revert this; decide⟩

end Go.Proofs.YtdgmdkkockbkjaaGreatDoor
