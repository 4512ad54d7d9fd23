/- Names of operations and of registers: plain; package ins and the document's. -/
import Derived.Test.YtdgmdkkockbkjaaGreatDoorIns
import Derived.Test.YtdgmdkkockbkjaaGreatDoorRefcb
import Derived.Test.YtdgmdkkockbkjaaGreatDoorHas
import Derived.Laws.IdiomStrings
namespace Go.Proofs.YtdgmdkkockbkjaaGreatDoor
open Go.RowKit
set_option linter.unusedVariables false
set_option linter.unusedSimpArgs false

/-- The registers' names. -/
def regT : List (List UInt8) := [[122, 101, 114, 111], [114, 97], [115, 112], [103, 112], [116, 112], [116, 48], [116, 49], [116, 50], [115, 48], [115, 49], [97, 48], [97, 49], [97, 50], [97, 51], [97, 52], [97, 53], [97, 54], [97, 55], [115, 50], [115, 51], [115, 52], [115, 53], [115, 54], [115, 55], [115, 56], [115, 57], [115, 49, 48], [115, 49, 49], [116, 51], [116, 52], [116, 53], [116, 54]]

/-- A number below 100. -/
def numT (n : Nat) : List UInt8 := if n < 10 then [UInt8.ofNat (48 + n)] else [UInt8.ofNat (48 + n / 10), UInt8.ofNat (48 + n % 10)]

/-- All names of a register. -/
def regNs (n : Nat) : List (List UInt8) := if n = 8 then [regT.getD n [], 120 :: numT n, [102, 112]] else [regT.getD n [], 120 :: numT n]

def regP (s : List UInt8) : Option Nat := (List.range 32).find? fun n => (regNs n).contains s

def opP (s : List UInt8) : Nat := ((List.range 48).find? fun i => nmB.getD (i + 1) [] == s).elim 0 (· + 1)

theorem regs_apartB : ((List.range 32).all fun n => (List.range 32).all fun m => n == m || (regNs n).all fun a => (regNs m).all fun b => a != b) = true := by decide +kernel

theorem regs_apart (n : Nat) (hn : n < 32) (m : Nat) (hm : m < 32) (h : n ≠ m) (a : List UInt8) (ha : a ∈ regNs n) (b : List UInt8) (hb : b ∈ regNs m) : a ≠ b := by
  have h1 := List.all_eq_true.1 regs_apartB n (List.mem_range.2 hn)
  have h2 := List.all_eq_true.1 h1 m (List.mem_range.2 hm)
  rw [Bool.or_eq_true] at h2
  rcases h2 with h2 | h2
  · exact absurd (by simpa using h2) h
  · simpa using List.all_eq_true.1 (List.all_eq_true.1 h2 a ha) b hb

theorem names_apart : ∀ i < 48, ∀ j < 48, i ≠ j → nmB.getD (i + 1) [] ≠ nmB.getD (j + 1) [] := by decide +kernel

theorem find_unique {p : Nat → Bool} {m n : Nat} (hn : n < m) (hp : p n = true) (hu : ∀ k < m, p k = true → k = n) : (List.range m).find? p = some n := by
  rw [List.find?_range_eq_some]
  refine ⟨hp, by simpa using hn, fun j hj => ?_⟩
  cases h : p j
  · rfl
  · have := hu j (by omega) h; omega

theorem reg_found (s : List UInt8) (n : Nat) (hn : n < 32) (h : s ∈ regNs n) : regP s = some n := by
  unfold regP
  refine find_unique hn (by simpa using h) fun k hk hp => ?_
  by_cases e : k = n
  · exact e
  · exact absurd rfl (regs_apart k hk n hn e s (by simpa using hp) s h)

theorem reg_none (s : List UInt8) (h : ∀ n < 32, ¬ s ∈ regNs n) : regP s = none := by
  unfold regP
  rw [List.find?_eq_none]
  intro n hn hp
  exact h n (by simpa using hn) (by simpa using hp)

theorem op_found (s : List UInt8) (k : Nat) (h1 : 1 ≤ k) (hk : k ≤ 48) (h : nmB.getD k [] = s) : opP s = k := by
  unfold opP
  obtain ⟨i, rfl⟩ : ∃ i, k = i + 1 := ⟨k - 1, by omega⟩
  rw [find_unique (n := i) (by omega) (by simpa using h) (fun j hj hp => by
    by_cases e : j = i
    · exact e
    · exact absurd ((by simpa using hp : nmB.getD (j + 1) [] = s).trans h.symm) (names_apart j hj i (by omega) e))]
  rfl

theorem op_none (s : List UInt8) (h : ∀ k, 1 ≤ k → k ≤ 48 → ¬ nmB.getD k [] = s) : opP s = 0 := by
  unfold opP
  have : (List.range 48).find? (fun i => nmB.getD (i + 1) [] == s) = none := by
    rw [List.find?_eq_none]
    intro i hi hp
    exact h (i + 1) (by omega) (by simp at hi; omega) (by simpa using hp)
  rw [this]; rfl

/-- The two tables of package ins. -/
def NamesAt (w : World) : Prop := Strs w 0 nmB ∧ Strs w 1 regT

theorem NamesAt.keep {w w' : World} (h : NamesAt w) (hn : Nx w w') : NamesAt w' := ⟨h.1.keep hn, h.2.keep hn⟩

theorem nmB_at (k : Nat) (h : k < 49) : nmB[k]? = some (nmB.getD k []) := by
  rw [List.getD_eq_getElem?_getD, List.getElem?_eq_getElem (show k < nmB.length from h)]; rfl

theorem regT_at (k : Nat) (h : k < 32) : regT[k]? = some (regT.getD k []) := by
  rw [List.getD_eq_getElem?_getD, List.getElem?_eq_getElem (show k < regT.length from h)]; rfl

def nameP (op : Int) : List UInt8 := if op < 0 ∨ 49 ≤ op then [] else nmB.getD op.toNat []

def regNP (n : Int) : List UInt8 := if n < 0 ∨ 32 ≤ n then [] else regT.getD n.toNat []

theorem name_any (op : Int) (w : World) (hN : NamesAt w) : Calls Tryz.prog 11 #[.int .i64 op] w fun e w' => e = .returned (.string (B (nameP op))) ∧ w = w' := by
  by_cases h : op < 0 ∨ 49 ≤ op
  · have HV := Lib.hid (show nameP op = [] from if_pos h)
    clear hN
    by_cases h1 : op < 0
    · have d1 : decide (op < 0) = true := decide_eq_true h1
      go_enter Tryz.func11, Tryz.ntmps11
      go_wp2
      go_ret
      exact ⟨by rw [HV.out]; rfl, rfl⟩
    · have d1 : decide (op < 0) = false := decide_eq_false h1
      have d2 : decide (49 ≤ op) = true := decide_eq_true (by omega)
      go_enter Tryz.func11, Tryz.ntmps11
      go_wp2
      go_ret
      exact ⟨by rw [HV.out]; rfl, rfl⟩
  · obtain ⟨k, rfl⟩ : ∃ k : Nat, op = k := ⟨op.toNat, by omega⟩
    have HV := Lib.hid (show nameP k = nmB.getD k [] from if_neg h)
    have hk : k < 49 := by omega
    have hc := hN.1 k _ (nmB_at k hk)
    have d1 : decide ((k : Int) < 0) = false := decide_eq_false (by omega)
    have d2 : decide ((49 : Int) ≤ k) = false := decide_eq_false (by omega)
    clear hN h
    generalize nmB.getD k [] = s at *
    go_enter Tryz.func11, Tryz.ntmps11
    go_wp2
    go_ret
    exact ⟨by rw [HV.out]; rfl, rfl⟩

theorem regName_any (n : Int) (w : World) (hN : NamesAt w) : Calls Tryz.prog 35 #[.int .i64 n] w fun e w' => e = .returned (.string (B (regNP n))) ∧ w = w' := by
  by_cases h : n < 0 ∨ 32 ≤ n
  · have HV := Lib.hid (show regNP n = [] from if_pos h)
    clear hN
    by_cases h1 : n < 0
    · have d1 : decide (n < 0) = true := decide_eq_true h1
      go_enter Tryz.func35, Tryz.ntmps35
      go_wp2
      go_ret
      exact ⟨by rw [HV.out]; rfl, rfl⟩
    · have d1 : decide (n < 0) = false := decide_eq_false h1
      have d2 : decide (32 ≤ n) = true := decide_eq_true (by omega)
      go_enter Tryz.func35, Tryz.ntmps35
      go_wp2
      go_ret
      exact ⟨by rw [HV.out]; rfl, rfl⟩
  · obtain ⟨k, rfl⟩ : ∃ k : Nat, n = k := ⟨n.toNat, by omega⟩
    have HV := Lib.hid (show regNP k = regT.getD k [] from if_neg h)
    have hk : k < 32 := by omega
    have hc := hN.2 k _ (regT_at k hk)
    have d1 : decide ((k : Int) < 0) = false := decide_eq_false (by omega)
    have d2 : decide ((32 : Int) ≤ k) = false := decide_eq_false (by omega)
    clear hN h
    generalize regT.getD k [] = s at *
    go_enter Tryz.func35, Tryz.ntmps35
    go_wp2
    go_ret
    exact ⟨by rw [HV.out]; rfl, rfl⟩

theorem ret_str {a b : ByteArray} (h : a = b) : Ending.returned (.string a) = .returned (.string b) := by rw [h]

theorem bytes_ext {a : ByteArray} {l : List UInt8} (h : a.data.toList = l) : a = B l := by
  obtain ⟨⟨x⟩⟩ := a
  subst h
  rfl

/-- The digits of a number below 100, as the library has them. -/
theorem small_10B : ((List.range 10).all fun k => ((⟨#[48, 49, 50, 51, 52, 53, 54, 55, 56, 57, 97, 98, 99, 100, 101, 102, 103, 104, 105, 106, 107, 108, 109, 110, 111, 112, 113, 114, 115, 116, 117, 118, 119, 120, 121, 122]⟩ : ByteArray).extract k (k + 1)).data.toList == numT k) = true := by decide +kernel

theorem small_10 (k : Nat) (hk : k < 10) : (⟨#[48, 49, 50, 51, 52, 53, 54, 55, 56, 57, 97, 98, 99, 100, 101, 102, 103, 104, 105, 106, 107, 108, 109, 110, 111, 112, 113, 114, 115, 116, 117, 118, 119, 120, 121, 122]⟩ : ByteArray).extract k (k + 1) = B (numT k) := by
  exact bytes_ext (beq_iff_eq.1 (List.all_eq_true.1 small_10B k (List.mem_range.2 hk)))

def digD : List UInt8 := [48, 48, 48, 49, 48, 50, 48, 51, 48, 52, 48, 53, 48, 54, 48, 55, 48, 56, 48, 57, 49, 48, 49, 49, 49, 50, 49, 51, 49, 52, 49, 53, 49, 54, 49, 55, 49, 56, 49, 57, 50, 48, 50, 49, 50, 50, 50, 51, 50, 52, 50, 53, 50, 54, 50, 55, 50, 56, 50, 57, 51, 48, 51, 49, 51, 50, 51, 51, 51, 52, 51, 53, 51, 54, 51, 55, 51, 56, 51, 57, 52, 48, 52, 49, 52, 50, 52, 51, 52, 52, 52, 53, 52, 54, 52, 55, 52, 56, 52, 57, 53, 48, 53, 49, 53, 50, 53, 51, 53, 52, 53, 53, 53, 54, 53, 55, 53, 56, 53, 57, 54, 48, 54, 49, 54, 50, 54, 51, 54, 52, 54, 53, 54, 54, 54, 55, 54, 56, 54, 57, 55, 48, 55, 49, 55, 50, 55, 51, 55, 52, 55, 53, 55, 54, 55, 55, 55, 56, 55, 57, 56, 48, 56, 49, 56, 50, 56, 51, 56, 52, 56, 53, 56, 54, 56, 55, 56, 56, 56, 57, 57, 48, 57, 49, 57, 50, 57, 51, 57, 52, 57, 53, 57, 54, 57, 55, 57, 56, 57, 57]

theorem small_99B : ((List.range 100).all fun k => k < 10 || ((B digD).extract (k * 2) (k * 2 + 2)).data.toList == numT k) = true := by decide +kernel

theorem small_99 (k : Nat) (hk : 10 ≤ k) (hk' : k < 100) : (B digD).extract (k * 2) (k * 2 + 2) = B (numT k) := by
  have := List.all_eq_true.1 small_99B k (List.mem_range.2 hk')
  rw [Bool.or_eq_true] at this
  rcases this with h | h
  · exact absurd (of_decide_eq_true h) (by omega)
  · exact bytes_ext (beq_iff_eq.1 h)

theorem itoa_lo (k : Nat) (hk : k < 10) (w : World) : Calls Tryz.prog 34 #[.int .i64 k] w fun e w' => e = .returned (.string (B (numT k))) ∧ w = w' := by
  have d0 : decide ((k : Int) < 100) = true := decide_eq_true (by omega)
  have d1 : decide ((k : Int) < 10) = true := decide_eq_true (by omega)
  have d2 : decide ((0 : Int) ≤ k) = true := decide_eq_true (by omega)
  have hkI : (k : Int) < 10 := by omega
  go_enter Tryz.func34, Tryz.ntmps34
  go_wp2
  go_ret
  exact ⟨ret_str (small_10 k hk), rfl⟩

set_option maxRecDepth 100000 in
theorem itoa_hi (k : Nat) (hk : 10 ≤ k) (hk' : k < 100) (w : World) : Calls Tryz.prog 34 #[.int .i64 k] w fun e w' => e = .returned (.string (B (numT k))) ∧ w = w' := by
  have d0 : decide ((k : Int) < 100) = true := decide_eq_true (by omega)
  have d1 : decide ((k : Int) < 10) = false := decide_eq_false (by omega)
  have d2 : decide ((0 : Int) ≤ k) = true := decide_eq_true (by omega)
  have hkI : (k : Int) < 100 := by omega
  have HV := Lib.hid (small_99 k hk hk')
  go_enter Tryz.func34, Tryz.ntmps34
  go_wp2
  go_ret
  exact ⟨ret_str HV.out, rfl⟩

theorem itoa_any (k : Nat) (hk : k < 100) (w : World) : Calls Tryz.prog 34 #[.int .i64 k] w fun e w' => e = .returned (.string (B (numT k))) ∧ w = w' := by
  by_cases h : k < 10
  · exact itoa_lo k h w
  · exact itoa_hi k (by omega) hk w

end Go.Proofs.YtdgmdkkockbkjaaGreatDoor
