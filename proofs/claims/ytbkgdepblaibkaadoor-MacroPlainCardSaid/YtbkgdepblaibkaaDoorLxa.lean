/- Contracts of package lex: classes of bytes, digits, escapes, a byte within quotes. -/
import Derived.Test.YtbkgdepblaibkaaDoorRtc
import Derived.Test.YtbkgdepblaibkaaDoorArg
namespace Go.Proofs.YtbkgdepblaibkaaDoor
open Go.RowKit
set_option linter.unusedVariables false
set_option linter.unusedSimpArgs false

theorem isDigit_any (c : UInt8) (w : World) : Calls Tryd.prog 80 #[.int .u8 c.toNat] w fun e w' => e = .returned (.bool (digB c)) ∧ w = w' := by
  have hc := c.toNat_lt
  by_cases h1 : 48 ≤ c.toNat
  · by_cases h2 : c.toNat ≤ 57
    · have HV := Lib.hid (show digB c = true by unfold digB; simp [h1, h2])
      have d1 : decide ((48 : Int) ≤ c.toNat) = true := decide_eq_true (by omega)
      have d2 : decide ((c.toNat : Int) ≤ 57) = true := decide_eq_true (by omega)
      go_enter Tryd.func80, Tryd.ntmps80
      go_wp2
      go_ret
      exact ⟨by rw [HV.out]; rfl, rfl⟩
    · have HV := Lib.hid (show digB c = false by unfold digB; simp [h1, h2])
      have d1 : decide ((48 : Int) ≤ c.toNat) = true := decide_eq_true (by omega)
      have d2 : decide ((c.toNat : Int) ≤ 57) = false := decide_eq_false (by omega)
      go_enter Tryd.func80, Tryd.ntmps80
      go_wp2
      go_ret
      exact ⟨by rw [HV.out]; rfl, rfl⟩
  · have HV := Lib.hid (show digB c = false by unfold digB; simp [h1])
    have d1 : decide ((48 : Int) ≤ c.toNat) = false := decide_eq_false (by omega)
    go_enter Tryd.func80, Tryd.ntmps80
    go_wp2
    go_ret
    exact ⟨by rw [HV.out]; rfl, rfl⟩

theorem isLetter_any (c : UInt8) (w : World) : Calls Tryd.prog 84 #[.int .u8 c.toNat] w fun e w' => e = .returned (.bool (letB c)) ∧ w = w' := by
  have hc := c.toNat_lt
  have key : (c.toNat < 65) ∨ (65 ≤ c.toNat ∧ c.toNat ≤ 90) ∨ (90 < c.toNat ∧ c.toNat < 97) ∨ (97 ≤ c.toNat ∧ c.toNat ≤ 122) ∨ (122 < c.toNat) := by omega
  rcases key with h | h | h | h | h
  · have HV := Lib.hid (show letB c = false by unfold letB; simp; omega)
    have d1 : decide ((97 : Int) ≤ c.toNat) = false := decide_eq_false (by omega)
    have d3 : decide ((65 : Int) ≤ c.toNat) = false := decide_eq_false (by omega)
    clear h
    go_enter Tryd.func84, Tryd.ntmps84
    go_wp2
    go_ret
    exact ⟨by rw [HV.out]; rfl, rfl⟩
  · have HV := Lib.hid (show letB c = true by unfold letB; simp; omega)
    have d1 : decide ((97 : Int) ≤ c.toNat) = false := decide_eq_false (by omega)
    have d3 : decide ((65 : Int) ≤ c.toNat) = true := decide_eq_true (by omega)
    have d4 : decide ((c.toNat : Int) ≤ 90) = true := decide_eq_true (by omega)
    clear h
    go_enter Tryd.func84, Tryd.ntmps84
    go_wp2
    go_ret
    exact ⟨by rw [HV.out]; rfl, rfl⟩
  · have HV := Lib.hid (show letB c = false by unfold letB; simp; omega)
    have d1 : decide ((97 : Int) ≤ c.toNat) = false := decide_eq_false (by omega)
    have d3 : decide ((65 : Int) ≤ c.toNat) = true := decide_eq_true (by omega)
    have d4 : decide ((c.toNat : Int) ≤ 90) = false := decide_eq_false (by omega)
    clear h
    go_enter Tryd.func84, Tryd.ntmps84
    go_wp2
    go_ret
    exact ⟨by rw [HV.out]; rfl, rfl⟩
  · have HV := Lib.hid (show letB c = true by unfold letB; simp; omega)
    have d1 : decide ((97 : Int) ≤ c.toNat) = true := decide_eq_true (by omega)
    have d2 : decide ((c.toNat : Int) ≤ 122) = true := decide_eq_true (by omega)
    clear h
    go_enter Tryd.func84, Tryd.ntmps84
    go_wp2
    go_ret
    exact ⟨by rw [HV.out]; rfl, rfl⟩
  · have HV := Lib.hid (show letB c = false by unfold letB; simp; omega)
    have d1 : decide ((97 : Int) ≤ c.toNat) = true := decide_eq_true (by omega)
    have d2 : decide ((c.toNat : Int) ≤ 122) = false := decide_eq_false (by omega)
    have d3 : decide ((65 : Int) ≤ c.toNat) = true := decide_eq_true (by omega)
    have d4 : decide ((c.toNat : Int) ≤ 90) = false := decide_eq_false (by omega)
    clear h
    go_enter Tryd.func84, Tryd.ntmps84
    go_wp2
    go_ret
    exact ⟨by rw [HV.out]; rfl, rfl⟩

theorem goesOn_any (c : UInt8) (w : World) : Calls Tryd.prog 85 #[.int .u8 c.toNat] w fun e w' => e = .returned (.bool (goB c)) ∧ w = w' := by
  have CL := isLetter_any c w
  have CD := isDigit_any c w
  cases h1 : letB c
  · rw [h1] at CL
    have CL := Lib.hid CL
    cases h2 : digB c
    · rw [h2] at CD
      have CD := Lib.hid CD
      cases h3 : (c == 46)
      · have b3 := u8n c 46 (by omega) false h3
        have b3 : ((c.toNat : Int) == 46) = false := b3
        cases h4 : (c == 95)
        · have b4 := u8n c 95 (by omega) false h4
          have b4 : ((c.toNat : Int) == 95) = false := b4
          cases h5 : (c == 36)
          · have b5 := u8n c 36 (by omega) false h5
            have b5 : ((c.toNat : Int) == 36) = false := b5
            have HV := Lib.hid (show goB c = false by unfold goB; simp [h1, h2, h3, h4, h5])
            go_enter Tryd.func85, Tryd.ntmps85
            go_wp2_with fail
            refine CL.out.mono ?_
            rintro e w2 ⟨rfl, rfl⟩
            go_wp2_with fail
            refine CD.out.mono ?_
            rintro e w2 ⟨rfl, rfl⟩
            go_wp2
            go_ret
            exact ⟨by rw [HV.out]; rfl, rfl⟩
          · have b5 := u8n c 36 (by omega) true h5
            have b5 : ((c.toNat : Int) == 36) = true := b5
            have HV := Lib.hid (show goB c = true by unfold goB; simp [h1, h2, h3, h4, h5])
            go_enter Tryd.func85, Tryd.ntmps85
            go_wp2_with fail
            refine CL.out.mono ?_
            rintro e w2 ⟨rfl, rfl⟩
            go_wp2_with fail
            refine CD.out.mono ?_
            rintro e w2 ⟨rfl, rfl⟩
            go_wp2
            go_ret
            exact ⟨by rw [HV.out]; rfl, rfl⟩
        · have b4 := u8n c 95 (by omega) true h4
          have b4 : ((c.toNat : Int) == 95) = true := b4
          have HV := Lib.hid (show goB c = true by unfold goB; simp [h1, h2, h3, h4])
          go_enter Tryd.func85, Tryd.ntmps85
          go_wp2_with fail
          refine CL.out.mono ?_
          rintro e w2 ⟨rfl, rfl⟩
          go_wp2_with fail
          refine CD.out.mono ?_
          rintro e w2 ⟨rfl, rfl⟩
          go_wp2
          go_ret
          exact ⟨by rw [HV.out]; rfl, rfl⟩
      · have b3 := u8n c 46 (by omega) true h3
        have b3 : ((c.toNat : Int) == 46) = true := b3
        have HV := Lib.hid (show goB c = true by unfold goB; simp [h1, h2, h3])
        go_enter Tryd.func85, Tryd.ntmps85
        go_wp2_with fail
        refine CL.out.mono ?_
        rintro e w2 ⟨rfl, rfl⟩
        go_wp2_with fail
        refine CD.out.mono ?_
        rintro e w2 ⟨rfl, rfl⟩
        go_wp2
        go_ret
        exact ⟨by rw [HV.out]; rfl, rfl⟩
    · rw [h2] at CD
      have CD := Lib.hid CD
      have HV := Lib.hid (show goB c = true by unfold goB; simp [h1, h2])
      go_enter Tryd.func85, Tryd.ntmps85
      go_wp2_with fail
      refine CL.out.mono ?_
      rintro e w2 ⟨rfl, rfl⟩
      go_wp2_with fail
      refine CD.out.mono ?_
      rintro e w2 ⟨rfl, rfl⟩
      go_wp2
      go_ret
      exact ⟨by rw [HV.out]; rfl, rfl⟩
  · rw [h1] at CL
    have CL := Lib.hid CL
    have HV := Lib.hid (show goB c = true by unfold goB; simp [h1])
    go_enter Tryd.func85, Tryd.ntmps85
    go_wp2_with fail
    refine CL.out.mono ?_
    rintro e w2 ⟨rfl, rfl⟩
    go_wp2
    go_ret
    exact ⟨by rw [HV.out]; rfl, rfl⟩

theorem ldigit_any (c : UInt8) (w : World) : Calls Tryd.prog 92 #[.int .u8 c.toNat] w fun e w' => e = .returned (.int .u64 (digP c : Nat)) ∧ w = w' := by
  have hc := c.toNat_lt
  have CD := isDigit_any c w
  cases h1 : digB c
  · rw [h1] at CD
    have CD := Lib.hid CD
    have key : (c.toNat < 65) ∨ (65 ≤ c.toNat ∧ c.toNat ≤ 70) ∨ (70 < c.toNat ∧ c.toNat < 97) ∨ (97 ≤ c.toNat ∧ c.toNat ≤ 102) ∨ (102 < c.toNat) := by omega
    rcases key with h | h | h | h | h
    · have HV := Lib.hid (show digP c = 256 by unfold digP; rw [if_neg (by rw [h1]; simp), if_neg (by omega), if_neg (by omega)])
      have d1 : decide ((97 : Int) ≤ c.toNat) = false := decide_eq_false (by omega)
      have d3 : decide ((65 : Int) ≤ c.toNat) = false := decide_eq_false (by omega)
      clear h
      go_enter Tryd.func92, Tryd.ntmps92
      go_wp2_with fail
      refine CD.out.mono ?_
      rintro e w2 ⟨rfl, rfl⟩
      go_wp2
      go_ret
      exact ⟨by rw [HV.out]; rfl, rfl⟩
    · have HV := Lib.hid (show digP c = c.toNat - 65 + 10 by unfold digP; rw [if_neg (by rw [h1]; simp), if_neg (by omega), if_pos (by omega)])
      have d1 : decide ((97 : Int) ≤ c.toNat) = false := decide_eq_false (by omega)
      have d3 : decide ((65 : Int) ≤ c.toNat) = true := decide_eq_true (by omega)
      have d4 : decide ((c.toNat : Int) ≤ 70) = true := decide_eq_true (by omega)
      obtain ⟨m, hm⟩ : ∃ m : Nat, (c.toNat : Int) - 65 = m := ⟨c.toNat - 65, by omega⟩
      have hm9 : (m : Int) < 6 := by omega
      have hv : ((digP c : Nat) : Int) = (m : Int) + 10 := by rw [HV.out]; omega
      have HV := Lib.hid hv
      clear hv
      clear h
      go_enter Tryd.func92, Tryd.ntmps92
      go_wp2_with fail
      refine CD.out.mono ?_
      rintro e w2 ⟨rfl, rfl⟩
      go_wp2
      go_ret
      exact ⟨by rw [HV.out]; rfl, rfl⟩
    · have HV := Lib.hid (show digP c = 256 by unfold digP; rw [if_neg (by rw [h1]; simp), if_neg (by omega), if_neg (by omega)])
      have d1 : decide ((97 : Int) ≤ c.toNat) = false := decide_eq_false (by omega)
      have d3 : decide ((65 : Int) ≤ c.toNat) = true := decide_eq_true (by omega)
      have d4 : decide ((c.toNat : Int) ≤ 70) = false := decide_eq_false (by omega)
      clear h
      go_enter Tryd.func92, Tryd.ntmps92
      go_wp2_with fail
      refine CD.out.mono ?_
      rintro e w2 ⟨rfl, rfl⟩
      go_wp2
      go_ret
      exact ⟨by rw [HV.out]; rfl, rfl⟩
    · have HV := Lib.hid (show digP c = c.toNat - 97 + 10 by unfold digP; rw [if_neg (by rw [h1]; simp), if_pos (by omega)])
      have d1 : decide ((97 : Int) ≤ c.toNat) = true := decide_eq_true (by omega)
      have d2 : decide ((c.toNat : Int) ≤ 102) = true := decide_eq_true (by omega)
      obtain ⟨m, hm⟩ : ∃ m : Nat, (c.toNat : Int) - 97 = m := ⟨c.toNat - 97, by omega⟩
      have hm9 : (m : Int) < 6 := by omega
      have hv : ((digP c : Nat) : Int) = (m : Int) + 10 := by rw [HV.out]; omega
      have HV := Lib.hid hv
      clear hv
      clear h
      go_enter Tryd.func92, Tryd.ntmps92
      go_wp2_with fail
      refine CD.out.mono ?_
      rintro e w2 ⟨rfl, rfl⟩
      go_wp2
      go_ret
      exact ⟨by rw [HV.out]; rfl, rfl⟩
    · have HV := Lib.hid (show digP c = 256 by unfold digP; rw [if_neg (by rw [h1]; simp), if_neg (by omega), if_neg (by omega)])
      have d1 : decide ((97 : Int) ≤ c.toNat) = true := decide_eq_true (by omega)
      have d2 : decide ((c.toNat : Int) ≤ 102) = false := decide_eq_false (by omega)
      have d3 : decide ((65 : Int) ≤ c.toNat) = true := decide_eq_true (by omega)
      have d4 : decide ((c.toNat : Int) ≤ 70) = false := decide_eq_false (by omega)
      clear h
      go_enter Tryd.func92, Tryd.ntmps92
      go_wp2_with fail
      refine CD.out.mono ?_
      rintro e w2 ⟨rfl, rfl⟩
      go_wp2
      go_ret
      exact ⟨by rw [HV.out]; rfl, rfl⟩
  · rw [h1] at CD
    have CD := Lib.hid CD
    have h2 : 48 ≤ c.toNat ∧ c.toNat ≤ 57 := by unfold digB at h1; simpa using h1
    obtain ⟨m, hm⟩ : ∃ m : Nat, (c.toNat : Int) - 48 = m := ⟨c.toNat - 48, by omega⟩
    have hm9 : (m : Int) < 10 := by omega
    have HV := Lib.hid (show ((digP c : Nat) : Int) = (m : Int) by unfold digP; rw [if_pos h1]; omega)
    clear h2
    go_enter Tryd.func92, Tryd.ntmps92
    go_wp2_with fail
    refine CD.out.mono ?_
    rintro e w2 ⟨rfl, rfl⟩
    go_wp2
    go_ret
    exact ⟨by rw [HV.out]; rfl, rfl⟩

/-- Bytes in memory, from a place on. -/
def BysAt (w : World) (g o : Nat) (l : List UInt8) : Prop := ∀ (k : Nat) (b : UInt8), l[k]? = some b → w.cell? ⟨g, o + k, none⟩ = some (.int .u8 b.toNat)

theorem BysAt.nx {w w' : World} {g o : Nat} {l : List UInt8} (h : BysAt w g o l) (hn : Nx w w') : BysAt w' g o l := fun k b hk => hn.cell (h k b hk)

theorem BysAt.cut {w : World} {g o : Nat} {l : List UInt8} (h : BysAt w g o l) (a : Nat) : BysAt w g (o + a) (l.drop a) := by
  intro k b hk
  rw [List.getElem?_drop] at hk
  rw [Nat.add_assoc]
  exact h _ b hk

def RetB2 (r : UInt8 × Nat) (w : World) (e : Ending) (w' : World) : Prop := e = .returned (.tuple #[.int .u8 r.1.toNat, .int .i64 (r.2 : Nat)]) ∧ w = w'

theorem bits_nib (a b : Nat) (ha : a < 16) (hb : b < 16) : bits .or .u64 ((a : Int) * 16) (b : Int) = ((a * 16 + b : Nat) : Int) := by
  have h : ((List.range 16).all fun a => (List.range 16).all fun b => bits .or .u64 (((a : Nat) : Int) * 16) ((b : Nat) : Int) == ((a * 16 + b : Nat) : Int)) = true := by decide +kernel
  exact beq_iff_eq.1 (List.all_eq_true.1 (List.all_eq_true.1 h a (List.mem_range.2 ha)) b (List.mem_range.2 hb))

end Go.Proofs.YtbkgdepblaibkaaDoor
