/- Contracts of typecaseref11.Digits, typecaseref17.op, typecaseref17.in. -/
import Derived.Test.YtdgmdkkockbkjaaDoorShwe
namespace Go.Proofs.YtdgmdkkockbkjaaDoor
open Go.RowKit
set_option linter.unusedVariables false
set_option linter.unusedSimpArgs false

/-- Is a text one of them? -/
def inB (s : List UInt8) (l : List (List UInt8)) : Bool := l.contains s

theorem in17_any (s : List UInt8) (v : Value) (l : List (List UInt8)) (hl : l.length ≤ 1000) (w : World) (hR : RowS w v l) : Calls Tryd.prog 36 #[.string (B s), v] w fun e w' => e = .returned (.bool (inB s l)) ∧ w = w' := by
  obtain ⟨A, c, rfl, hA⟩ := hR
  have HA := Lib.hid hA
  have HT := Lib.hid (fun (h : ∃ k, l[k]? = some s) => (show inB s l = true from by obtain ⟨k, hk⟩ := h; unfold inB; simp; exact List.mem_of_getElem? hk))
  have HF := Lib.hid (fun (h : ∀ k, k < l.length → ¬ l[k]? = some s) => (show inB s l = false from by
    unfold inB
    cases hc : l.contains s with
    | false => rfl
    | true =>
      exfalso
      have : s ∈ l := by simpa using hc
      obtain ⟨k, hk, e⟩ := List.getElem_of_mem this
      exact h k hk (by rw [List.getElem?_eq_getElem hk, e])))
  clear hA
  go_enter Tryd.func36, Tryd.ntmps36
  go_wp2
  go_loop [5] (fun i => ∃ k : Nat, k ≤ l.length ∧ i = .int .i64 k ∧ Hid (∀ j, j < k → ¬ l[j]? = some s)) (fun i => l.length - (intOf i).toNat)
  case atStart => exact ⟨0, Nat.zero_le _, rfl, Lib.hid (fun j h => by omega)⟩
  case round =>
    obtain ⟨k, hk, rfl, HL⟩ := hrel
    by_cases hlt : k < l.length
    · obtain ⟨x, hx⟩ : ∃ x, l[k]? = some x := ⟨_, List.getElem?_eq_getElem hlt⟩
      obtain ⟨g, rfl, hg⟩ : ∃ g, A = some ⟨g, 0, none⟩ ∧ Strs w g l := by
        rcases HA.out with h | h
        · rw [h] at hlt; simp at hlt
        · exact h
      have hc := hg k x hx
      have HX := Lib.hid hx
      have d0 : decide ((k : Int) < l.length) = true := decide_eq_true (by omega)
      clear hg hx
      by_cases he : x = s
      · have bx : (x == s) = true := by simpa using he
        have HV := Lib.hid (HT.out ⟨k, by rw [HX.out, he]⟩)
        clear he
        go_wp2
        go_ret
        exact ⟨by rw [HV.out]; rfl, rfl⟩
      · have bx : (x == s) = false := by simpa using he
        have HL2 := Lib.hid (show ∀ j, j < k + 1 → ¬ l[j]? = some s from fun j h => by
          by_cases e : j = k
          · rw [e, HX.out]; exact fun h => he (Option.some.inj h)
          · exact HL.out j (by omega))
        clear he
        go_wp2
        go_round
        case rel => exact ⟨k + 1, by omega, by go_num, HL2⟩
        case measure => simp [intOf]; omega
    · obtain rfl : k = l.length := by omega
      have HV := Lib.hid (HF.out (fun j h => HL.out j h))
      go_wp2
      go_ret
      exact ⟨by rw [HV.out]; rfl, rfl⟩

theorem op17_any (s : List UInt8) (w : World) : Calls Tryd.prog 35 #[.string (B s)] w fun e w' => e = .returned (.int .i64 (opP s : Nat)) ∧ Nx w w' := by
  have HF := Lib.hid (op_found s)
  have HO := Lib.hid (op_none s)
  go_enter Tryd.func35, Tryd.ntmps35
  go_wp2_with fail
  refine (names_any _).mono ?_
  rintro e w2 ⟨rfl, hS, hn2⟩
  have HN := Lib.hid hS
  have H2 := Lib.hid hn2
  have hz2 : w.heap.size ≤ w2.heap.size := hn2.size
  clear hS hn2
  go_wp2
  go_loop [4] (fun i => ∃ k : Nat, 1 ≤ k ∧ k ≤ 49 ∧ i = .int .i64 k ∧ Hid (∀ j, 1 ≤ j → j < k → ¬ nmB.getD j [] = s)) (fun i => 49 - (intOf i).toNat)
  case atStart => exact ⟨1, by omega, by omega, rfl, Lib.hid (fun j h1 h2 => by omega)⟩
  case round =>
    obtain ⟨k, hk1, hk2, rfl, HL⟩ := hrel
    by_cases hlt : k < 49
    · have hc := HN.out k _ (nmB_at k hlt)
      have HF2 := Lib.hid (HF.out k hk1 (by omega))
      have HL2 := Lib.hid (fun (hne : ¬ nmB.getD k [] = s) => (fun j h1 (h2 : j < k + 1) => by
        by_cases e : j = k
        · rw [e]; exact hne
        · exact HL.out j h1 (by omega) : ∀ j, 1 ≤ j → j < k + 1 → ¬ nmB.getD j [] = s))
      generalize nmB.getD k [] = x at *
      by_cases hx : x = s
      · have bx : (x == s) = true := by simpa using hx
        have HV := Lib.hid (HF2.out hx)
        clear hx
        go_wp2
        go_ret
        exact ⟨by rw [HV.out]; rfl, H2.out⟩
      · have bx : (x == s) = false := by simpa using hx
        have HL3 := HL2.out hx
        have HL4 := Lib.hid HL3
        clear hx HL3
        go_wp2
        go_round
        case rel => exact ⟨k + 1, by omega, by omega, by go_num, HL4⟩
        case measure => simp [intOf]; omega
    · obtain rfl : k = 49 := by omega
      have HV := Lib.hid (HO.out (fun j h1 h2 => HL.out j h1 (by omega)))
      go_wp2
      go_ret
      exact ⟨by rw [HV.out]; rfl, H2.out⟩

theorem dec_step (u : Nat) (h : ¬ u < 10) : Lib.decDigits u = Lib.decDigits (u / 10) ++ [UInt8.ofNat (48 + u % 10)] := by
  rw [Lib.decDigits, dif_neg h]

/-- Digits, of a number below 0. -/
theorem digits_neg (m : Nat) (hm : m ≤ 4294967296) (h0 : 0 < m) (w : World) :
    Calls Tryd.prog 45 #[.int .i64 (-(m : Int))] w fun e w' => e = .returned (.string (B (Lib.itoa (-(m : Int))))) ∧ w = w' := by
  have HV := Lib.hid (show [45] ++ Lib.decDigits m = Lib.itoa (-(m : Int)) by
    unfold Lib.itoa
    rw [if_pos (by omega)]
    simp)
  have HD := Lib.hid dig_one
  have HS := Lib.hid dec_step
  have HL := Lib.hid (show (Lib.decDigits m).length ≤ 11 by have := itoa_len m (by omega) (by omega); unfold Lib.itoa at this; rw [if_neg (by omega)] at this; simpa using this)
  have d0 : decide (0 ≤ -(m : Int)) = false := decide_eq_false (by omega)
  go_enter Tryd.func45, Tryd.ntmps45
  go_wp2
  go_loop [0, 4] (fun i v => ∃ (k : Nat) (t : List UInt8), i = .int .i64 (-(k : Int)) ∧ v = .string (B t) ∧ Hid (k ≤ m ∧ (∀ l, l = Lib.decDigits k → l ++ t = Lib.decDigits m))) (fun i _ => (-(intOf i)).toNat)
  case atStart => exact ⟨m, [], rfl, rfl, Lib.hid ⟨Nat.le_refl _, fun l e => by rw [e]; simp⟩⟩
  case round =>
    obtain ⟨k, t, rfl, rfl, HK⟩ := hrel
    have hk := HK.out.1
    have hkm : k ≤ 4294967296 := by omega
    have ht := congrArg List.length (HK.out.2 _ rfl)
    have hl := HL.out
    rw [List.length_append] at ht
    have htl : t.length ≤ 11 := by omega
    have hqm : k / 10 ≤ m := by omega
    clear ht hl hk
    obtain ⟨r, hr⟩ : ∃ r, k % 10 = r := ⟨_, rfl⟩
    obtain ⟨q, hq⟩ : ∃ q, k / 10 = q := ⟨_, rfl⟩
    have hr9 : r < 10 := by omega
    have h1 := dig_one r hr9
    have hrI : (k : Int) % 10 = r := by omega
    have hqI : (k : Int) / 10 = q := by omega
    have HR := Lib.hid hr
    have HQ := Lib.hid hq
    have HQM := Lib.hid (hq ▸ hqm)
    have a1 := app_B [UInt8.ofNat (48 + r)] t
    have z1 : [UInt8.ofNat (48 + r)].length = 1 := rfl
    obtain ⟨d, hd⟩ : ∃ d, [UInt8.ofNat (48 + r)] = d := ⟨_, rfl⟩
    rw [hd] at h1 a1 z1
    have HDD := Lib.hid hd
    have s1 : (B d).size + (B t).size ≤ 9223372036854775807 := by show d.length + t.length ≤ _; omega
    have s2 : ¬ 9223372036854775807 < 1 + (d ++ t).length := by simp; omega
    clear hd hr hq hqm
    by_cases hz : q = 0
    · subst hz
      have a2 := app_B [45] (d ++ t)
      have HF := Lib.hid (show [45] ++ (d ++ t) = [45] ++ Lib.decDigits m by
        rw [← HDD.out, ← HR.out]
        refine congrArg _ (HK.out.2 _ ?_)
        have hk9 : k < 10 := by have := HQ.out; omega
        rw [Lib.decDigits_one hk9, Nat.mod_eq_of_lt hk9])
      have hk9 : k < 10 := by have := HQ.out; omega
      generalize d ++ t = x at *
      clear htl z1 hk9 hkm
      go_wp2
      go_ret
      refine ⟨?_, rfl⟩
      rw [← HV.out, ← HF.out]
      rfl
    · have e0 : ((-(q : Int)) == 0) = false := by rw [beq_eq_false_iff_ne]; omega
      have HN := Lib.hid (show q ≤ m ∧ ∀ l, l = Lib.decDigits q → l ++ (d ++ t) = Lib.decDigits m from ⟨HQM.out, fun l e => by
        rw [e, ← List.append_assoc]
        refine HK.out.2 _ ?_
        rw [HS.out k (by have := HQ.out; omega), HQ.out, HR.out, HDD.out]⟩)
      have hlt : q < k := by have := HQ.out; omega
      generalize d ++ t = x at *
      go_wp2
      go_round
      case rel => exact ⟨q, x, rfl, rfl, HN⟩
      case measure => simp [intOf]; omega

/-- Digits, of a number from 0 on. -/
theorem digits_pos (m : Nat) (hm : m ≤ 4294967296) (w : World) :
    Calls Tryd.prog 45 #[.int .i64 m] w fun e w' => e = .returned (.string (B (Lib.itoa m))) ∧ w = w' := by
  have HV := Lib.hid (show [] ++ Lib.decDigits m = Lib.itoa m by
    unfold Lib.itoa
    rw [if_neg (by omega)]
    simp)
  have HD := Lib.hid dig_one
  have HS := Lib.hid dec_step
  have HL := Lib.hid (show (Lib.decDigits m).length ≤ 11 by have := itoa_len m (by omega) (by omega); unfold Lib.itoa at this; rw [if_neg (by omega)] at this; simpa using this)
  go_enter Tryd.func45, Tryd.ntmps45
  go_wp2
  go_loop [0, 4] (fun i v => ∃ (k : Nat) (t : List UInt8), i = .int .i64 (-(k : Int)) ∧ v = .string (B t) ∧ Hid (k ≤ m ∧ (∀ l, l = Lib.decDigits k → l ++ t = Lib.decDigits m))) (fun i _ => (-(intOf i)).toNat)
  case atStart => exact ⟨m, [], rfl, rfl, Lib.hid ⟨Nat.le_refl _, fun l e => by rw [e]; simp⟩⟩
  case round =>
    obtain ⟨k, t, rfl, rfl, HK⟩ := hrel
    have hk := HK.out.1
    have hkm : k ≤ 4294967296 := by omega
    have ht := congrArg List.length (HK.out.2 _ rfl)
    have hl := HL.out
    rw [List.length_append] at ht
    have htl : t.length ≤ 11 := by omega
    have hqm : k / 10 ≤ m := by omega
    clear ht hl hk
    obtain ⟨r, hr⟩ : ∃ r, k % 10 = r := ⟨_, rfl⟩
    obtain ⟨q, hq⟩ : ∃ q, k / 10 = q := ⟨_, rfl⟩
    have hr9 : r < 10 := by omega
    have h1 := dig_one r hr9
    have hrI : (k : Int) % 10 = r := by omega
    have hqI : (k : Int) / 10 = q := by omega
    have HR := Lib.hid hr
    have HQ := Lib.hid hq
    have HQM := Lib.hid (hq ▸ hqm)
    have a1 := app_B [UInt8.ofNat (48 + r)] t
    have z1 : [UInt8.ofNat (48 + r)].length = 1 := rfl
    obtain ⟨d, hd⟩ : ∃ d, [UInt8.ofNat (48 + r)] = d := ⟨_, rfl⟩
    rw [hd] at h1 a1 z1
    have HDD := Lib.hid hd
    have s1 : (B d).size + (B t).size ≤ 9223372036854775807 := by show d.length + t.length ≤ _; omega
    have s2 : ¬ 9223372036854775807 < (d ++ t).length := by simp; omega
    clear hd hr hq hqm
    by_cases hz : q = 0
    · subst hz
      have a2 := app_B [] (d ++ t)
      have HF := Lib.hid (show [] ++ (d ++ t) = [] ++ Lib.decDigits m by
        rw [← HDD.out, ← HR.out]
        refine congrArg _ (HK.out.2 _ ?_)
        have hk9 : k < 10 := by have := HQ.out; omega
        rw [Lib.decDigits_one hk9, Nat.mod_eq_of_lt hk9])
      have hk9 : k < 10 := by have := HQ.out; omega
      generalize d ++ t = x at *
      clear htl z1 hk9 hkm
      go_wp2
      go_ret
      refine ⟨?_, rfl⟩
      rw [← HV.out, ← HF.out]
      rfl
    · have e0 : ((-(q : Int)) == 0) = false := by rw [beq_eq_false_iff_ne]; omega
      have HN := Lib.hid (show q ≤ m ∧ ∀ l, l = Lib.decDigits q → l ++ (d ++ t) = Lib.decDigits m from ⟨HQM.out, fun l e => by
        rw [e, ← List.append_assoc]
        refine HK.out.2 _ ?_
        rw [HS.out k (by have := HQ.out; omega), HQ.out, HR.out, HDD.out]⟩)
      have hlt : q < k := by have := HQ.out; omega
      generalize d ++ t = x at *
      go_wp2
      go_round
      case rel => exact ⟨q, x, rfl, rfl, HN⟩
      case measure => simp [intOf]; omega

theorem digits_any (n : Int) (h0 : -4294967296 ≤ n) (h1 : n ≤ 4294967296) (w : World) :
    Calls Tryd.prog 45 #[.int .i64 n] w fun e w' => e = .returned (.string (B (Lib.itoa n))) ∧ w = w' := by
  by_cases h : 0 ≤ n
  · obtain ⟨m, rfl⟩ : ∃ m : Nat, n = m := ⟨n.toNat, by omega⟩
    exact digits_pos m (by omega) w
  · obtain ⟨m, rfl⟩ : ∃ m : Nat, n = -(m : Int) := ⟨(-n).toNat, by omega⟩
    exact digits_neg m (by omega) (by omega) w

theorem digits23_any (n : Int) (h0 : -4294967296 ≤ n) (h1 : n ≤ 4294967296) (w : World) :
    Calls Tryd.prog 38 #[.int .i64 n] w fun e w' => e = .returned (.string (B (Lib.itoa n))) ∧ w = w' := by
  go_enter Tryd.func38, Tryd.ntmps38
  go_wp2_with fail
  refine (digits_any n h0 h1 w).mono ?_
  rintro e w2 ⟨rfl, rfl⟩
  go_wp2
  go_ret
  exact ⟨rfl, rfl⟩

end Go.Proofs.YtdgmdkkockbkjaaDoor
