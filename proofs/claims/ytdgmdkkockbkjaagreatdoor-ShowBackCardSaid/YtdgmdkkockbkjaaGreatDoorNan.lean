/- Contracts: registers by their names. -/
import Derived.Test.YtdgmdkkockbkjaaGreatDoorNam
namespace Go.Proofs.YtdgmdkkockbkjaaGreatDoor
open Go.RowKit
set_option linter.unusedVariables false
set_option linter.unusedSimpArgs false

def RetReg (s : List UInt8) (w : World) (e : Ending) (w' : World) : Prop := e = .returned (.tuple #[.int .i64 ((regP s).getD 0 : Nat), .bool (regP s).isSome]) ∧ w = w'

theorem ret_reg {s : List UInt8} {w : World} {n : Nat} (h : regP s = some n) : RetReg s w (.returned (.tuple #[.int .i64 n, .bool true])) w := by
  unfold RetReg; rw [h]; exact ⟨rfl, rfl⟩

theorem ret_noreg {s : List UInt8} {w : World} (h : regP s = none) : RetReg s w (.returned (.tuple #[.int .i64 0, .bool false])) w := by
  unfold RetReg; rw [h]; exact ⟨rfl, rfl⟩

theorem app_B (a b : List UInt8) : B a ++ B b = B (a ++ b) := by
  apply ByteArray.ext
  rw [ByteArray.data_append]
  simp

theorem mem_regNs (n : Nat) (s : List UInt8) : s ∈ regNs n ↔ regT.getD n [] = s ∨ 120 :: numT n = s ∨ (n = 8 ∧ s = [102, 112]) := by
  unfold regNs
  split
  · rename_i h; subst h
    simp only [List.mem_cons, List.not_mem_nil, or_false]
    constructor
    · rintro (h | h | h)
      · exact Or.inl h.symm
      · exact Or.inr (Or.inl h.symm)
      · exact Or.inr (Or.inr ⟨trivial, h⟩)
    · rintro (h | h | ⟨_, h⟩)
      · exact Or.inl h.symm
      · exact Or.inr (Or.inl h.symm)
      · exact Or.inr (Or.inr h)
  · rename_i h8
    simp only [List.mem_cons, List.not_mem_nil, or_false]
    constructor
    · rintro (h | h)
      · exact Or.inl h.symm
      · exact Or.inr (Or.inl h.symm)
    · rintro (h | h | ⟨h, _⟩)
      · exact Or.inl h.symm
      · exact Or.inr h.symm
      · exact absurd h h8

theorem dig_one : ∀ r < 10, (⟨#[48, 49, 50, 51, 52, 53, 54, 55, 56, 57]⟩ : ByteArray).extract r (r + 1) = B [UInt8.ofNat (48 + r)] := by
  intro r hr
  have h : ((List.range 10).all fun k => ((⟨#[48, 49, 50, 51, 52, 53, 54, 55, 56, 57]⟩ : ByteArray).extract k (k + 1)).data.toList == [UInt8.ofNat (48 + k)]) = true := by decide +kernel
  exact bytes_ext (beq_iff_eq.1 (List.all_eq_true.1 h r (List.mem_range.2 hr)))

theorem num_any (s : List UInt8) (k : Nat) (hk : k < 100) (hs : s.length ≤ 1000) (w : World) : Calls Tryz.prog 61 #[.string (B s), .int .i64 k] w fun e w' => e = .returned (.string (B (s ++ numT k))) ∧ w = w' := by
  by_cases h : k < 10
  · have HV := Lib.hid (show B (s ++ [UInt8.ofNat (48 + k)]) = B (s ++ numT k) by congr 2; unfold numT; rw [if_pos h])
    have d0 : decide ((10 : Int) ≤ k) = false := decide_eq_false (by omega)
    have hm : (k : Int) % 10 = k := by omega
    have hkI : (k : Int) < 10 := by omega
    have h1 := dig_one k h
    have h2 := app_B s [UInt8.ofNat (48 + k)]
    have h3 : (B s).size + (B [UInt8.ofNat (48 + k)]).size ≤ 9223372036854775807 := by show s.length + 1 ≤ _; omega
    generalize [UInt8.ofNat (48 + k)] = d at *
    clear hs
    go_enter Tryz.func61, Tryz.ntmps61
    go_wp2
    go_ret
    exact ⟨ret_str HV.out, rfl⟩
  · have HV := Lib.hid (show B ((s ++ [UInt8.ofNat (48 + k / 10)]) ++ [UInt8.ofNat (48 + k % 10)]) = B (s ++ numT k) by rw [List.append_assoc]; congr 2; unfold numT; rw [if_neg h]; rfl)
    have d0 : decide ((10 : Int) ≤ k) = true := decide_eq_true (by omega)
    have h1 := dig_one (k / 10) (by omega)
    have h2 := dig_one (k % 10) (by omega)
    have h3 := app_B s [UInt8.ofNat (48 + k / 10)]
    have h4 := app_B (s ++ [UInt8.ofNat (48 + k / 10)]) [UInt8.ofNat (48 + k % 10)]
    have h5 : (B s).size + (B [UInt8.ofNat (48 + k / 10)]).size ≤ 9223372036854775807 := by show s.length + 1 ≤ _; omega
    have h6 : (B (s ++ [UInt8.ofNat (48 + k / 10)])).size + (B [UInt8.ofNat (48 + k % 10)]).size ≤ 9223372036854775807 := by show (s ++ _).length + 1 ≤ _; simp; omega
    obtain ⟨q, hq⟩ : ∃ q, k / 10 = q := ⟨_, rfl⟩
    obtain ⟨r, hr⟩ : ∃ r, k % 10 = r := ⟨_, rfl⟩
    have hqI : (k : Int) / 10 = q := by omega
    have hrI : (k : Int) % 10 = r := by omega
    rw [hq] at HV h1 h3 h4 h5 h6
    rw [hr] at HV h2 h4 h6
    have hq9 : q < 10 := by omega
    have hr9 : r < 10 := by omega
    have hq9I : (q : Int) < 10 := by omega
    have hr9I : (r : Int) < 10 := by omega
    generalize [UInt8.ofNat (48 + q)] = d at *
    generalize [UInt8.ofNat (48 + r)] = d2 at *
    generalize s ++ d = sd at *
    clear hs hq hr
    go_enter Tryz.func61, Tryz.ntmps61
    go_wp2
    go_ret
    exact ⟨ret_str HV.out, rfl⟩

theorem rregName_t (k : Nat) (h1 : 5 ≤ k) (h2 : k < 8) (w : World) : Calls Tryz.prog 62 #[.int .i64 k] w fun e w' => e = .returned (.string (B (regT.getD k []))) ∧ w = w' := by
  have d0 : decide ((k : Int) < 0) = false := decide_eq_false (by omega)
  have d1 : decide ((31 : Int) < k) = false := decide_eq_false (by omega)
  have e5 : decide ((k : Int) < 5) = false := decide_eq_false (by omega)
  have e8 : decide ((k : Int) < 8) = true := decide_eq_true (by omega)
  have e10 : decide ((k : Int) < 10) = true := decide_eq_true (by omega)
  have e18 : decide ((k : Int) < 18) = true := decide_eq_true (by omega)
  have e28 : decide ((k : Int) < 28) = true := decide_eq_true (by omega)
  obtain ⟨j, hj⟩ : ∃ j, k - 5 = j := ⟨_, rfl⟩
  have hjI : (k : Int) - 5 = j := by omega
  have HV := Lib.hid (show regT.getD k [] = 116 :: numT j by
    have h : ((List.range 8).all fun k => k < 5 || regT.getD k [] == 116 :: numT (k - 5)) = true := by decide +kernel
    have := List.all_eq_true.1 h k (List.mem_range.2 h2)
    rw [Bool.or_eq_true] at this
    rcases this with h | h
    · exact absurd (of_decide_eq_true h) (by omega)
    · rw [← hj]; exact beq_iff_eq.1 h)
  have C := Lib.hid (num_any [116] j (by omega) (by simp) w)
  clear hj
  go_enter Tryz.func62, Tryz.ntmps62
  go_wp2_with fail
  refine C.out.mono ?_
  rintro e w2 ⟨rfl, rfl⟩
  go_wp2
  go_ret
  exact ⟨ret_str (by rw [HV.out]), rfl⟩

theorem rregName_s (k : Nat) (h1 : 8 ≤ k) (h2 : k < 10) (w : World) : Calls Tryz.prog 62 #[.int .i64 k] w fun e w' => e = .returned (.string (B (regT.getD k []))) ∧ w = w' := by
  have d0 : decide ((k : Int) < 0) = false := decide_eq_false (by omega)
  have d1 : decide ((31 : Int) < k) = false := decide_eq_false (by omega)
  have e5 : decide ((k : Int) < 5) = false := decide_eq_false (by omega)
  have e8 : decide ((k : Int) < 8) = false := decide_eq_false (by omega)
  have e10 : decide ((k : Int) < 10) = true := decide_eq_true (by omega)
  have e18 : decide ((k : Int) < 18) = true := decide_eq_true (by omega)
  have e28 : decide ((k : Int) < 28) = true := decide_eq_true (by omega)
  obtain ⟨j, hj⟩ : ∃ j, k - 8 = j := ⟨_, rfl⟩
  have hjI : (k : Int) - 8 = j := by omega
  have HV := Lib.hid (show regT.getD k [] = 115 :: numT j by
    have h : ((List.range 10).all fun k => k < 8 || regT.getD k [] == 115 :: numT (k - 8)) = true := by decide +kernel
    have := List.all_eq_true.1 h k (List.mem_range.2 h2)
    rw [Bool.or_eq_true] at this
    rcases this with h | h
    · exact absurd (of_decide_eq_true h) (by omega)
    · rw [← hj]; exact beq_iff_eq.1 h)
  have C := Lib.hid (num_any [115] j (by omega) (by simp) w)
  clear hj
  go_enter Tryz.func62, Tryz.ntmps62
  go_wp2_with fail
  refine C.out.mono ?_
  rintro e w2 ⟨rfl, rfl⟩
  go_wp2
  go_ret
  exact ⟨ret_str (by rw [HV.out]), rfl⟩

theorem rregName_a (k : Nat) (h1 : 10 ≤ k) (h2 : k < 18) (w : World) : Calls Tryz.prog 62 #[.int .i64 k] w fun e w' => e = .returned (.string (B (regT.getD k []))) ∧ w = w' := by
  have d0 : decide ((k : Int) < 0) = false := decide_eq_false (by omega)
  have d1 : decide ((31 : Int) < k) = false := decide_eq_false (by omega)
  have e5 : decide ((k : Int) < 5) = false := decide_eq_false (by omega)
  have e8 : decide ((k : Int) < 8) = false := decide_eq_false (by omega)
  have e10 : decide ((k : Int) < 10) = false := decide_eq_false (by omega)
  have e18 : decide ((k : Int) < 18) = true := decide_eq_true (by omega)
  have e28 : decide ((k : Int) < 28) = true := decide_eq_true (by omega)
  obtain ⟨j, hj⟩ : ∃ j, k - 10 = j := ⟨_, rfl⟩
  have hjI : (k : Int) - 10 = j := by omega
  have HV := Lib.hid (show regT.getD k [] = 97 :: numT j by
    have h : ((List.range 18).all fun k => k < 10 || regT.getD k [] == 97 :: numT (k - 10)) = true := by decide +kernel
    have := List.all_eq_true.1 h k (List.mem_range.2 h2)
    rw [Bool.or_eq_true] at this
    rcases this with h | h
    · exact absurd (of_decide_eq_true h) (by omega)
    · rw [← hj]; exact beq_iff_eq.1 h)
  have C := Lib.hid (num_any [97] j (by omega) (by simp) w)
  clear hj
  go_enter Tryz.func62, Tryz.ntmps62
  go_wp2_with fail
  refine C.out.mono ?_
  rintro e w2 ⟨rfl, rfl⟩
  go_wp2
  go_ret
  exact ⟨ret_str (by rw [HV.out]), rfl⟩

theorem rregName_v (k : Nat) (h1 : 18 ≤ k) (h2 : k < 28) (w : World) : Calls Tryz.prog 62 #[.int .i64 k] w fun e w' => e = .returned (.string (B (regT.getD k []))) ∧ w = w' := by
  have d0 : decide ((k : Int) < 0) = false := decide_eq_false (by omega)
  have d1 : decide ((31 : Int) < k) = false := decide_eq_false (by omega)
  have e5 : decide ((k : Int) < 5) = false := decide_eq_false (by omega)
  have e8 : decide ((k : Int) < 8) = false := decide_eq_false (by omega)
  have e10 : decide ((k : Int) < 10) = false := decide_eq_false (by omega)
  have e18 : decide ((k : Int) < 18) = false := decide_eq_false (by omega)
  have e28 : decide ((k : Int) < 28) = true := decide_eq_true (by omega)
  obtain ⟨j, hj⟩ : ∃ j, k - 16 = j := ⟨_, rfl⟩
  have hjI : (k : Int) - 16 = j := by omega
  have HV := Lib.hid (show regT.getD k [] = 115 :: numT j by
    have h : ((List.range 28).all fun k => k < 18 || regT.getD k [] == 115 :: numT (k - 16)) = true := by decide +kernel
    have := List.all_eq_true.1 h k (List.mem_range.2 h2)
    rw [Bool.or_eq_true] at this
    rcases this with h | h
    · exact absurd (of_decide_eq_true h) (by omega)
    · rw [← hj]; exact beq_iff_eq.1 h)
  have C := Lib.hid (num_any [115] j (by omega) (by simp) w)
  clear hj
  go_enter Tryz.func62, Tryz.ntmps62
  go_wp2_with fail
  refine C.out.mono ?_
  rintro e w2 ⟨rfl, rfl⟩
  go_wp2
  go_ret
  exact ⟨ret_str (by rw [HV.out]), rfl⟩

theorem rregName_u (k : Nat) (h1 : 28 ≤ k) (h2 : k < 32) (w : World) : Calls Tryz.prog 62 #[.int .i64 k] w fun e w' => e = .returned (.string (B (regT.getD k []))) ∧ w = w' := by
  have d0 : decide ((k : Int) < 0) = false := decide_eq_false (by omega)
  have d1 : decide ((31 : Int) < k) = false := decide_eq_false (by omega)
  have e5 : decide ((k : Int) < 5) = false := decide_eq_false (by omega)
  have e8 : decide ((k : Int) < 8) = false := decide_eq_false (by omega)
  have e10 : decide ((k : Int) < 10) = false := decide_eq_false (by omega)
  have e18 : decide ((k : Int) < 18) = false := decide_eq_false (by omega)
  have e28 : decide ((k : Int) < 28) = false := decide_eq_false (by omega)
  obtain ⟨j, hj⟩ : ∃ j, k - 25 = j := ⟨_, rfl⟩
  have hjI : (k : Int) - 25 = j := by omega
  have HV := Lib.hid (show regT.getD k [] = 116 :: numT j by
    have h : ((List.range 32).all fun k => k < 28 || regT.getD k [] == 116 :: numT (k - 25)) = true := by decide +kernel
    have := List.all_eq_true.1 h k (List.mem_range.2 h2)
    rw [Bool.or_eq_true] at this
    rcases this with h | h
    · exact absurd (of_decide_eq_true h) (by omega)
    · rw [← hj]; exact beq_iff_eq.1 h)
  have C := Lib.hid (num_any [116] j (by omega) (by simp) w)
  clear hj
  go_enter Tryz.func62, Tryz.ntmps62
  go_wp2_with fail
  refine C.out.mono ?_
  rintro e w2 ⟨rfl, rfl⟩
  go_wp2
  go_ret
  exact ⟨ret_str (by rw [HV.out]), rfl⟩

theorem rregName_lo (k : Nat) (h2 : k < 5) (w : World) : Calls Tryz.prog 62 #[.int .i64 k] w fun e w' => e = .returned (.string (B (regT.getD k []))) ∧ Nx w w' := by
  rcases (by omega : k = 0 ∨ k = 1 ∨ k = 2 ∨ k = 3 ∨ k = 4) with rfl | rfl | rfl | rfl | rfl
  all_goals
    go_enter Tryz.func62, Tryz.ntmps62
    go_wp2
    go_ret
    exact ⟨rfl, (Nx.refl w).alloc _⟩

theorem rregName_any (n : Int) (w : World) : Calls Tryz.prog 62 #[.int .i64 n] w fun e w' => e = .returned (.string (B (regNP n))) ∧ Nx w w' := by
  by_cases h : n < 0 ∨ 32 ≤ n
  · have HV := Lib.hid (show regNP n = [] from if_pos h)
    by_cases h1 : n < 0
    · have d1 : decide (n < 0) = true := decide_eq_true h1
      go_enter Tryz.func62, Tryz.ntmps62
      go_wp2
      go_ret
      exact ⟨by rw [HV.out]; rfl, Nx.refl w⟩
    · have d1 : decide (n < 0) = false := decide_eq_false h1
      have d2 : decide (31 < n) = true := decide_eq_true (by omega)
      go_enter Tryz.func62, Tryz.ntmps62
      go_wp2
      go_ret
      exact ⟨by rw [HV.out]; rfl, Nx.refl w⟩
  · obtain ⟨k, rfl⟩ : ∃ k : Nat, n = k := ⟨n.toNat, by omega⟩
    rw [show regNP k = regT.getD k [] from if_neg h]
    by_cases h1 : k < 5
    · exact rregName_lo k h1 w
    · have all : Calls Tryz.prog 62 #[.int .i64 k] w fun e w' => e = .returned (.string (B (regT.getD k []))) ∧ w = w' := by
        by_cases h2 : k < 8
        · exact rregName_t k (by omega) h2 w
        · by_cases h3 : k < 10
          · exact rregName_s k (by omega) h3 w
          · by_cases h4 : k < 18
            · exact rregName_a k (by omega) h4 w
            · by_cases h5 : k < 28
              · exact rregName_v k (by omega) h5 w
              · exact rregName_u k (by omega) (by omega) w
      exact all.mono fun e w' ⟨h, hw⟩ => ⟨h, Nx.of_eq hw⟩

def RetRegN (s : List UInt8) (w : World) (e : Ending) (w' : World) : Prop := e = .returned (.tuple #[.int .i64 ((regP s).getD 0 : Nat), .bool (regP s).isSome]) ∧ Nx w w'

theorem ret_regN {s : List UInt8} {w w' : World} {n : Nat} (h : regP s = some n) (hn : Nx w w') : RetRegN s w (.returned (.tuple #[.int .i64 n, .bool true])) w' := by
  unfold RetRegN; rw [h]; exact ⟨rfl, hn⟩

theorem ret_noregN {s : List UInt8} {w w' : World} (h : regP s = none) (hn : Nx w w') : RetRegN s w (.returned (.tuple #[.int .i64 0, .bool false])) w' := by
  unfold RetRegN; rw [h]; exact ⟨rfl, hn⟩

set_option maxHeartbeats 1000000 in
theorem rreg2_any (s : List UInt8) (w : World) : Calls Tryz.prog 38 #[.string (B s)] w (RetRegN s w) := by
  have HF := Lib.hid (fun n hn h => reg_found s n hn ((mem_regNs n s).2 h))
  have HO := Lib.hid (fun (hfp : ¬ s = [102, 112]) (h : ∀ n, n < 32 → ¬ regT.getD n [] = s ∧ ¬ 120 :: numT n = s) => reg_none s (fun n hn hm => by
    rcases (mem_regNs n s).1 hm with h1 | h1 | h1
    · exact (h n hn).1 h1
    · exact (h n hn).2 h1
    · exact hfp h1.2))
  go_enter Tryz.func38, Tryz.ntmps38
  go_wp2
  go_loopw [4] (fun i wr => ∃ k : Nat, k ≤ 32 ∧ i = .int .i64 k ∧ Hid (∀ n, n < k → ¬ regT.getD n [] = s ∧ ¬ 120 :: numT n = s) ∧ Nx w wr) (fun i _ => 32 - (intOf i).toNat)
  case atStart => exact ⟨0, by omega, rfl, Lib.hid (fun j h1 => by omega), Nx.refl w⟩
  case round =>
    obtain ⟨k, hk2, rfl, HL, hnx⟩ := hrel
    have HNX := Lib.hid hnx
    clear hnx
    by_cases hlt : k < 32
    · have CN := Lib.hid (num_any [120] k (by omega) (by simp) wr)
      have CR := Lib.hid (rregName_any k wr)
      rw [show regNP k = regT.getD k [] from if_neg (by omega)] at CR
      rw [show [120] ++ numT k = 120 :: numT k from rfl] at CN
      have HF2 := Lib.hid (HF.out k (by omega))
      have HL2 := Lib.hid (fun (h1 : ¬ regT.getD k [] = s) (h2 : ¬ 120 :: numT k = s) => (fun j (h3 : j < k + 1) => by
        by_cases e : j = k
        · rw [e]; exact ⟨h1, h2⟩
        · exact HL.out j (by omega) : ∀ j, j < k + 1 → ¬ regT.getD j [] = s ∧ ¬ 120 :: numT j = s))
      generalize 120 :: numT k = y at *
      generalize regT.getD k [] = x at *
      by_cases hys : y = s
      · have bxy : (y == s) = true := by simpa using hys
        have HV := Lib.hid (HF2.out (Or.inr (Or.inl hys)))
        clear hys
        go_wp2_with fail
        refine CN.out.mono ?_
        rintro e w2 ⟨rfl, rfl⟩
        go_wp2
        go_ret2
        exact ret_regN HV.out HNX.out
      · have bxy : (y == s) = false := by simpa using hys
        by_cases hxs : x = s
        · have bx : (x == s) = true := by simpa using hxs
          have HV := Lib.hid (HF2.out (Or.inl hxs))
          clear hxs hys
          go_wp2_with fail
          refine CN.out.mono ?_
          rintro e w2 ⟨rfl, rfl⟩
          go_wp2_with fail
          refine CR.out.mono ?_
          rintro e w2 ⟨rfl, hn2⟩
          have HN2 := Lib.hid (HNX.out.trans hn2)
          clear hn2
          go_wp2
          go_ret2
          exact ret_regN HV.out HN2.out
        · have bx : (x == s) = false := by simpa using hxs
          have HL3 := Lib.hid (HL2.out hxs hys)
          clear hxs hys
          go_wp2_with fail
          refine CN.out.mono ?_
          rintro e w2 ⟨rfl, rfl⟩
          go_wp2_with fail
          refine CR.out.mono ?_
          rintro e w2 ⟨rfl, hn2⟩
          have HN2 := Lib.hid (HNX.out.trans hn2)
          clear hn2
          go_wp2
          go_roundw
          case rel => exact ⟨k + 1, by omega, by go_num, HL3, HN2.out⟩
          case measure => simp [intOf]; omega
    · obtain rfl : k = 32 := by omega
      by_cases hfp : s = [102, 112]
      · have HV := Lib.hid (reg_found s 8 (by omega) ((mem_regNs 8 s).2 (Or.inr (Or.inr ⟨rfl, hfp⟩))))
        have b0 : (s == [102, 112]) = true := by simpa using hfp
        clear hfp
        go_wp2
        go_ret2
        exact ret_regN HV.out HNX.out
      · have b0 : (s == [102, 112]) = false := by simpa using hfp
        have HV := Lib.hid (HO.out hfp HL.out)
        clear hfp
        go_wp2
        go_ret2
        exact ret_noregN HV.out HNX.out

end Go.Proofs.YtdgmdkkockbkjaaGreatDoor
