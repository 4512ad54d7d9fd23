/- Contracts of typecaseref10: bytes among some, digits, escapes. -/
import Derived.Test.YtbkgdepblaibkaaDoorBlkw
import Derived.Test.YtbkgdepblaibkaaDoorLexq
import Derived.Test.YtbkgdepblaibkaaDoorHas
namespace Go.Proofs.YtbkgdepblaibkaaDoor
open Go.RowKit
set_option linter.unusedVariables false
set_option linter.unusedSimpArgs false

theorem contains_drop (l : List UInt8) (c x : UInt8) (k : Nat) (h : l[k]? = some x) : (l.drop k).contains c = (c == x || (l.drop (k + 1)).contains c) := by
  obtain ⟨h1, e1⟩ := List.getElem?_eq_some_iff.1 h
  rw [List.drop_eq_getElem_cons h1, e1, List.contains_cons]

/-- A byte of a text, as the walk has it. -/
theorem byte_at (l : List UInt8) (k : Nat) (x : UInt8) (h : l[k]? = some x) : ∃ h2 : k < (B l).size, (B l)[k]'h2 = x := by
  obtain ⟨h1, e1⟩ := List.getElem?_eq_some_iff.1 h
  exact ⟨h1, e1⟩

theorem byte_eq (x c : UInt8) : ((x.toNat : Int) == (c.toNat : Int)) = (c == x) := by
  rw [Bool.eq_iff_iff]
  simp only [beq_iff_eq]
  constructor
  · intro h; exact (UInt8.toNat_inj.1 (by omega)).symm
  · intro h; rw [h]

set_option maxHeartbeats 1000000 in
theorem in_any (c : UInt8) (l : List UInt8) (w : World) (hl : l.length ≤ 1000000) :
    Calls Tryd.prog 73 #[.int .u8 c.toNat, .string (B l)] w fun e w' => e = .returned (.bool (l.contains c)) ∧ w = w' := by
  obtain ⟨V, hV⟩ : ∃ V, V = l.contains c := ⟨_, rfl⟩
  rw [← hV]
  have HV := Lib.hid hV
  clear hV
  go_enter Tryd.func73, Tryd.ntmps73
  go_wp2
  go_loop [5] (fun i => ∃ k : Nat, k ≤ l.length ∧ i = .int .i64 k ∧ Hid (V = (l.drop k).contains c)) (fun i => l.length - (intOf i).toNat)
  case atStart => exact ⟨0, Nat.zero_le _, rfl, Lib.hid (by rw [HV.out]; simp)⟩
  case round =>
    obtain ⟨k, hk, rfl, HL⟩ := hrel
    by_cases hlt : k < l.length
    · obtain ⟨x, hx⟩ : ∃ x, l[k]? = some x := ⟨_, List.getElem?_eq_getElem hlt⟩
      have hd := HL.out
      rw [contains_drop l c x k hx] at hd
      obtain ⟨h2, e2⟩ := byte_at l k x hx
      have hb := byte_eq ((B l)[k]'h2) c
      rw [e2] at hb
      cases hc : (c == x)
      · rw [hc] at hb hd
        rw [← e2] at hb
        have HD := Lib.hid (show V = (l.drop (k + 1)).contains c by rw [hd]; rfl)
        clear hd HL hx hc e2
        go_wp2
        go_round
        case rel => exact ⟨k + 1, by omega, by go_num, HD⟩
        case measure => simp [intOf]; omega
      · rw [hc] at hb hd
        rw [← e2] at hb
        have HD := Lib.hid (show V = true by rw [hd]; rfl)
        clear hd HL hx hc e2
        go_wp2
        go_ret
        exact ⟨ret_bool HD.out.symm, rfl⟩
    · have hd := HL.out
      rw [List.drop_eq_nil_of_le (by omega)] at hd
      have HD := Lib.hid (show V = false from hd)
      clear hd HL
      go_wp2
      go_ret
      exact ⟨ret_bool HD.out.symm, rfl⟩

theorem while_drop (l set : List UInt8) (x : UInt8) (k : Nat) (h : l[k]? = some x) : whileN set (l.drop k) = if set.contains x = true then 1 + whileN set (l.drop (k + 1)) else 0 := by
  obtain ⟨h1, e1⟩ := List.getElem?_eq_some_iff.1 h
  rw [List.drop_eq_getElem_cons h1, e1, whileN]

set_option maxHeartbeats 1000000 in
theorem while_any (l set : List UInt8) (w : World) (hl : l.length ≤ 1000000) (hs : set.length ≤ 1000000) :
    Calls Tryd.prog 87 #[.string (B l), .string (B set)] w fun e w' => e = .returned (.int .i64 (whileN set l : Nat)) ∧ w = w' := by
  obtain ⟨V, hV⟩ : ∃ V, V = whileN set l := ⟨_, rfl⟩
  rw [← hV]
  have HV := Lib.hid hV
  clear hV
  go_enter Tryd.func87, Tryd.ntmps87
  go_wp2
  go_loop [5] (fun i => ∃ k : Nat, k ≤ l.length ∧ i = .int .i64 k ∧ Hid (V = k + whileN set (l.drop k))) (fun i => l.length - (intOf i).toNat)
  case atStart => exact ⟨0, Nat.zero_le _, rfl, Lib.hid (by rw [HV.out]; simp)⟩
  case round =>
    obtain ⟨k, hk, rfl, HL⟩ := hrel
    by_cases hlt : k < l.length
    · obtain ⟨x, hx⟩ : ∃ x, l[k]? = some x := ⟨_, List.getElem?_eq_getElem hlt⟩
      have hd := HL.out
      rw [while_drop l set x k hx] at hd
      obtain ⟨h2, e2⟩ := byte_at l k x hx
      have C1 := in_any ((B l)[k]'h2) set w hs
      rw [e2] at C1
      cases hc : set.contains x
      · rw [hc] at C1
        rw [hc, if_neg (by simp)] at hd
        rw [← e2] at C1
        have C1 := Lib.hid C1
        have HD := Lib.hid (show V = k from hd)
        clear hd HL hx hc e2
        go_wp2_with (go_at_call 73; refine C1.out.mono ?_; rintro e w' ⟨rfl, rfl⟩)
        go_ret
        exact ⟨ret_i64' (by rw [HD.out]), rfl⟩
      · rw [hc] at C1
        rw [hc, if_pos rfl] at hd
        rw [← e2] at C1
        have C1 := Lib.hid C1
        have HD := Lib.hid (show V = k + 1 + whileN set (l.drop (k + 1)) by omega)
        clear hd HL hx hc e2
        go_wp2_with (go_at_call 73; refine C1.out.mono ?_; rintro e w' ⟨rfl, rfl⟩)
        go_round
        case rel => exact ⟨k + 1, by omega, by go_num, HD⟩
        case measure => simp [intOf]; omega
    · have hd := HL.out
      rw [List.drop_eq_nil_of_le (by omega)] at hd
      have HD := Lib.hid (show V = k from hd)
      clear hd HL
      go_wp2
      go_ret
      exact ⟨ret_i64' (by rw [HD.out]), rfl⟩

theorem ret_u64 {a b : Int} (h : a = b) : Ending.returned (.int .u64 a) = .returned (.int .u64 b) := by rw [h]

theorem digit_any (c : UInt8) (w : World) : Calls Tryd.prog 93 #[.int .u8 c.toNat] w fun e w' => e = .returned (.int .u64 (digV c : Nat)) ∧ w = w' := by
  have hc := c.toNat_lt
  have HV := Lib.hid (show digV c = if 97 ≤ c.toNat then c.toNat - 97 + 10 else if 65 ≤ c.toNat then c.toNat - 65 + 10 else (c.toNat + 208) % 256 from rfl)
  generalize digV c = V at *
  generalize c.toNat = n at *
  by_cases h1 : 97 ≤ n
  · have HD := Lib.hid (HV.out.trans (if_pos h1))
    go_enter Tryd.func93, Tryd.ntmps93
    go_wp2
    go_ret
    exact ⟨ret_u64 (by rw [HD.out]; omega), rfl⟩
  · by_cases h2 : 65 ≤ n
    · have HD := Lib.hid ((HV.out.trans (if_neg h1)).trans (if_pos h2))
      go_enter Tryd.func93, Tryd.ntmps93
      go_wp2
      go_ret
      exact ⟨ret_u64 (by rw [HD.out]; omega), rfl⟩
    · have HD := Lib.hid ((HV.out.trans (if_neg h1)).trans (if_neg h2))
      go_enter Tryd.func93, Tryd.ntmps93
      go_wp2
      go_ret
      exact ⟨ret_u64 (by rw [HD.out]; first | omega | (simp [IntKind.wrap]; omega)), rfl⟩

end Go.Proofs.YtbkgdepblaibkaaDoor
