/- Contracts of typecaseref10: numbers. -/
import Derived.Test.YtbkgdepblaibkaaDoorRtc
namespace Go.Proofs.YtbkgdepblaibkaaDoor
open Go.RowKit
set_option linter.unusedVariables false
set_option linter.unusedSimpArgs false

theorem ext_take (l : List UInt8) (k : Nat) : ((B l).extract 0 k).toList = l.take k := by
  rw [ByteArray.toList_eq]
  simp [ByteArray.data_extract]

theorem ext_drop (l : List UInt8) (k : Nat) (h : k ≤ l.length) : (B l).extract k l.length = B (l.drop k) := by
  apply ByteArray.ext
  rw [ByteArray.data_extract]
  simp
  exact List.take_of_length_le (by rw [List.length_drop]; exact Nat.le_refl _)

def RetUN (r : Nat × Nat) (w : World) (e : Ending) (w' : World) : Prop := e = .returned (.tuple #[.int .u32 (r.1 : Nat), .int .i64 (r.2 : Nat)]) ∧ w = w'

theorem ret_un {a b c d : Int} (h : a = b) (h' : c = d) : Ending.returned (.tuple #[.int .u32 a, .int .i64 c]) = .returned (.tuple #[.int .u32 b, .int .i64 d]) := by rw [h, h']

theorem digV_le (c : UInt8) : digV c ≤ 300 := by
  have := byte_all (fun c => decide (digV c ≤ 300)) (by decide +kernel) c
  simpa using this

theorem valU_drop (base : Nat) (t : List UInt8) (j a : Nat) (x : UInt8) (h : t[j]? = some x) : valU base (t.drop j) a = if 4294967296 ≤ a * base + digV x then none else valU base (t.drop (j + 1)) (a * base + digV x) := by
  obtain ⟨h1, e1⟩ := List.getElem?_eq_some_iff.1 h
  rw [List.drop_eq_getElem_cons h1, e1, valU]

set_option maxHeartbeats 4000000 in
set_option maxRecDepth 100000 in
theorem num_ten (l : List UInt8) (w : World) (hl : l.length ≤ 1000000) (h2 : 1 < l.length) (hx : ¬ l.take 2 = [48, 120]) (hb : ¬ l.take 2 = [48, 98]) :
    Calls Tryd.prog 88 #[.string (B l)] w (RetUN (numR l) w) := by
  obtain ⟨k, hk⟩ : ∃ k, k = whileN digN (l.drop 0) := ⟨_, rfl⟩
  have CW := while_any (l.drop 0) digN w (by rw [List.length_drop]; omega) (by decide)
  rw [← hk, ← ext_drop l 0 (by omega)] at CW
  have CW := Lib.hid (show Calls Tryd.prog 87 #[.string ((B l).extract 0 l.length), .string { data := #[48, 49, 50, 51, 52, 53, 54, 55, 56, 57] }] w fun e w' => e = .returned (.int .i64 (k : Nat)) ∧ w = w' from CW)
  have hkl : k ≤ l.length := by
    have := whileN_le digN (l.drop 0)
    rw [List.length_drop] at this
    omega
  have HV := Lib.hid (show numR l = if k = 0 ∨ (0 + k < l.length ∧ goN.contains (l.getD (0 + k) 0) = true) then (0, 0) else match valU 10 ((l.drop 0).take k) 0 with
    | none => (0, 0)
    | some v => (v, 0 + k) by rw [hk]; unfold numR numFrom numBase numSet; simp only [if_neg hb, if_neg hx]; rfl)
  have q1 : (((B l).extract 0 2).toList == [48, 120]) = false := by rw [ext_take]; simpa using hx
  have q2 : (((B l).extract 0 2).toList == [48, 98]) = false := by rw [ext_take]; simpa using hb
  have HT := Lib.hid (show ∀ j, j < k → ((l.drop 0).take k)[j]? = l[0 + j]? by intro j hj; rw [List.getElem?_take_of_lt hj, List.getElem?_drop])
  have HTL := Lib.hid (show ((l.drop 0).take k).length = k by rw [List.length_take, List.length_drop]; omega)
  generalize numR l = V at *
  generalize (l.drop 0).take k = t at *
  have nI : (1 : Int) < l.length := by omega
  clear hk hx hb
  by_cases hk0 : k = 0
  · have hv := HV.out
    rw [if_pos (Or.inl hk0)] at hv
    subst hv
    subst hk0
    clear HV HT HTL
    go_enter Tryd.func88, Tryd.ntmps88
    go_wp2_with fail
    refine CW.out.mono ?_
    rintro e w1 ⟨rfl, rfl⟩
    go_wp2
    go_ret2
    exact ⟨rfl, rfl⟩
  · have z1 : (((k : Int)) == 0) = false := beq_eq_false_iff_ne.2 (by omega)
    have z2 : ((k : Int) == 0) = false := beq_eq_false_iff_ne.2 (by omega)
    by_cases hlt : k < l.length
    · have hltI : (k : Int) < (l.length : Int) := by omega
      have hk00 : 0 ≤ (k : Int) := by omega
      have htn : ((k : Int)).toNat = k := by omega
      obtain ⟨x, hx⟩ : ∃ x, l[k]? = some x := ⟨_, List.getElem?_eq_getElem hlt⟩
      have hgd : l.getD (0 + k) 0 = x := by rw [List.getD_eq_getElem?_getD, show 0 + k = k by omega, hx]; rfl
      obtain ⟨p1, e1⟩ := byte_at l (k) x hx
      have CI := in_any x goN w (by decide)
      cases hg : goN.contains x
      · rw [hg] at CI
        have CI := Lib.hid CI
        have hv := HV.out
        rw [hgd, hg, if_neg (by intro h; rcases h with h | h; exact hk0 h; exact absurd h.2 (by simp))] at hv
        have HV := Lib.hid hv
        clear hv hgd hg hx
        go_enter Tryd.func88, Tryd.ntmps88
        go_wp2_with fail
        refine CW.out.mono ?_
        rintro e w1 ⟨rfl, rfl⟩
        go_wp2_with fail
        refine CI.out.mono ?_
        rintro e w1 ⟨rfl, rfl⟩
        clear e1 p1
        go_wp2
        go_loop [8, 9] (fun vv iv => ∃ (j : Nat) (a : Int), j ≤ k ∧ iv = .int .i64 (j : Nat) ∧ vv = .int .u64 a ∧ 0 ≤ a ∧ a < 4294967296 ∧ Hid (V = match valU 10 (t.drop j) a.toNat with
          | none => (0, 0)
          | some v => (v, 0 + k))) (fun _ iv => l.length - (intOf iv).toNat)
        case atStart => exact ⟨0, 0, by omega, rfl, rfl, by omega, by omega, Lib.hid (by rw [HV.out]; rfl)⟩
        case round =>
          obtain ⟨j, a, hj, rfl, rfl, ha0, ha, HL⟩ := hrel
          by_cases hlj : j < k
          · obtain ⟨x, hx⟩ : ∃ x, l[j]? = some x := ⟨_, List.getElem?_eq_getElem (by omega)⟩
            have htx : t[j]? = some x := by rw [HT.out j hlj, show 0 + j = j by omega, hx]
            have hd := HL.out
            rw [valU_drop 10 t j a.toNat x htx] at hd
            obtain ⟨p2, e2⟩ := byte_at l (j) x hx
            have CD := digit_any x w
            have dle := digV_le x
            obtain ⟨d, hdd⟩ : ∃ d : Int, d = digV x := ⟨_, rfl⟩
            have d0 : 0 ≤ d := by omega
            have d1 : d ≤ 300 := by omega
            have hdn : digV x = d.toNat := by omega
            rw [← hdd] at CD
            rw [hdn] at hd
            clear hdd hdn dle
            have hjI : ((j : Nat) : Int) < l.length := by omega
            have hjK : ((j : Nat) : Int) < (k : Int) := by omega
            have CD := Lib.hid CD
            clear hx htx HL
            by_cases hbig : 4294967296 ≤ a * 10 + d
            · rw [if_pos (by omega)] at hd
              have HD := Lib.hid (show V = (0, 0) from hd)
              clear hd
              go_wp2_with (go_at_call 93; refine CD.out.mono ?_; rintro e w' ⟨rfl, rfl⟩)
              go_ret2
              exact ⟨by rw [HD.out]; rfl, rfl⟩
            · rw [if_neg (by omega)] at hd
              have e3 : a.toNat * 10 + d.toNat = (a * 10 + d).toNat := by omega
              rw [e3] at hd
              clear e3
              have HD := Lib.hid hd
              clear hd
              go_wp2_with (go_at_call 93; refine CD.out.mono ?_; rintro e w' ⟨rfl, rfl⟩)
              go_round
              case rel => exact ⟨j + 1, a * 10 + d, by omega, by go_num, rfl, by omega, by omega, HD⟩
              case measure => simp [intOf]; omega
          · obtain rfl : j = k := by omega
            have hd := HL.out
            rw [List.drop_eq_nil_of_le (by rw [HTL.out]; exact Nat.le_refl _)] at hd
            have HD := Lib.hid (show V = (a.toNat, 0 + j) from hd)
            have hjK : ¬ ((j : Nat) : Int) < (j : Int) := by omega
            clear hd HL
            go_wp2
            go_ret2
            exact ⟨ret_un (by first | (rw [HD.out]; done) | (rw [HD.out]; omega) | (rw [HD.out]; simp; omega)) (by first | (rw [HD.out]; done) | (rw [HD.out]; omega) | (rw [HD.out]; simp; omega)), rfl⟩
      · rw [hg] at CI
        have CI := Lib.hid CI
        have hv := HV.out
        rw [hgd, hg, if_pos (Or.inr ⟨by omega, rfl⟩)] at hv
        subst hv
        clear HV HT HTL hgd hg hx
        go_enter Tryd.func88, Tryd.ntmps88
        go_wp2_with fail
        refine CW.out.mono ?_
        rintro e w1 ⟨rfl, rfl⟩
        go_wp2_with fail
        refine CI.out.mono ?_
        rintro e w1 ⟨rfl, rfl⟩
        go_wp2
        go_ret2
        exact ⟨rfl, rfl⟩
    · have hltI : decide ((k : Int) < (l.length : Int)) = false := decide_eq_false (by omega)
      have hv := HV.out
      rw [if_neg (by intro h; rcases h with h | h; exact hk0 h; omega)] at hv
      have HV := Lib.hid hv
      clear hv
      go_enter Tryd.func88, Tryd.ntmps88
      go_wp2_with fail
      refine CW.out.mono ?_
      rintro e w1 ⟨rfl, rfl⟩
      go_wp2
      go_loop [8, 9] (fun vv iv => ∃ (j : Nat) (a : Int), j ≤ k ∧ iv = .int .i64 (j : Nat) ∧ vv = .int .u64 a ∧ 0 ≤ a ∧ a < 4294967296 ∧ Hid (V = match valU 10 (t.drop j) a.toNat with
        | none => (0, 0)
        | some v => (v, 0 + k))) (fun _ iv => l.length - (intOf iv).toNat)
      case atStart => exact ⟨0, 0, by omega, rfl, rfl, by omega, by omega, Lib.hid (by rw [HV.out]; rfl)⟩
      case round =>
        obtain ⟨j, a, hj, rfl, rfl, ha0, ha, HL⟩ := hrel
        by_cases hlj : j < k
        · obtain ⟨x, hx⟩ : ∃ x, l[j]? = some x := ⟨_, List.getElem?_eq_getElem (by omega)⟩
          have htx : t[j]? = some x := by rw [HT.out j hlj, show 0 + j = j by omega, hx]
          have hd := HL.out
          rw [valU_drop 10 t j a.toNat x htx] at hd
          obtain ⟨p2, e2⟩ := byte_at l (j) x hx
          have CD := digit_any x w
          have dle := digV_le x
          obtain ⟨d, hdd⟩ : ∃ d : Int, d = digV x := ⟨_, rfl⟩
          have d0 : 0 ≤ d := by omega
          have d1 : d ≤ 300 := by omega
          have hdn : digV x = d.toNat := by omega
          rw [← hdd] at CD
          rw [hdn] at hd
          clear hdd hdn dle
          have hjI : ((j : Nat) : Int) < l.length := by omega
          have hjK : ((j : Nat) : Int) < (k : Int) := by omega
          have CD := Lib.hid CD
          clear hx htx HL
          by_cases hbig : 4294967296 ≤ a * 10 + d
          · rw [if_pos (by omega)] at hd
            have HD := Lib.hid (show V = (0, 0) from hd)
            clear hd
            go_wp2_with (go_at_call 93; refine CD.out.mono ?_; rintro e w' ⟨rfl, rfl⟩)
            go_ret2
            exact ⟨by rw [HD.out]; rfl, rfl⟩
          · rw [if_neg (by omega)] at hd
            have e3 : a.toNat * 10 + d.toNat = (a * 10 + d).toNat := by omega
            rw [e3] at hd
            clear e3
            have HD := Lib.hid hd
            clear hd
            go_wp2_with (go_at_call 93; refine CD.out.mono ?_; rintro e w' ⟨rfl, rfl⟩)
            go_round
            case rel => exact ⟨j + 1, a * 10 + d, by omega, by go_num, rfl, by omega, by omega, HD⟩
            case measure => simp [intOf]; omega
        · obtain rfl : j = k := by omega
          have hd := HL.out
          rw [List.drop_eq_nil_of_le (by rw [HTL.out]; exact Nat.le_refl _)] at hd
          have HD := Lib.hid (show V = (a.toNat, 0 + j) from hd)
          have hjK : ¬ ((j : Nat) : Int) < (j : Int) := by omega
          clear hd HL
          go_wp2
          go_ret2
          exact ⟨ret_un (by first | (rw [HD.out]; done) | (rw [HD.out]; omega) | (rw [HD.out]; simp; omega)) (by first | (rw [HD.out]; done) | (rw [HD.out]; omega) | (rw [HD.out]; simp; omega)), rfl⟩

set_option maxHeartbeats 4000000 in
set_option maxRecDepth 100000 in
theorem num_one (l : List UInt8) (w : World) (hl : l.length ≤ 1000000) (h1 : l.length ≤ 1) :
    Calls Tryd.prog 88 #[.string (B l)] w (RetUN (numR l) w) := by
  have hx : ¬ l.take 2 = [48, 120] := fun h => by have := congrArg List.length h; simp at this; omega
  have hb : ¬ l.take 2 = [48, 98] := fun h => by have := congrArg List.length h; simp at this; omega
  obtain ⟨k, hk⟩ : ∃ k, k = whileN digN (l.drop 0) := ⟨_, rfl⟩
  have CW := while_any (l.drop 0) digN w (by rw [List.length_drop]; omega) (by decide)
  rw [← hk, ← ext_drop l 0 (by omega)] at CW
  have CW := Lib.hid (show Calls Tryd.prog 87 #[.string ((B l).extract 0 l.length), .string { data := #[48, 49, 50, 51, 52, 53, 54, 55, 56, 57] }] w fun e w' => e = .returned (.int .i64 (k : Nat)) ∧ w = w' from CW)
  have hkl : k ≤ l.length := by
    have := whileN_le digN (l.drop 0)
    rw [List.length_drop] at this
    omega
  have HV := Lib.hid (show numR l = if k = 0 ∨ (0 + k < l.length ∧ goN.contains (l.getD (0 + k) 0) = true) then (0, 0) else match valU 10 ((l.drop 0).take k) 0 with
    | none => (0, 0)
    | some v => (v, 0 + k) by rw [hk]; unfold numR numFrom numBase numSet; simp only [if_neg hb, if_neg hx]; rfl)
  have q1 : (((B l).extract 0 2).toList == [48, 120]) = false := by rw [ext_take]; simpa using hx
  have q2 : (((B l).extract 0 2).toList == [48, 98]) = false := by rw [ext_take]; simpa using hb
  have HT := Lib.hid (show ∀ j, j < k → ((l.drop 0).take k)[j]? = l[0 + j]? by intro j hj; rw [List.getElem?_take_of_lt hj, List.getElem?_drop])
  have HTL := Lib.hid (show ((l.drop 0).take k).length = k by rw [List.length_take, List.length_drop]; omega)
  generalize numR l = V at *
  generalize (l.drop 0).take k = t at *
  have nI : decide ((1 : Int) < l.length) = false := decide_eq_false (by omega)
  clear hk hx hb
  by_cases hk0 : k = 0
  · have hv := HV.out
    rw [if_pos (Or.inl hk0)] at hv
    subst hv
    subst hk0
    clear HV HT HTL
    go_enter Tryd.func88, Tryd.ntmps88
    go_wp2_with fail
    refine CW.out.mono ?_
    rintro e w1 ⟨rfl, rfl⟩
    go_wp2
    go_ret2
    exact ⟨rfl, rfl⟩
  · have z1 : (((k : Int)) == 0) = false := beq_eq_false_iff_ne.2 (by omega)
    have z2 : ((k : Int) == 0) = false := beq_eq_false_iff_ne.2 (by omega)
    by_cases hlt : k < l.length
    · exact absurd (by omega) hk0
    · have hltI : decide ((k : Int) < (l.length : Int)) = false := decide_eq_false (by omega)
      have hv := HV.out
      rw [if_neg (by intro h; rcases h with h | h; exact hk0 h; omega)] at hv
      have HV := Lib.hid hv
      clear hv
      go_enter Tryd.func88, Tryd.ntmps88
      go_wp2_with fail
      refine CW.out.mono ?_
      rintro e w1 ⟨rfl, rfl⟩
      go_wp2
      go_loop [8, 9] (fun vv iv => ∃ (j : Nat) (a : Int), j ≤ k ∧ iv = .int .i64 (j : Nat) ∧ vv = .int .u64 a ∧ 0 ≤ a ∧ a < 4294967296 ∧ Hid (V = match valU 10 (t.drop j) a.toNat with
        | none => (0, 0)
        | some v => (v, 0 + k))) (fun _ iv => l.length - (intOf iv).toNat)
      case atStart => exact ⟨0, 0, by omega, rfl, rfl, by omega, by omega, Lib.hid (by rw [HV.out]; rfl)⟩
      case round =>
        obtain ⟨j, a, hj, rfl, rfl, ha0, ha, HL⟩ := hrel
        by_cases hlj : j < k
        · obtain ⟨x, hx⟩ : ∃ x, l[j]? = some x := ⟨_, List.getElem?_eq_getElem (by omega)⟩
          have htx : t[j]? = some x := by rw [HT.out j hlj, show 0 + j = j by omega, hx]
          have hd := HL.out
          rw [valU_drop 10 t j a.toNat x htx] at hd
          obtain ⟨p2, e2⟩ := byte_at l (j) x hx
          have CD := digit_any x w
          have dle := digV_le x
          obtain ⟨d, hdd⟩ : ∃ d : Int, d = digV x := ⟨_, rfl⟩
          have d0 : 0 ≤ d := by omega
          have d1 : d ≤ 300 := by omega
          have hdn : digV x = d.toNat := by omega
          rw [← hdd] at CD
          rw [hdn] at hd
          clear hdd hdn dle
          have hjI : ((j : Nat) : Int) < l.length := by omega
          have hjK : ((j : Nat) : Int) < (k : Int) := by omega
          have CD := Lib.hid CD
          clear hx htx HL
          by_cases hbig : 4294967296 ≤ a * 10 + d
          · rw [if_pos (by omega)] at hd
            have HD := Lib.hid (show V = (0, 0) from hd)
            clear hd
            go_wp2_with (go_at_call 93; refine CD.out.mono ?_; rintro e w' ⟨rfl, rfl⟩)
            go_ret2
            exact ⟨by rw [HD.out]; rfl, rfl⟩
          · rw [if_neg (by omega)] at hd
            have e3 : a.toNat * 10 + d.toNat = (a * 10 + d).toNat := by omega
            rw [e3] at hd
            clear e3
            have HD := Lib.hid hd
            clear hd
            go_wp2_with (go_at_call 93; refine CD.out.mono ?_; rintro e w' ⟨rfl, rfl⟩)
            go_round
            case rel => exact ⟨j + 1, a * 10 + d, by omega, by go_num, rfl, by omega, by omega, HD⟩
            case measure => simp [intOf]; omega
        · obtain rfl : j = k := by omega
          have hd := HL.out
          rw [List.drop_eq_nil_of_le (by rw [HTL.out]; exact Nat.le_refl _)] at hd
          have HD := Lib.hid (show V = (a.toNat, 0 + j) from hd)
          have hjK : ¬ ((j : Nat) : Int) < (j : Int) := by omega
          clear hd HL
          go_wp2
          go_ret2
          exact ⟨ret_un (by first | (rw [HD.out]; done) | (rw [HD.out]; omega) | (rw [HD.out]; simp; omega)) (by first | (rw [HD.out]; done) | (rw [HD.out]; omega) | (rw [HD.out]; simp; omega)), rfl⟩

set_option maxHeartbeats 4000000 in
set_option maxRecDepth 100000 in
theorem num_hex (l : List UInt8) (w : World) (hl : l.length ≤ 1000000) (hx : l.take 2 = [48, 120]) :
    Calls Tryd.prog 88 #[.string (B l)] w (RetUN (numR l) w) := by
  have h2 : 2 ≤ l.length := by
    rcases Nat.lt_or_ge l.length 2 with h | h
    · have := congrArg List.length hx
      simp at this
      omega
    · exact h
  obtain ⟨k, hk⟩ : ∃ k, k = whileN hexN (l.drop 2) := ⟨_, rfl⟩
  have CW := while_any (l.drop 2) hexN w (by rw [List.length_drop]; omega) (by decide)
  rw [← hk, ← ext_drop l 2 (by omega)] at CW
  have CW := Lib.hid (show Calls Tryd.prog 87 #[.string ((B l).extract 2 l.length), .string { data := #[48, 49, 50, 51, 52, 53, 54, 55, 56, 57, 97, 98, 99, 100, 101, 102, 65, 66, 67, 68, 69, 70] }] w fun e w' => e = .returned (.int .i64 (k : Nat)) ∧ w = w' from CW)
  have hkl : 2 + k ≤ l.length := by
    have := whileN_le hexN (l.drop 2)
    rw [List.length_drop] at this
    omega
  have HV := Lib.hid (show numR l = if k = 0 ∨ (2 + k < l.length ∧ goN.contains (l.getD (2 + k) 0) = true) then (0, 0) else match valU 16 ((l.drop 2).take k) 0 with
    | none => (0, 0)
    | some v => (v, 2 + k) by rw [hk]; unfold numR numFrom numBase numSet; simp only [hx]; rfl)
  have q1 : (((B l).extract 0 2).toList == [48, 120]) = true := by rw [ext_take, hx]; rfl
  have q2 : (((B l).extract 0 2).toList == [48, 98]) = false := by rw [ext_take, hx]; rfl
  have HT := Lib.hid (show ∀ j, j < k → ((l.drop 2).take k)[j]? = l[2 + j]? by intro j hj; rw [List.getElem?_take_of_lt hj, List.getElem?_drop])
  have HTL := Lib.hid (show ((l.drop 2).take k).length = k by rw [List.length_take, List.length_drop]; omega)
  generalize numR l = V at *
  generalize (l.drop 2).take k = t at *
  have nI : (1 : Int) < l.length := by omega
  clear hk hx
  by_cases hk0 : k = 0
  · have hv := HV.out
    rw [if_pos (Or.inl hk0)] at hv
    subst hv
    subst hk0
    clear HV HT HTL
    go_enter Tryd.func88, Tryd.ntmps88
    go_wp2_with fail
    refine CW.out.mono ?_
    rintro e w1 ⟨rfl, rfl⟩
    go_wp2
    go_ret2
    exact ⟨rfl, rfl⟩
  · have z1 : (((2 : Int) + k) == 2) = false := beq_eq_false_iff_ne.2 (by omega)
    have z2 : ((k : Int) == 0) = false := beq_eq_false_iff_ne.2 (by omega)
    by_cases hlt : 2 + k < l.length
    · have hltI : (2 : Int) + k < (l.length : Int) := by omega
      have hk00 : 0 ≤ (2 : Int) + k := by omega
      have htn : ((2 : Int) + k).toNat = 2 + k := by omega
      obtain ⟨x, hx⟩ : ∃ x, l[2 + k]? = some x := ⟨_, List.getElem?_eq_getElem hlt⟩
      have hgd : l.getD (2 + k) 0 = x := by rw [List.getD_eq_getElem?_getD, show 2 + k = 2 + k by omega, hx]; rfl
      obtain ⟨p1, e1⟩ := byte_at l (2 + k) x hx
      have CI := in_any x goN w (by decide)
      cases hg : goN.contains x
      · rw [hg] at CI
        have CI := Lib.hid CI
        have hv := HV.out
        rw [hgd, hg, if_neg (by intro h; rcases h with h | h; exact hk0 h; exact absurd h.2 (by simp))] at hv
        have HV := Lib.hid hv
        clear hv hgd hg hx
        go_enter Tryd.func88, Tryd.ntmps88
        go_wp2_with fail
        refine CW.out.mono ?_
        rintro e w1 ⟨rfl, rfl⟩
        go_wp2_with fail
        refine CI.out.mono ?_
        rintro e w1 ⟨rfl, rfl⟩
        clear e1 p1
        go_wp2
        go_loop [8, 9] (fun vv iv => ∃ (j : Nat) (a : Int), j ≤ k ∧ iv = .int .i64 (2 + j : Nat) ∧ vv = .int .u64 a ∧ 0 ≤ a ∧ a < 4294967296 ∧ Hid (V = match valU 16 (t.drop j) a.toNat with
          | none => (0, 0)
          | some v => (v, 2 + k))) (fun _ iv => l.length - (intOf iv).toNat)
        case atStart => exact ⟨0, 0, by omega, rfl, rfl, by omega, by omega, Lib.hid (by rw [HV.out]; rfl)⟩
        case round =>
          obtain ⟨j, a, hj, rfl, rfl, ha0, ha, HL⟩ := hrel
          by_cases hlj : j < k
          · obtain ⟨x, hx⟩ : ∃ x, l[2 + j]? = some x := ⟨_, List.getElem?_eq_getElem (by omega)⟩
            have htx : t[j]? = some x := by rw [HT.out j hlj, show 2 + j = 2 + j by omega, hx]
            have hd := HL.out
            rw [valU_drop 16 t j a.toNat x htx] at hd
            obtain ⟨p2, e2⟩ := byte_at l (2 + j) x hx
            have CD := digit_any x w
            have dle := digV_le x
            obtain ⟨d, hdd⟩ : ∃ d : Int, d = digV x := ⟨_, rfl⟩
            have d0 : 0 ≤ d := by omega
            have d1 : d ≤ 300 := by omega
            have hdn : digV x = d.toNat := by omega
            rw [← hdd] at CD
            rw [hdn] at hd
            clear hdd hdn dle
            have hjI : ((2 + j : Nat) : Int) < l.length := by omega
            have hjK : ((2 + j : Nat) : Int) < (2 : Int) + k := by omega
            have CD := Lib.hid CD
            clear hx htx HL
            by_cases hbig : 4294967296 ≤ a * 16 + d
            · rw [if_pos (by omega)] at hd
              have HD := Lib.hid (show V = (0, 0) from hd)
              clear hd
              go_wp2_with (go_at_call 93; refine CD.out.mono ?_; rintro e w' ⟨rfl, rfl⟩)
              go_ret2
              exact ⟨by rw [HD.out]; rfl, rfl⟩
            · rw [if_neg (by omega)] at hd
              have e3 : a.toNat * 16 + d.toNat = (a * 16 + d).toNat := by omega
              rw [e3] at hd
              clear e3
              have HD := Lib.hid hd
              clear hd
              go_wp2_with (go_at_call 93; refine CD.out.mono ?_; rintro e w' ⟨rfl, rfl⟩)
              go_round
              case rel => exact ⟨j + 1, a * 16 + d, by omega, by go_num, rfl, by omega, by omega, HD⟩
              case measure => simp [intOf]; omega
          · obtain rfl : j = k := by omega
            have hd := HL.out
            rw [List.drop_eq_nil_of_le (by rw [HTL.out]; exact Nat.le_refl _)] at hd
            have HD := Lib.hid (show V = (a.toNat, 2 + j) from hd)
            have hjK : ¬ ((2 + j : Nat) : Int) < (2 : Int) + j := by omega
            clear hd HL
            go_wp2
            go_ret2
            exact ⟨ret_un (by first | (rw [HD.out]; done) | (rw [HD.out]; omega) | (rw [HD.out]; simp; omega)) (by first | (rw [HD.out]; done) | (rw [HD.out]; omega) | (rw [HD.out]; simp; omega)), rfl⟩
      · rw [hg] at CI
        have CI := Lib.hid CI
        have hv := HV.out
        rw [hgd, hg, if_pos (Or.inr ⟨by omega, rfl⟩)] at hv
        subst hv
        clear HV HT HTL hgd hg hx
        go_enter Tryd.func88, Tryd.ntmps88
        go_wp2_with fail
        refine CW.out.mono ?_
        rintro e w1 ⟨rfl, rfl⟩
        go_wp2_with fail
        refine CI.out.mono ?_
        rintro e w1 ⟨rfl, rfl⟩
        go_wp2
        go_ret2
        exact ⟨rfl, rfl⟩
    · have hltI : decide ((2 : Int) + k < (l.length : Int)) = false := decide_eq_false (by omega)
      have hv := HV.out
      rw [if_neg (by intro h; rcases h with h | h; exact hk0 h; omega)] at hv
      have HV := Lib.hid hv
      clear hv
      go_enter Tryd.func88, Tryd.ntmps88
      go_wp2_with fail
      refine CW.out.mono ?_
      rintro e w1 ⟨rfl, rfl⟩
      go_wp2
      go_loop [8, 9] (fun vv iv => ∃ (j : Nat) (a : Int), j ≤ k ∧ iv = .int .i64 (2 + j : Nat) ∧ vv = .int .u64 a ∧ 0 ≤ a ∧ a < 4294967296 ∧ Hid (V = match valU 16 (t.drop j) a.toNat with
        | none => (0, 0)
        | some v => (v, 2 + k))) (fun _ iv => l.length - (intOf iv).toNat)
      case atStart => exact ⟨0, 0, by omega, rfl, rfl, by omega, by omega, Lib.hid (by rw [HV.out]; rfl)⟩
      case round =>
        obtain ⟨j, a, hj, rfl, rfl, ha0, ha, HL⟩ := hrel
        by_cases hlj : j < k
        · obtain ⟨x, hx⟩ : ∃ x, l[2 + j]? = some x := ⟨_, List.getElem?_eq_getElem (by omega)⟩
          have htx : t[j]? = some x := by rw [HT.out j hlj, show 2 + j = 2 + j by omega, hx]
          have hd := HL.out
          rw [valU_drop 16 t j a.toNat x htx] at hd
          obtain ⟨p2, e2⟩ := byte_at l (2 + j) x hx
          have CD := digit_any x w
          have dle := digV_le x
          obtain ⟨d, hdd⟩ : ∃ d : Int, d = digV x := ⟨_, rfl⟩
          have d0 : 0 ≤ d := by omega
          have d1 : d ≤ 300 := by omega
          have hdn : digV x = d.toNat := by omega
          rw [← hdd] at CD
          rw [hdn] at hd
          clear hdd hdn dle
          have hjI : ((2 + j : Nat) : Int) < l.length := by omega
          have hjK : ((2 + j : Nat) : Int) < (2 : Int) + k := by omega
          have CD := Lib.hid CD
          clear hx htx HL
          by_cases hbig : 4294967296 ≤ a * 16 + d
          · rw [if_pos (by omega)] at hd
            have HD := Lib.hid (show V = (0, 0) from hd)
            clear hd
            go_wp2_with (go_at_call 93; refine CD.out.mono ?_; rintro e w' ⟨rfl, rfl⟩)
            go_ret2
            exact ⟨by rw [HD.out]; rfl, rfl⟩
          · rw [if_neg (by omega)] at hd
            have e3 : a.toNat * 16 + d.toNat = (a * 16 + d).toNat := by omega
            rw [e3] at hd
            clear e3
            have HD := Lib.hid hd
            clear hd
            go_wp2_with (go_at_call 93; refine CD.out.mono ?_; rintro e w' ⟨rfl, rfl⟩)
            go_round
            case rel => exact ⟨j + 1, a * 16 + d, by omega, by go_num, rfl, by omega, by omega, HD⟩
            case measure => simp [intOf]; omega
        · obtain rfl : j = k := by omega
          have hd := HL.out
          rw [List.drop_eq_nil_of_le (by rw [HTL.out]; exact Nat.le_refl _)] at hd
          have HD := Lib.hid (show V = (a.toNat, 2 + j) from hd)
          have hjK : ¬ ((2 + j : Nat) : Int) < (2 : Int) + j := by omega
          clear hd HL
          go_wp2
          go_ret2
          exact ⟨ret_un (by first | (rw [HD.out]; done) | (rw [HD.out]; omega) | (rw [HD.out]; simp; omega)) (by first | (rw [HD.out]; done) | (rw [HD.out]; omega) | (rw [HD.out]; simp; omega)), rfl⟩

set_option maxHeartbeats 4000000 in
set_option maxRecDepth 100000 in
theorem num_two (l : List UInt8) (w : World) (hl : l.length ≤ 1000000) (hb : l.take 2 = [48, 98]) :
    Calls Tryd.prog 88 #[.string (B l)] w (RetUN (numR l) w) := by
  have h2 : 2 ≤ l.length := by
    rcases Nat.lt_or_ge l.length 2 with h | h
    · have := congrArg List.length hb
      simp at this
      omega
    · exact h
  obtain ⟨k, hk⟩ : ∃ k, k = whileN [48, 49] (l.drop 2) := ⟨_, rfl⟩
  have CW := while_any (l.drop 2) [48, 49] w (by rw [List.length_drop]; omega) (by decide)
  rw [← hk, ← ext_drop l 2 (by omega)] at CW
  have CW := Lib.hid (show Calls Tryd.prog 87 #[.string ((B l).extract 2 l.length), .string { data := #[48, 49] }] w fun e w' => e = .returned (.int .i64 (k : Nat)) ∧ w = w' from CW)
  have hkl : 2 + k ≤ l.length := by
    have := whileN_le [48, 49] (l.drop 2)
    rw [List.length_drop] at this
    omega
  have HV := Lib.hid (show numR l = if k = 0 ∨ (2 + k < l.length ∧ goN.contains (l.getD (2 + k) 0) = true) then (0, 0) else match valU 2 ((l.drop 2).take k) 0 with
    | none => (0, 0)
    | some v => (v, 2 + k) by rw [hk]; unfold numR numFrom numBase numSet; simp only [hb]; rfl)
  have q1 : (((B l).extract 0 2).toList == [48, 120]) = false := by rw [ext_take, hb]; rfl
  have q2 : (((B l).extract 0 2).toList == [48, 98]) = true := by rw [ext_take, hb]; rfl
  have HT := Lib.hid (show ∀ j, j < k → ((l.drop 2).take k)[j]? = l[2 + j]? by intro j hj; rw [List.getElem?_take_of_lt hj, List.getElem?_drop])
  have HTL := Lib.hid (show ((l.drop 2).take k).length = k by rw [List.length_take, List.length_drop]; omega)
  generalize numR l = V at *
  generalize (l.drop 2).take k = t at *
  have nI : (1 : Int) < l.length := by omega
  clear hk hb
  by_cases hk0 : k = 0
  · have hv := HV.out
    rw [if_pos (Or.inl hk0)] at hv
    subst hv
    subst hk0
    clear HV HT HTL
    go_enter Tryd.func88, Tryd.ntmps88
    go_wp2_with fail
    refine CW.out.mono ?_
    rintro e w1 ⟨rfl, rfl⟩
    go_wp2
    go_ret2
    exact ⟨rfl, rfl⟩
  · have z1 : (((2 : Int) + k) == 2) = false := beq_eq_false_iff_ne.2 (by omega)
    have z2 : ((k : Int) == 0) = false := beq_eq_false_iff_ne.2 (by omega)
    by_cases hlt : 2 + k < l.length
    · have hltI : (2 : Int) + k < (l.length : Int) := by omega
      have hk00 : 0 ≤ (2 : Int) + k := by omega
      have htn : ((2 : Int) + k).toNat = 2 + k := by omega
      obtain ⟨x, hx⟩ : ∃ x, l[2 + k]? = some x := ⟨_, List.getElem?_eq_getElem hlt⟩
      have hgd : l.getD (2 + k) 0 = x := by rw [List.getD_eq_getElem?_getD, show 2 + k = 2 + k by omega, hx]; rfl
      obtain ⟨p1, e1⟩ := byte_at l (2 + k) x hx
      have CI := in_any x goN w (by decide)
      cases hg : goN.contains x
      · rw [hg] at CI
        have CI := Lib.hid CI
        have hv := HV.out
        rw [hgd, hg, if_neg (by intro h; rcases h with h | h; exact hk0 h; exact absurd h.2 (by simp))] at hv
        have HV := Lib.hid hv
        clear hv hgd hg hx
        go_enter Tryd.func88, Tryd.ntmps88
        go_wp2_with fail
        refine CW.out.mono ?_
        rintro e w1 ⟨rfl, rfl⟩
        go_wp2_with fail
        refine CI.out.mono ?_
        rintro e w1 ⟨rfl, rfl⟩
        clear e1 p1
        go_wp2
        go_loop [8, 9] (fun vv iv => ∃ (j : Nat) (a : Int), j ≤ k ∧ iv = .int .i64 (2 + j : Nat) ∧ vv = .int .u64 a ∧ 0 ≤ a ∧ a < 4294967296 ∧ Hid (V = match valU 2 (t.drop j) a.toNat with
          | none => (0, 0)
          | some v => (v, 2 + k))) (fun _ iv => l.length - (intOf iv).toNat)
        case atStart => exact ⟨0, 0, by omega, rfl, rfl, by omega, by omega, Lib.hid (by rw [HV.out]; rfl)⟩
        case round =>
          obtain ⟨j, a, hj, rfl, rfl, ha0, ha, HL⟩ := hrel
          by_cases hlj : j < k
          · obtain ⟨x, hx⟩ : ∃ x, l[2 + j]? = some x := ⟨_, List.getElem?_eq_getElem (by omega)⟩
            have htx : t[j]? = some x := by rw [HT.out j hlj, show 2 + j = 2 + j by omega, hx]
            have hd := HL.out
            rw [valU_drop 2 t j a.toNat x htx] at hd
            obtain ⟨p2, e2⟩ := byte_at l (2 + j) x hx
            have CD := digit_any x w
            have dle := digV_le x
            obtain ⟨d, hdd⟩ : ∃ d : Int, d = digV x := ⟨_, rfl⟩
            have d0 : 0 ≤ d := by omega
            have d1 : d ≤ 300 := by omega
            have hdn : digV x = d.toNat := by omega
            rw [← hdd] at CD
            rw [hdn] at hd
            clear hdd hdn dle
            have hjI : ((2 + j : Nat) : Int) < l.length := by omega
            have hjK : ((2 + j : Nat) : Int) < (2 : Int) + k := by omega
            have CD := Lib.hid CD
            clear hx htx HL
            by_cases hbig : 4294967296 ≤ a * 2 + d
            · rw [if_pos (by omega)] at hd
              have HD := Lib.hid (show V = (0, 0) from hd)
              clear hd
              go_wp2_with (go_at_call 93; refine CD.out.mono ?_; rintro e w' ⟨rfl, rfl⟩)
              go_ret2
              exact ⟨by rw [HD.out]; rfl, rfl⟩
            · rw [if_neg (by omega)] at hd
              have e3 : a.toNat * 2 + d.toNat = (a * 2 + d).toNat := by omega
              rw [e3] at hd
              clear e3
              have HD := Lib.hid hd
              clear hd
              go_wp2_with (go_at_call 93; refine CD.out.mono ?_; rintro e w' ⟨rfl, rfl⟩)
              go_round
              case rel => exact ⟨j + 1, a * 2 + d, by omega, by go_num, rfl, by omega, by omega, HD⟩
              case measure => simp [intOf]; omega
          · obtain rfl : j = k := by omega
            have hd := HL.out
            rw [List.drop_eq_nil_of_le (by rw [HTL.out]; exact Nat.le_refl _)] at hd
            have HD := Lib.hid (show V = (a.toNat, 2 + j) from hd)
            have hjK : ¬ ((2 + j : Nat) : Int) < (2 : Int) + j := by omega
            clear hd HL
            go_wp2
            go_ret2
            exact ⟨ret_un (by first | (rw [HD.out]; done) | (rw [HD.out]; omega) | (rw [HD.out]; simp; omega)) (by first | (rw [HD.out]; done) | (rw [HD.out]; omega) | (rw [HD.out]; simp; omega)), rfl⟩
      · rw [hg] at CI
        have CI := Lib.hid CI
        have hv := HV.out
        rw [hgd, hg, if_pos (Or.inr ⟨by omega, rfl⟩)] at hv
        subst hv
        clear HV HT HTL hgd hg hx
        go_enter Tryd.func88, Tryd.ntmps88
        go_wp2_with fail
        refine CW.out.mono ?_
        rintro e w1 ⟨rfl, rfl⟩
        go_wp2_with fail
        refine CI.out.mono ?_
        rintro e w1 ⟨rfl, rfl⟩
        go_wp2
        go_ret2
        exact ⟨rfl, rfl⟩
    · have hltI : decide ((2 : Int) + k < (l.length : Int)) = false := decide_eq_false (by omega)
      have hv := HV.out
      rw [if_neg (by intro h; rcases h with h | h; exact hk0 h; omega)] at hv
      have HV := Lib.hid hv
      clear hv
      go_enter Tryd.func88, Tryd.ntmps88
      go_wp2_with fail
      refine CW.out.mono ?_
      rintro e w1 ⟨rfl, rfl⟩
      go_wp2
      go_loop [8, 9] (fun vv iv => ∃ (j : Nat) (a : Int), j ≤ k ∧ iv = .int .i64 (2 + j : Nat) ∧ vv = .int .u64 a ∧ 0 ≤ a ∧ a < 4294967296 ∧ Hid (V = match valU 2 (t.drop j) a.toNat with
        | none => (0, 0)
        | some v => (v, 2 + k))) (fun _ iv => l.length - (intOf iv).toNat)
      case atStart => exact ⟨0, 0, by omega, rfl, rfl, by omega, by omega, Lib.hid (by rw [HV.out]; rfl)⟩
      case round =>
        obtain ⟨j, a, hj, rfl, rfl, ha0, ha, HL⟩ := hrel
        by_cases hlj : j < k
        · obtain ⟨x, hx⟩ : ∃ x, l[2 + j]? = some x := ⟨_, List.getElem?_eq_getElem (by omega)⟩
          have htx : t[j]? = some x := by rw [HT.out j hlj, show 2 + j = 2 + j by omega, hx]
          have hd := HL.out
          rw [valU_drop 2 t j a.toNat x htx] at hd
          obtain ⟨p2, e2⟩ := byte_at l (2 + j) x hx
          have CD := digit_any x w
          have dle := digV_le x
          obtain ⟨d, hdd⟩ : ∃ d : Int, d = digV x := ⟨_, rfl⟩
          have d0 : 0 ≤ d := by omega
          have d1 : d ≤ 300 := by omega
          have hdn : digV x = d.toNat := by omega
          rw [← hdd] at CD
          rw [hdn] at hd
          clear hdd hdn dle
          have hjI : ((2 + j : Nat) : Int) < l.length := by omega
          have hjK : ((2 + j : Nat) : Int) < (2 : Int) + k := by omega
          have CD := Lib.hid CD
          clear hx htx HL
          by_cases hbig : 4294967296 ≤ a * 2 + d
          · rw [if_pos (by omega)] at hd
            have HD := Lib.hid (show V = (0, 0) from hd)
            clear hd
            go_wp2_with (go_at_call 93; refine CD.out.mono ?_; rintro e w' ⟨rfl, rfl⟩)
            go_ret2
            exact ⟨by rw [HD.out]; rfl, rfl⟩
          · rw [if_neg (by omega)] at hd
            have e3 : a.toNat * 2 + d.toNat = (a * 2 + d).toNat := by omega
            rw [e3] at hd
            clear e3
            have HD := Lib.hid hd
            clear hd
            go_wp2_with (go_at_call 93; refine CD.out.mono ?_; rintro e w' ⟨rfl, rfl⟩)
            go_round
            case rel => exact ⟨j + 1, a * 2 + d, by omega, by go_num, rfl, by omega, by omega, HD⟩
            case measure => simp [intOf]; omega
        · obtain rfl : j = k := by omega
          have hd := HL.out
          rw [List.drop_eq_nil_of_le (by rw [HTL.out]; exact Nat.le_refl _)] at hd
          have HD := Lib.hid (show V = (a.toNat, 2 + j) from hd)
          have hjK : ¬ ((2 + j : Nat) : Int) < (2 : Int) + j := by omega
          clear hd HL
          go_wp2
          go_ret2
          exact ⟨ret_un (by first | (rw [HD.out]; done) | (rw [HD.out]; omega) | (rw [HD.out]; simp; omega)) (by first | (rw [HD.out]; done) | (rw [HD.out]; omega) | (rw [HD.out]; simp; omega)), rfl⟩

theorem num_any (l : List UInt8) (w : World) (hl : l.length ≤ 1000000) : Calls Tryd.prog 88 #[.string (B l)] w (RetUN (numR l) w) := by
  by_cases h : 1 < l.length
  · by_cases hx : l.take 2 = [48, 120]
    · exact num_hex l w hl hx
    · by_cases hb : l.take 2 = [48, 98]
      · exact num_two l w hl hb
      · exact num_ten l w hl h hx hb
  · exact num_one l w hl (by omega)

end Go.Proofs.YtbkgdepblaibkaaDoor
