/- Parts of the proof, one behind the other. -/
import Derived.Laws.IdiomStrings
import Derived.Test.YtdgmdkkockbkjaaGreatDoorZkad
/- Contracts of typecaseref10: a byte within quotes; numbers. -/
namespace Go.Proofs.YtdgmdkkockbkjaaGreatDoor
open Go.RowKit
set_option linter.unusedVariables false
set_option linter.unusedSimpArgs false

theorem u8n (x : UInt8) (n : Nat) (hn : n < 256) (b : Bool) (h : (x == UInt8.ofNat n) = b) : ((x.toNat : Int) == ((n : Nat) : Int)) = b := by rw [u8_lit x n hn, h]

set_option maxHeartbeats 1000000 in
theorem quoted_nil (q : UInt8) (w : World) : Calls Tryz.prog 59 #[.string (B []), .int .u8 q.toNat] w (RetBN (quoR q []) w) := by
  show Calls Tryz.prog 59 #[.string { data := #[] }, .int .u8 q.toNat] w (RetBN (0, 0) w)
  go_enter Tryz.func59, Tryz.ntmps59
  go_wp2
  go_ret2
  exact ⟨rfl, Nx.refl _⟩

set_option maxHeartbeats 2000000 in
theorem quoted_cons (q c : UInt8) (r : List UInt8) (w : World) (hl : r.length ≤ 999999) : Calls Tryz.prog 59 #[.string (B (c :: r)), .int .u8 q.toNat] w (RetBN (quoR q (c :: r)) w) := by
  obtain ⟨l, hL⟩ : ∃ l, l = c :: r := ⟨_, rfl⟩
  have hn : 1 ≤ l.length ∧ l.length ≤ 1000000 := by rw [hL]; simp; omega
  have E0 : l[0]? = some c := by rw [hL]; rfl
  have CE := Lib.hid (fun w => escape_any l w hn.2)
  have hv : quoR q (c :: r) = if c = q then (0, 0) else if c = 92 then escR l else if 32 ≤ c.toNat ∨ (c = 9 ∧ q = 34) then (c, 1) else (0, 0) := by rw [hL]; rfl
  rw [hv, ← hL]
  clear hv
  obtain ⟨p0, e0⟩ := byte_at l 0 c E0
  have n0 : (0 : Int) < l.length := by omega
  have nz : ((l.length : Int) == 0) = false := beq_eq_false_iff_ne.2 (by omega)
  clear E0 hL
  by_cases h1 : c = q
  · rw [if_pos h1]
    have b1 : ((c.toNat : Int) == (q.toNat : Int)) = true := by rw [byte_eq]; simpa using h1.symm
    clear h1
    go_enter Tryz.func59, Tryz.ntmps59
    go_wp2
    go_ret2
    exact ⟨rfl, Nx.refl _⟩
  · rw [if_neg h1]
    have b1 : ((c.toNat : Int) == (q.toNat : Int)) = false := by rw [byte_eq]; exact beq_eq_false_iff_ne.2 (fun h => h1 h.symm)
    by_cases h2 : c = 92
    · rw [if_pos h2]
      have b2 : ((c.toNat : Int) == 92) = true := u8n c 92 (by omega) true (by rw [h2]; rfl)
      clear h1 h2
      generalize escR l = V at *
      go_enter Tryz.func59, Tryz.ntmps59
      go_wp2_with (go_at_call 84; refine (CE.out _).mono ?_; rintro e w' ⟨rfl, hn9⟩; have HN := Lib.hid hn9; clear hn9)
      go_ret2
      exact ⟨rfl, HN.out⟩
    · rw [if_neg h2]
      have b2 : ((c.toNat : Int) == 92) = false := u8n c 92 (by omega) false (beq_eq_false_iff_ne.2 (fun h => h2 h))
      by_cases h3 : 32 ≤ c.toNat
      · rw [if_pos (Or.inl h3)]
        clear h1 h2 CE
        go_enter Tryz.func59, Tryz.ntmps59
        go_wp2
        go_ret2
        exact ⟨rfl, Nx.refl _⟩
      · have h3' : decide (32 ≤ c.toNat) = false := by simpa using h3
        by_cases h4 : c = 9
        · have b4 : ((c.toNat : Int) == 9) = true := u8n c 9 (by omega) true (by rw [h4]; rfl)
          by_cases h5 : q = 34
          · rw [if_pos (Or.inr ⟨h4, h5⟩)]
            have b5 : ((q.toNat : Int) == 34) = true := u8n q 34 (by omega) true (by rw [h5]; rfl)
            clear h1 h2 h4 h5 CE
            go_enter Tryz.func59, Tryz.ntmps59
            go_wp2
            go_ret2
            exact ⟨rfl, Nx.refl _⟩
          · rw [if_neg (fun h => h.elim h3 (fun h => h5 h.2))]
            have b5 : ((q.toNat : Int) == 34) = false := u8n q 34 (by omega) false (beq_eq_false_iff_ne.2 (fun h => h5 h))
            clear h1 h2 h4 h5 CE
            go_enter Tryz.func59, Tryz.ntmps59
            go_wp2
            go_ret2
            exact ⟨rfl, Nx.refl _⟩
        · rw [if_neg (fun h => h.elim h3 (fun h => h4 h.1))]
          have b4 : ((c.toNat : Int) == 9) = false := u8n c 9 (by omega) false (beq_eq_false_iff_ne.2 (fun h => h4 h))
          clear h1 h2 h4 CE
          go_enter Tryz.func59, Tryz.ntmps59
          go_wp2
          go_ret2
          exact ⟨rfl, Nx.refl _⟩

theorem quoted_any (q : UInt8) (l : List UInt8) (w : World) (hl : l.length ≤ 1000000) : Calls Tryz.prog 59 #[.string (B l), .int .u8 q.toNat] w (RetBN (quoR q l) w) := by
  cases l with
  | nil => exact quoted_nil q w
  | cons c r => exact quoted_cons q c r w (by simp at hl; omega)

end Go.Proofs.YtdgmdkkockbkjaaGreatDoor

/- Contracts of typecaseref10: numbers. -/
namespace Go.Proofs.YtdgmdkkockbkjaaGreatDoor
open Go.RowKit
set_option linter.unusedVariables false
set_option linter.unusedSimpArgs false

theorem ext_take (l : List UInt8) (k : Nat) : ((B l).extract 0 k).toList = l.take k := by
  rw [ByteArray.toList_eq]
  simp [ByteArray.data_extract]

theorem ext_drop (l : List UInt8) (k : Nat) (h : k ≤ l.length) : (B l).extract k l.length = B (l.drop k) := by
  apply ByteArray.ext
  rw [ByteArray.data_extract]
  simp
  exact List.take_of_length_le (by rw [List.length_drop]; exact Nat.le_refl _)

def RetUN (r : Nat × Nat) (w : World) (e : Ending) (w' : World) : Prop := e = .returned (.tuple #[.int .u32 (r.1 : Nat), .int .i64 (r.2 : Nat)]) ∧ w = w'

theorem ret_un {a b c d : Int} (h : a = b) (h' : c = d) : Ending.returned (.tuple #[.int .u32 a, .int .i64 c]) = .returned (.tuple #[.int .u32 b, .int .i64 d]) := by rw [h, h']

theorem digV_le (c : UInt8) : digV c ≤ 300 := by
  have := byte_all (fun c => decide (digV c ≤ 300)) (by decide +kernel) c
  simpa using this

theorem valU_drop (base : Nat) (t : List UInt8) (j a : Nat) (x : UInt8) (h : t[j]? = some x) : valU base (t.drop j) a = if 4294967296 ≤ a * base + digV x then none else valU base (t.drop (j + 1)) (a * base + digV x) := by
  obtain ⟨h1, e1⟩ := List.getElem?_eq_some_iff.1 h
  rw [List.drop_eq_getElem_cons h1, e1, valU]

set_option maxHeartbeats 4000000 in
set_option maxRecDepth 100000 in
theorem num_ten (l : List UInt8) (w : World) (hl : l.length ≤ 1000000) (h2 : 1 < l.length) (hx : ¬ l.take 2 = [48, 120]) (hb : ¬ l.take 2 = [48, 98]) :
    Calls Tryz.prog 58 #[.string (B l)] w (RetUN (numR l) w) := by
  obtain ⟨k, hk⟩ : ∃ k, k = whileN digN (l.drop 0) := ⟨_, rfl⟩
  have CW := while_any (l.drop 0) digN w (by rw [List.length_drop]; omega) (by decide)
  rw [← hk, ← ext_drop l 0 (by omega)] at CW
  have CW := Lib.hid (show Calls Tryz.prog 57 #[.string ((B l).extract 0 l.length), .string { data := #[48, 49, 50, 51, 52, 53, 54, 55, 56, 57] }] w fun e w' => e = .returned (.int .i64 (k : Nat)) ∧ w = w' from CW)
  have hkl : k ≤ l.length := by
    have := whileN_le digN (l.drop 0)
    rw [List.length_drop] at this
    omega
  have HV := Lib.hid (show numR l = if k = 0 ∨ (0 + k < l.length ∧ goN.contains (l.getD (0 + k) 0) = true) then (0, 0) else match valU 10 ((l.drop 0).take k) 0 with
    | none => (0, 0)
    | some v => (v, 0 + k) by rw [hk]; unfold numR numFrom numBase numSet; simp only [if_neg hb, if_neg hx]; rfl)
  have q1 : (((B l).extract 0 2).toList == [48, 120]) = false := by rw [ext_take]; simpa using hx
  have q2 : (((B l).extract 0 2).toList == [48, 98]) = false := by rw [ext_take]; simpa using hb
  have HT := Lib.hid (show ∀ j, j < k → ((l.drop 0).take k)[j]? = l[0 + j]? by intro j hj; rw [List.getElem?_take_of_lt hj, List.getElem?_drop])
  have HTL := Lib.hid (show ((l.drop 0).take k).length = k by rw [List.length_take, List.length_drop]; omega)
  generalize numR l = V at *
  generalize (l.drop 0).take k = t at *
  have nI : (1 : Int) < l.length := by omega
  clear hk hx hb
  by_cases hk0 : k = 0
  · have hv := HV.out
    rw [if_pos (Or.inl hk0)] at hv
    subst hv
    subst hk0
    clear HV HT HTL
    go_enter Tryz.func58, Tryz.ntmps58
    go_wp2_with fail
    refine CW.out.mono ?_
    rintro e w1 ⟨rfl, rfl⟩
    go_wp2
    go_ret2
    exact ⟨rfl, rfl⟩
  · have z1 : (((k : Int)) == 0) = false := beq_eq_false_iff_ne.2 (by omega)
    have z2 : ((k : Int) == 0) = false := beq_eq_false_iff_ne.2 (by omega)
    by_cases hlt : k < l.length
    · have hltI : (k : Int) < (l.length : Int) := by omega
      have hk00 : 0 ≤ (k : Int) := by omega
      have htn : ((k : Int)).toNat = k := by omega
      obtain ⟨x, hx⟩ : ∃ x, l[k]? = some x := ⟨_, List.getElem?_eq_getElem hlt⟩
      have hgd : l.getD (0 + k) 0 = x := by rw [List.getD_eq_getElem?_getD, show 0 + k = k by omega, hx]; rfl
      obtain ⟨p1, e1⟩ := byte_at l (k) x hx
      have CI := in_any x goN w (by decide)
      cases hg : goN.contains x
      · rw [hg] at CI
        have CI := Lib.hid CI
        have hv := HV.out
        rw [hgd, hg, if_neg (by intro h; rcases h with h | h; exact hk0 h; exact absurd h.2 (by simp))] at hv
        have HV := Lib.hid hv
        clear hv hgd hg hx
        go_enter Tryz.func58, Tryz.ntmps58
        go_wp2_with fail
        refine CW.out.mono ?_
        rintro e w1 ⟨rfl, rfl⟩
        go_wp2_with fail
        refine CI.out.mono ?_
        rintro e w1 ⟨rfl, rfl⟩
        clear e1 p1
        go_wp2
        go_loop [8, 9] (fun vv iv => ∃ (j : Nat) (a : Int), j ≤ k ∧ iv = .int .i64 (j : Nat) ∧ vv = .int .u64 a ∧ 0 ≤ a ∧ a < 4294967296 ∧ Hid (V = match valU 10 (t.drop j) a.toNat with
          | none => (0, 0)
          | some v => (v, 0 + k))) (fun _ iv => l.length - (intOf iv).toNat)
        case atStart => exact ⟨0, 0, by omega, rfl, rfl, by omega, by omega, Lib.hid (by rw [HV.out]; rfl)⟩
        case round =>
          obtain ⟨j, a, hj, rfl, rfl, ha0, ha, HL⟩ := hrel
          by_cases hlj : j < k
          · obtain ⟨x, hx⟩ : ∃ x, l[j]? = some x := ⟨_, List.getElem?_eq_getElem (by omega)⟩
            have htx : t[j]? = some x := by rw [HT.out j hlj, show 0 + j = j by omega, hx]
            have hd := HL.out
            rw [valU_drop 10 t j a.toNat x htx] at hd
            obtain ⟨p2, e2⟩ := byte_at l (j) x hx
            have CD := digit_any x w
            have dle := digV_le x
            obtain ⟨d, hdd⟩ : ∃ d : Int, d = digV x := ⟨_, rfl⟩
            have d0 : 0 ≤ d := by omega
            have d1 : d ≤ 300 := by omega
            have hdn : digV x = d.toNat := by omega
            rw [← hdd] at CD
            rw [hdn] at hd
            clear hdd hdn dle
            have hjI : ((j : Nat) : Int) < l.length := by omega
            have hjK : ((j : Nat) : Int) < (k : Int) := by omega
            have CD := Lib.hid CD
            clear hx htx HL
            by_cases hbig : 4294967296 ≤ a * 10 + d
            · rw [if_pos (by omega)] at hd
              have HD := Lib.hid (show V = (0, 0) from hd)
              clear hd
              go_wp2_with (go_at_call 83; refine CD.out.mono ?_; rintro e w' ⟨rfl, rfl⟩)
              go_ret2
              exact ⟨by rw [HD.out]; rfl, rfl⟩
            · rw [if_neg (by omega)] at hd
              have e3 : a.toNat * 10 + d.toNat = (a * 10 + d).toNat := by omega
              rw [e3] at hd
              clear e3
              have HD := Lib.hid hd
              clear hd
              go_wp2_with (go_at_call 83; refine CD.out.mono ?_; rintro e w' ⟨rfl, rfl⟩)
              go_round
              case rel => exact ⟨j + 1, a * 10 + d, by omega, by go_num, rfl, by omega, by omega, HD⟩
              case measure => simp [intOf]; omega
          · obtain rfl : j = k := by omega
            have hd := HL.out
            rw [List.drop_eq_nil_of_le (by rw [HTL.out]; exact Nat.le_refl _)] at hd
            have HD := Lib.hid (show V = (a.toNat, 0 + j) from hd)
            have hjK : ¬ ((j : Nat) : Int) < (j : Int) := by omega
            clear hd HL
            go_wp2
            go_ret2
            exact ⟨ret_un (by first | (rw [HD.out]; done) | (rw [HD.out]; omega) | (rw [HD.out]; simp; omega)) (by first | (rw [HD.out]; done) | (rw [HD.out]; omega) | (rw [HD.out]; simp; omega)), rfl⟩
      · rw [hg] at CI
        have CI := Lib.hid CI
        have hv := HV.out
        rw [hgd, hg, if_pos (Or.inr ⟨by omega, rfl⟩)] at hv
        subst hv
        clear HV HT HTL hgd hg hx
        go_enter Tryz.func58, Tryz.ntmps58
        go_wp2_with fail
        refine CW.out.mono ?_
        rintro e w1 ⟨rfl, rfl⟩
        go_wp2_with fail
        refine CI.out.mono ?_
        rintro e w1 ⟨rfl, rfl⟩
        go_wp2
        go_ret2
        exact ⟨rfl, rfl⟩
    · have hltI : decide ((k : Int) < (l.length : Int)) = false := decide_eq_false (by omega)
      have hv := HV.out
      rw [if_neg (by intro h; rcases h with h | h; exact hk0 h; omega)] at hv
      have HV := Lib.hid hv
      clear hv
      go_enter Tryz.func58, Tryz.ntmps58
      go_wp2_with fail
      refine CW.out.mono ?_
      rintro e w1 ⟨rfl, rfl⟩
      go_wp2
      go_loop [8, 9] (fun vv iv => ∃ (j : Nat) (a : Int), j ≤ k ∧ iv = .int .i64 (j : Nat) ∧ vv = .int .u64 a ∧ 0 ≤ a ∧ a < 4294967296 ∧ Hid (V = match valU 10 (t.drop j) a.toNat with
        | none => (0, 0)
        | some v => (v, 0 + k))) (fun _ iv => l.length - (intOf iv).toNat)
      case atStart => exact ⟨0, 0, by omega, rfl, rfl, by omega, by omega, Lib.hid (by rw [HV.out]; rfl)⟩
      case round =>
        obtain ⟨j, a, hj, rfl, rfl, ha0, ha, HL⟩ := hrel
        by_cases hlj : j < k
        · obtain ⟨x, hx⟩ : ∃ x, l[j]? = some x := ⟨_, List.getElem?_eq_getElem (by omega)⟩
          have htx : t[j]? = some x := by rw [HT.out j hlj, show 0 + j = j by omega, hx]
          have hd := HL.out
          rw [valU_drop 10 t j a.toNat x htx] at hd
          obtain ⟨p2, e2⟩ := byte_at l (j) x hx
          have CD := digit_any x w
          have dle := digV_le x
          obtain ⟨d, hdd⟩ : ∃ d : Int, d = digV x := ⟨_, rfl⟩
          have d0 : 0 ≤ d := by omega
          have d1 : d ≤ 300 := by omega
          have hdn : digV x = d.toNat := by omega
          rw [← hdd] at CD
          rw [hdn] at hd
          clear hdd hdn dle
          have hjI : ((j : Nat) : Int) < l.length := by omega
          have hjK : ((j : Nat) : Int) < (k : Int) := by omega
          have CD := Lib.hid CD
          clear hx htx HL
          by_cases hbig : 4294967296 ≤ a * 10 + d
          · rw [if_pos (by omega)] at hd
            have HD := Lib.hid (show V = (0, 0) from hd)
            clear hd
            go_wp2_with (go_at_call 83; refine CD.out.mono ?_; rintro e w' ⟨rfl, rfl⟩)
            go_ret2
            exact ⟨by rw [HD.out]; rfl, rfl⟩
          · rw [if_neg (by omega)] at hd
            have e3 : a.toNat * 10 + d.toNat = (a * 10 + d).toNat := by omega
            rw [e3] at hd
            clear e3
            have HD := Lib.hid hd
            clear hd
            go_wp2_with (go_at_call 83; refine CD.out.mono ?_; rintro e w' ⟨rfl, rfl⟩)
            go_round
            case rel => exact ⟨j + 1, a * 10 + d, by omega, by go_num, rfl, by omega, by omega, HD⟩
            case measure => simp [intOf]; omega
        · obtain rfl : j = k := by omega
          have hd := HL.out
          rw [List.drop_eq_nil_of_le (by rw [HTL.out]; exact Nat.le_refl _)] at hd
          have HD := Lib.hid (show V = (a.toNat, 0 + j) from hd)
          have hjK : ¬ ((j : Nat) : Int) < (j : Int) := by omega
          clear hd HL
          go_wp2
          go_ret2
          exact ⟨ret_un (by first | (rw [HD.out]; done) | (rw [HD.out]; omega) | (rw [HD.out]; simp; omega)) (by first | (rw [HD.out]; done) | (rw [HD.out]; omega) | (rw [HD.out]; simp; omega)), rfl⟩

set_option maxHeartbeats 4000000 in
set_option maxRecDepth 100000 in
theorem num_one (l : List UInt8) (w : World) (hl : l.length ≤ 1000000) (h1 : l.length ≤ 1) :
    Calls Tryz.prog 58 #[.string (B l)] w (RetUN (numR l) w) := by
  have hx : ¬ l.take 2 = [48, 120] := fun h => by have := congrArg List.length h; simp at this; omega
  have hb : ¬ l.take 2 = [48, 98] := fun h => by have := congrArg List.length h; simp at this; omega
  obtain ⟨k, hk⟩ : ∃ k, k = whileN digN (l.drop 0) := ⟨_, rfl⟩
  have CW := while_any (l.drop 0) digN w (by rw [List.length_drop]; omega) (by decide)
  rw [← hk, ← ext_drop l 0 (by omega)] at CW
  have CW := Lib.hid (show Calls Tryz.prog 57 #[.string ((B l).extract 0 l.length), .string { data := #[48, 49, 50, 51, 52, 53, 54, 55, 56, 57] }] w fun e w' => e = .returned (.int .i64 (k : Nat)) ∧ w = w' from CW)
  have hkl : k ≤ l.length := by
    have := whileN_le digN (l.drop 0)
    rw [List.length_drop] at this
    omega
  have HV := Lib.hid (show numR l = if k = 0 ∨ (0 + k < l.length ∧ goN.contains (l.getD (0 + k) 0) = true) then (0, 0) else match valU 10 ((l.drop 0).take k) 0 with
    | none => (0, 0)
    | some v => (v, 0 + k) by rw [hk]; unfold numR numFrom numBase numSet; simp only [if_neg hb, if_neg hx]; rfl)
  have q1 : (((B l).extract 0 2).toList == [48, 120]) = false := by rw [ext_take]; simpa using hx
  have q2 : (((B l).extract 0 2).toList == [48, 98]) = false := by rw [ext_take]; simpa using hb
  have HT := Lib.hid (show ∀ j, j < k → ((l.drop 0).take k)[j]? = l[0 + j]? by intro j hj; rw [List.getElem?_take_of_lt hj, List.getElem?_drop])
  have HTL := Lib.hid (show ((l.drop 0).take k).length = k by rw [List.length_take, List.length_drop]; omega)
  generalize numR l = V at *
  generalize (l.drop 0).take k = t at *
  have nI : decide ((1 : Int) < l.length) = false := decide_eq_false (by omega)
  clear hk hx hb
  by_cases hk0 : k = 0
  · have hv := HV.out
    rw [if_pos (Or.inl hk0)] at hv
    subst hv
    subst hk0
    clear HV HT HTL
    go_enter Tryz.func58, Tryz.ntmps58
    go_wp2_with fail
    refine CW.out.mono ?_
    rintro e w1 ⟨rfl, rfl⟩
    go_wp2
    go_ret2
    exact ⟨rfl, rfl⟩
  · have z1 : (((k : Int)) == 0) = false := beq_eq_false_iff_ne.2 (by omega)
    have z2 : ((k : Int) == 0) = false := beq_eq_false_iff_ne.2 (by omega)
    by_cases hlt : k < l.length
    · exact absurd (by omega) hk0
    · have hltI : decide ((k : Int) < (l.length : Int)) = false := decide_eq_false (by omega)
      have hv := HV.out
      rw [if_neg (by intro h; rcases h with h | h; exact hk0 h; omega)] at hv
      have HV := Lib.hid hv
      clear hv
      go_enter Tryz.func58, Tryz.ntmps58
      go_wp2_with fail
      refine CW.out.mono ?_
      rintro e w1 ⟨rfl, rfl⟩
      go_wp2
      go_loop [8, 9] (fun vv iv => ∃ (j : Nat) (a : Int), j ≤ k ∧ iv = .int .i64 (j : Nat) ∧ vv = .int .u64 a ∧ 0 ≤ a ∧ a < 4294967296 ∧ Hid (V = match valU 10 (t.drop j) a.toNat with
        | none => (0, 0)
        | some v => (v, 0 + k))) (fun _ iv => l.length - (intOf iv).toNat)
      case atStart => exact ⟨0, 0, by omega, rfl, rfl, by omega, by omega, Lib.hid (by rw [HV.out]; rfl)⟩
      case round =>
        obtain ⟨j, a, hj, rfl, rfl, ha0, ha, HL⟩ := hrel
        by_cases hlj : j < k
        · obtain ⟨x, hx⟩ : ∃ x, l[j]? = some x := ⟨_, List.getElem?_eq_getElem (by omega)⟩
          have htx : t[j]? = some x := by rw [HT.out j hlj, show 0 + j = j by omega, hx]
          have hd := HL.out
          rw [valU_drop 10 t j a.toNat x htx] at hd
          obtain ⟨p2, e2⟩ := byte_at l (j) x hx
          have CD := digit_any x w
          have dle := digV_le x
          obtain ⟨d, hdd⟩ : ∃ d : Int, d = digV x := ⟨_, rfl⟩
          have d0 : 0 ≤ d := by omega
          have d1 : d ≤ 300 := by omega
          have hdn : digV x = d.toNat := by omega
          rw [← hdd] at CD
          rw [hdn] at hd
          clear hdd hdn dle
          have hjI : ((j : Nat) : Int) < l.length := by omega
          have hjK : ((j : Nat) : Int) < (k : Int) := by omega
          have CD := Lib.hid CD
          clear hx htx HL
          by_cases hbig : 4294967296 ≤ a * 10 + d
          · rw [if_pos (by omega)] at hd
            have HD := Lib.hid (show V = (0, 0) from hd)
            clear hd
            go_wp2_with (go_at_call 83; refine CD.out.mono ?_; rintro e w' ⟨rfl, rfl⟩)
            go_ret2
            exact ⟨by rw [HD.out]; rfl, rfl⟩
          · rw [if_neg (by omega)] at hd
            have e3 : a.toNat * 10 + d.toNat = (a * 10 + d).toNat := by omega
            rw [e3] at hd
            clear e3
            have HD := Lib.hid hd
            clear hd
            go_wp2_with (go_at_call 83; refine CD.out.mono ?_; rintro e w' ⟨rfl, rfl⟩)
            go_round
            case rel => exact ⟨j + 1, a * 10 + d, by omega, by go_num, rfl, by omega, by omega, HD⟩
            case measure => simp [intOf]; omega
        · obtain rfl : j = k := by omega
          have hd := HL.out
          rw [List.drop_eq_nil_of_le (by rw [HTL.out]; exact Nat.le_refl _)] at hd
          have HD := Lib.hid (show V = (a.toNat, 0 + j) from hd)
          have hjK : ¬ ((j : Nat) : Int) < (j : Int) := by omega
          clear hd HL
          go_wp2
          go_ret2
          exact ⟨ret_un (by first | (rw [HD.out]; done) | (rw [HD.out]; omega) | (rw [HD.out]; simp; omega)) (by first | (rw [HD.out]; done) | (rw [HD.out]; omega) | (rw [HD.out]; simp; omega)), rfl⟩

set_option maxHeartbeats 4000000 in
set_option maxRecDepth 100000 in
theorem num_hex (l : List UInt8) (w : World) (hl : l.length ≤ 1000000) (hx : l.take 2 = [48, 120]) :
    Calls Tryz.prog 58 #[.string (B l)] w (RetUN (numR l) w) := by
  have h2 : 2 ≤ l.length := by
    rcases Nat.lt_or_ge l.length 2 with h | h
    · have := congrArg List.length hx
      simp at this
      omega
    · exact h
  obtain ⟨k, hk⟩ : ∃ k, k = whileN hexN (l.drop 2) := ⟨_, rfl⟩
  have CW := while_any (l.drop 2) hexN w (by rw [List.length_drop]; omega) (by decide)
  rw [← hk, ← ext_drop l 2 (by omega)] at CW
  have CW := Lib.hid (show Calls Tryz.prog 57 #[.string ((B l).extract 2 l.length), .string { data := #[48, 49, 50, 51, 52, 53, 54, 55, 56, 57, 97, 98, 99, 100, 101, 102, 65, 66, 67, 68, 69, 70] }] w fun e w' => e = .returned (.int .i64 (k : Nat)) ∧ w = w' from CW)
  have hkl : 2 + k ≤ l.length := by
    have := whileN_le hexN (l.drop 2)
    rw [List.length_drop] at this
    omega
  have HV := Lib.hid (show numR l = if k = 0 ∨ (2 + k < l.length ∧ goN.contains (l.getD (2 + k) 0) = true) then (0, 0) else match valU 16 ((l.drop 2).take k) 0 with
    | none => (0, 0)
    | some v => (v, 2 + k) by rw [hk]; unfold numR numFrom numBase numSet; simp only [hx]; rfl)
  have q1 : (((B l).extract 0 2).toList == [48, 120]) = true := by rw [ext_take, hx]; rfl
  have q2 : (((B l).extract 0 2).toList == [48, 98]) = false := by rw [ext_take, hx]; rfl
  have HT := Lib.hid (show ∀ j, j < k → ((l.drop 2).take k)[j]? = l[2 + j]? by intro j hj; rw [List.getElem?_take_of_lt hj, List.getElem?_drop])
  have HTL := Lib.hid (show ((l.drop 2).take k).length = k by rw [List.length_take, List.length_drop]; omega)
  generalize numR l = V at *
  generalize (l.drop 2).take k = t at *
  have nI : (1 : Int) < l.length := by omega
  clear hk hx
  by_cases hk0 : k = 0
  · have hv := HV.out
    rw [if_pos (Or.inl hk0)] at hv
    subst hv
    subst hk0
    clear HV HT HTL
    go_enter Tryz.func58, Tryz.ntmps58
    go_wp2_with fail
    refine CW.out.mono ?_
    rintro e w1 ⟨rfl, rfl⟩
    go_wp2
    go_ret2
    exact ⟨rfl, rfl⟩
  · have z1 : (((2 : Int) + k) == 2) = false := beq_eq_false_iff_ne.2 (by omega)
    have z2 : ((k : Int) == 0) = false := beq_eq_false_iff_ne.2 (by omega)
    by_cases hlt : 2 + k < l.length
    · have hltI : (2 : Int) + k < (l.length : Int) := by omega
      have hk00 : 0 ≤ (2 : Int) + k := by omega
      have htn : ((2 : Int) + k).toNat = 2 + k := by omega
      obtain ⟨x, hx⟩ : ∃ x, l[2 + k]? = some x := ⟨_, List.getElem?_eq_getElem hlt⟩
      have hgd : l.getD (2 + k) 0 = x := by rw [List.getD_eq_getElem?_getD, show 2 + k = 2 + k by omega, hx]; rfl
      obtain ⟨p1, e1⟩ := byte_at l (2 + k) x hx
      have CI := in_any x goN w (by decide)
      cases hg : goN.contains x
      · rw [hg] at CI
        have CI := Lib.hid CI
        have hv := HV.out
        rw [hgd, hg, if_neg (by intro h; rcases h with h | h; exact hk0 h; exact absurd h.2 (by simp))] at hv
        have HV := Lib.hid hv
        clear hv hgd hg hx
        go_enter Tryz.func58, Tryz.ntmps58
        go_wp2_with fail
        refine CW.out.mono ?_
        rintro e w1 ⟨rfl, rfl⟩
        go_wp2_with fail
        refine CI.out.mono ?_
        rintro e w1 ⟨rfl, rfl⟩
        clear e1 p1
        go_wp2
        go_loop [8, 9] (fun vv iv => ∃ (j : Nat) (a : Int), j ≤ k ∧ iv = .int .i64 (2 + j : Nat) ∧ vv = .int .u64 a ∧ 0 ≤ a ∧ a < 4294967296 ∧ Hid (V = match valU 16 (t.drop j) a.toNat with
          | none => (0, 0)
          | some v => (v, 2 + k))) (fun _ iv => l.length - (intOf iv).toNat)
        case atStart => exact ⟨0, 0, by omega, rfl, rfl, by omega, by omega, Lib.hid (by rw [HV.out]; rfl)⟩
        case round =>
          obtain ⟨j, a, hj, rfl, rfl, ha0, ha, HL⟩ := hrel
          by_cases hlj : j < k
          · obtain ⟨x, hx⟩ : ∃ x, l[2 + j]? = some x := ⟨_, List.getElem?_eq_getElem (by omega)⟩
            have htx : t[j]? = some x := by rw [HT.out j hlj, show 2 + j = 2 + j by omega, hx]
            have hd := HL.out
            rw [valU_drop 16 t j a.toNat x htx] at hd
            obtain ⟨p2, e2⟩ := byte_at l (2 + j) x hx
            have CD := digit_any x w
            have dle := digV_le x
            obtain ⟨d, hdd⟩ : ∃ d : Int, d = digV x := ⟨_, rfl⟩
            have d0 : 0 ≤ d := by omega
            have d1 : d ≤ 300 := by omega
            have hdn : digV x = d.toNat := by omega
            rw [← hdd] at CD
            rw [hdn] at hd
            clear hdd hdn dle
            have hjI : ((2 + j : Nat) : Int) < l.length := by omega
            have hjK : ((2 + j : Nat) : Int) < (2 : Int) + k := by omega
            have CD := Lib.hid CD
            clear hx htx HL
            by_cases hbig : 4294967296 ≤ a * 16 + d
            · rw [if_pos (by omega)] at hd
              have HD := Lib.hid (show V = (0, 0) from hd)
              clear hd
              go_wp2_with (go_at_call 83; refine CD.out.mono ?_; rintro e w' ⟨rfl, rfl⟩)
              go_ret2
              exact ⟨by rw [HD.out]; rfl, rfl⟩
            · rw [if_neg (by omega)] at hd
              have e3 : a.toNat * 16 + d.toNat = (a * 16 + d).toNat := by omega
              rw [e3] at hd
              clear e3
              have HD := Lib.hid hd
              clear hd
              go_wp2_with (go_at_call 83; refine CD.out.mono ?_; rintro e w' ⟨rfl, rfl⟩)
              go_round
              case rel => exact ⟨j + 1, a * 16 + d, by omega, by go_num, rfl, by omega, by omega, HD⟩
              case measure => simp [intOf]; omega
          · obtain rfl : j = k := by omega
            have hd := HL.out
            rw [List.drop_eq_nil_of_le (by rw [HTL.out]; exact Nat.le_refl _)] at hd
            have HD := Lib.hid (show V = (a.toNat, 2 + j) from hd)
            have hjK : ¬ ((2 + j : Nat) : Int) < (2 : Int) + j := by omega
            clear hd HL
            go_wp2
            go_ret2
            exact ⟨ret_un (by first | (rw [HD.out]; done) | (rw [HD.out]; omega) | (rw [HD.out]; simp; omega)) (by first | (rw [HD.out]; done) | (rw [HD.out]; omega) | (rw [HD.out]; simp; omega)), rfl⟩
      · rw [hg] at CI
        have CI := Lib.hid CI
        have hv := HV.out
        rw [hgd, hg, if_pos (Or.inr ⟨by omega, rfl⟩)] at hv
        subst hv
        clear HV HT HTL hgd hg hx
        go_enter Tryz.func58, Tryz.ntmps58
        go_wp2_with fail
        refine CW.out.mono ?_
        rintro e w1 ⟨rfl, rfl⟩
        go_wp2_with fail
        refine CI.out.mono ?_
        rintro e w1 ⟨rfl, rfl⟩
        go_wp2
        go_ret2
        exact ⟨rfl, rfl⟩
    · have hltI : decide ((2 : Int) + k < (l.length : Int)) = false := decide_eq_false (by omega)
      have hv := HV.out
      rw [if_neg (by intro h; rcases h with h | h; exact hk0 h; omega)] at hv
      have HV := Lib.hid hv
      clear hv
      go_enter Tryz.func58, Tryz.ntmps58
      go_wp2_with fail
      refine CW.out.mono ?_
      rintro e w1 ⟨rfl, rfl⟩
      go_wp2
      go_loop [8, 9] (fun vv iv => ∃ (j : Nat) (a : Int), j ≤ k ∧ iv = .int .i64 (2 + j : Nat) ∧ vv = .int .u64 a ∧ 0 ≤ a ∧ a < 4294967296 ∧ Hid (V = match valU 16 (t.drop j) a.toNat with
        | none => (0, 0)
        | some v => (v, 2 + k))) (fun _ iv => l.length - (intOf iv).toNat)
      case atStart => exact ⟨0, 0, by omega, rfl, rfl, by omega, by omega, Lib.hid (by rw [HV.out]; rfl)⟩
      case round =>
        obtain ⟨j, a, hj, rfl, rfl, ha0, ha, HL⟩ := hrel
        by_cases hlj : j < k
        · obtain ⟨x, hx⟩ : ∃ x, l[2 + j]? = some x := ⟨_, List.getElem?_eq_getElem (by omega)⟩
          have htx : t[j]? = some x := by rw [HT.out j hlj, show 2 + j = 2 + j by omega, hx]
          have hd := HL.out
          rw [valU_drop 16 t j a.toNat x htx] at hd
          obtain ⟨p2, e2⟩ := byte_at l (2 + j) x hx
          have CD := digit_any x w
          have dle := digV_le x
          obtain ⟨d, hdd⟩ : ∃ d : Int, d = digV x := ⟨_, rfl⟩
          have d0 : 0 ≤ d := by omega
          have d1 : d ≤ 300 := by omega
          have hdn : digV x = d.toNat := by omega
          rw [← hdd] at CD
          rw [hdn] at hd
          clear hdd hdn dle
          have hjI : ((2 + j : Nat) : Int) < l.length := by omega
          have hjK : ((2 + j : Nat) : Int) < (2 : Int) + k := by omega
          have CD := Lib.hid CD
          clear hx htx HL
          by_cases hbig : 4294967296 ≤ a * 16 + d
          · rw [if_pos (by omega)] at hd
            have HD := Lib.hid (show V = (0, 0) from hd)
            clear hd
            go_wp2_with (go_at_call 83; refine CD.out.mono ?_; rintro e w' ⟨rfl, rfl⟩)
            go_ret2
            exact ⟨by rw [HD.out]; rfl, rfl⟩
          · rw [if_neg (by omega)] at hd
            have e3 : a.toNat * 16 + d.toNat = (a * 16 + d).toNat := by omega
            rw [e3] at hd
            clear e3
            have HD := Lib.hid hd
            clear hd
            go_wp2_with (go_at_call 83; refine CD.out.mono ?_; rintro e w' ⟨rfl, rfl⟩)
            go_round
            case rel => exact ⟨j + 1, a * 16 + d, by omega, by go_num, rfl, by omega, by omega, HD⟩
            case measure => simp [intOf]; omega
        · obtain rfl : j = k := by omega
          have hd := HL.out
          rw [List.drop_eq_nil_of_le (by rw [HTL.out]; exact Nat.le_refl _)] at hd
          have HD := Lib.hid (show V = (a.toNat, 2 + j) from hd)
          have hjK : ¬ ((2 + j : Nat) : Int) < (2 : Int) + j := by omega
          clear hd HL
          go_wp2
          go_ret2
          exact ⟨ret_un (by first | (rw [HD.out]; done) | (rw [HD.out]; omega) | (rw [HD.out]; simp; omega)) (by first | (rw [HD.out]; done) | (rw [HD.out]; omega) | (rw [HD.out]; simp; omega)), rfl⟩

set_option maxHeartbeats 4000000 in
set_option maxRecDepth 100000 in
theorem num_two (l : List UInt8) (w : World) (hl : l.length ≤ 1000000) (hb : l.take 2 = [48, 98]) :
    Calls Tryz.prog 58 #[.string (B l)] w (RetUN (numR l) w) := by
  have h2 : 2 ≤ l.length := by
    rcases Nat.lt_or_ge l.length 2 with h | h
    · have := congrArg List.length hb
      simp at this
      omega
    · exact h
  obtain ⟨k, hk⟩ : ∃ k, k = whileN [48, 49] (l.drop 2) := ⟨_, rfl⟩
  have CW := while_any (l.drop 2) [48, 49] w (by rw [List.length_drop]; omega) (by decide)
  rw [← hk, ← ext_drop l 2 (by omega)] at CW
  have CW := Lib.hid (show Calls Tryz.prog 57 #[.string ((B l).extract 2 l.length), .string { data := #[48, 49] }] w fun e w' => e = .returned (.int .i64 (k : Nat)) ∧ w = w' from CW)
  have hkl : 2 + k ≤ l.length := by
    have := whileN_le [48, 49] (l.drop 2)
    rw [List.length_drop] at this
    omega
  have HV := Lib.hid (show numR l = if k = 0 ∨ (2 + k < l.length ∧ goN.contains (l.getD (2 + k) 0) = true) then (0, 0) else match valU 2 ((l.drop 2).take k) 0 with
    | none => (0, 0)
    | some v => (v, 2 + k) by rw [hk]; unfold numR numFrom numBase numSet; simp only [hb]; rfl)
  have q1 : (((B l).extract 0 2).toList == [48, 120]) = false := by rw [ext_take, hb]; rfl
  have q2 : (((B l).extract 0 2).toList == [48, 98]) = true := by rw [ext_take, hb]; rfl
  have HT := Lib.hid (show ∀ j, j < k → ((l.drop 2).take k)[j]? = l[2 + j]? by intro j hj; rw [List.getElem?_take_of_lt hj, List.getElem?_drop])
  have HTL := Lib.hid (show ((l.drop 2).take k).length = k by rw [List.length_take, List.length_drop]; omega)
  generalize numR l = V at *
  generalize (l.drop 2).take k = t at *
  have nI : (1 : Int) < l.length := by omega
  clear hk hb
  by_cases hk0 : k = 0
  · have hv := HV.out
    rw [if_pos (Or.inl hk0)] at hv
    subst hv
    subst hk0
    clear HV HT HTL
    go_enter Tryz.func58, Tryz.ntmps58
    go_wp2_with fail
    refine CW.out.mono ?_
    rintro e w1 ⟨rfl, rfl⟩
    go_wp2
    go_ret2
    exact ⟨rfl, rfl⟩
  · have z1 : (((2 : Int) + k) == 2) = false := beq_eq_false_iff_ne.2 (by omega)
    have z2 : ((k : Int) == 0) = false := beq_eq_false_iff_ne.2 (by omega)
    by_cases hlt : 2 + k < l.length
    · have hltI : (2 : Int) + k < (l.length : Int) := by omega
      have hk00 : 0 ≤ (2 : Int) + k := by omega
      have htn : ((2 : Int) + k).toNat = 2 + k := by omega
      obtain ⟨x, hx⟩ : ∃ x, l[2 + k]? = some x := ⟨_, List.getElem?_eq_getElem hlt⟩
      have hgd : l.getD (2 + k) 0 = x := by rw [List.getD_eq_getElem?_getD, show 2 + k = 2 + k by omega, hx]; rfl
      obtain ⟨p1, e1⟩ := byte_at l (2 + k) x hx
      have CI := in_any x goN w (by decide)
      cases hg : goN.contains x
      · rw [hg] at CI
        have CI := Lib.hid CI
        have hv := HV.out
        rw [hgd, hg, if_neg (by intro h; rcases h with h | h; exact hk0 h; exact absurd h.2 (by simp))] at hv
        have HV := Lib.hid hv
        clear hv hgd hg hx
        go_enter Tryz.func58, Tryz.ntmps58
        go_wp2_with fail
        refine CW.out.mono ?_
        rintro e w1 ⟨rfl, rfl⟩
        go_wp2_with fail
        refine CI.out.mono ?_
        rintro e w1 ⟨rfl, rfl⟩
        clear e1 p1
        go_wp2
        go_loop [8, 9] (fun vv iv => ∃ (j : Nat) (a : Int), j ≤ k ∧ iv = .int .i64 (2 + j : Nat) ∧ vv = .int .u64 a ∧ 0 ≤ a ∧ a < 4294967296 ∧ Hid (V = match valU 2 (t.drop j) a.toNat with
          | none => (0, 0)
          | some v => (v, 2 + k))) (fun _ iv => l.length - (intOf iv).toNat)
        case atStart => exact ⟨0, 0, by omega, rfl, rfl, by omega, by omega, Lib.hid (by rw [HV.out]; rfl)⟩
        case round =>
          obtain ⟨j, a, hj, rfl, rfl, ha0, ha, HL⟩ := hrel
          by_cases hlj : j < k
          · obtain ⟨x, hx⟩ : ∃ x, l[2 + j]? = some x := ⟨_, List.getElem?_eq_getElem (by omega)⟩
            have htx : t[j]? = some x := by rw [HT.out j hlj, show 2 + j = 2 + j by omega, hx]
            have hd := HL.out
            rw [valU_drop 2 t j a.toNat x htx] at hd
            obtain ⟨p2, e2⟩ := byte_at l (2 + j) x hx
            have CD := digit_any x w
            have dle := digV_le x
            obtain ⟨d, hdd⟩ : ∃ d : Int, d = digV x := ⟨_, rfl⟩
            have d0 : 0 ≤ d := by omega
            have d1 : d ≤ 300 := by omega
            have hdn : digV x = d.toNat := by omega
            rw [← hdd] at CD
            rw [hdn] at hd
            clear hdd hdn dle
            have hjI : ((2 + j : Nat) : Int) < l.length := by omega
            have hjK : ((2 + j : Nat) : Int) < (2 : Int) + k := by omega
            have CD := Lib.hid CD
            clear hx htx HL
            by_cases hbig : 4294967296 ≤ a * 2 + d
            · rw [if_pos (by omega)] at hd
              have HD := Lib.hid (show V = (0, 0) from hd)
              clear hd
              go_wp2_with (go_at_call 83; refine CD.out.mono ?_; rintro e w' ⟨rfl, rfl⟩)
              go_ret2
              exact ⟨by rw [HD.out]; rfl, rfl⟩
            · rw [if_neg (by omega)] at hd
              have e3 : a.toNat * 2 + d.toNat = (a * 2 + d).toNat := by omega
              rw [e3] at hd
              clear e3
              have HD := Lib.hid hd
              clear hd
              go_wp2_with (go_at_call 83; refine CD.out.mono ?_; rintro e w' ⟨rfl, rfl⟩)
              go_round
              case rel => exact ⟨j + 1, a * 2 + d, by omega, by go_num, rfl, by omega, by omega, HD⟩
              case measure => simp [intOf]; omega
          · obtain rfl : j = k := by omega
            have hd := HL.out
            rw [List.drop_eq_nil_of_le (by rw [HTL.out]; exact Nat.le_refl _)] at hd
            have HD := Lib.hid (show V = (a.toNat, 2 + j) from hd)
            have hjK : ¬ ((2 + j : Nat) : Int) < (2 : Int) + j := by omega
            clear hd HL
            go_wp2
            go_ret2
            exact ⟨ret_un (by first | (rw [HD.out]; done) | (rw [HD.out]; omega) | (rw [HD.out]; simp; omega)) (by first | (rw [HD.out]; done) | (rw [HD.out]; omega) | (rw [HD.out]; simp; omega)), rfl⟩
      · rw [hg] at CI
        have CI := Lib.hid CI
        have hv := HV.out
        rw [hgd, hg, if_pos (Or.inr ⟨by omega, rfl⟩)] at hv
        subst hv
        clear HV HT HTL hgd hg hx
        go_enter Tryz.func58, Tryz.ntmps58
        go_wp2_with fail
        refine CW.out.mono ?_
        rintro e w1 ⟨rfl, rfl⟩
        go_wp2_with fail
        refine CI.out.mono ?_
        rintro e w1 ⟨rfl, rfl⟩
        go_wp2
        go_ret2
        exact ⟨rfl, rfl⟩
    · have hltI : decide ((2 : Int) + k < (l.length : Int)) = false := decide_eq_false (by omega)
      have hv := HV.out
      rw [if_neg (by intro h; rcases h with h | h; exact hk0 h; omega)] at hv
      have HV := Lib.hid hv
      clear hv
      go_enter Tryz.func58, Tryz.ntmps58
      go_wp2_with fail
      refine CW.out.mono ?_
      rintro e w1 ⟨rfl, rfl⟩
      go_wp2
      go_loop [8, 9] (fun vv iv => ∃ (j : Nat) (a : Int), j ≤ k ∧ iv = .int .i64 (2 + j : Nat) ∧ vv = .int .u64 a ∧ 0 ≤ a ∧ a < 4294967296 ∧ Hid (V = match valU 2 (t.drop j) a.toNat with
        | none => (0, 0)
        | some v => (v, 2 + k))) (fun _ iv => l.length - (intOf iv).toNat)
      case atStart => exact ⟨0, 0, by omega, rfl, rfl, by omega, by omega, Lib.hid (by rw [HV.out]; rfl)⟩
      case round =>
        obtain ⟨j, a, hj, rfl, rfl, ha0, ha, HL⟩ := hrel
        by_cases hlj : j < k
        · obtain ⟨x, hx⟩ : ∃ x, l[2 + j]? = some x := ⟨_, List.getElem?_eq_getElem (by omega)⟩
          have htx : t[j]? = some x := by rw [HT.out j hlj, show 2 + j = 2 + j by omega, hx]
          have hd := HL.out
          rw [valU_drop 2 t j a.toNat x htx] at hd
          obtain ⟨p2, e2⟩ := byte_at l (2 + j) x hx
          have CD := digit_any x w
          have dle := digV_le x
          obtain ⟨d, hdd⟩ : ∃ d : Int, d = digV x := ⟨_, rfl⟩
          have d0 : 0 ≤ d := by omega
          have d1 : d ≤ 300 := by omega
          have hdn : digV x = d.toNat := by omega
          rw [← hdd] at CD
          rw [hdn] at hd
          clear hdd hdn dle
          have hjI : ((2 + j : Nat) : Int) < l.length := by omega
          have hjK : ((2 + j : Nat) : Int) < (2 : Int) + k := by omega
          have CD := Lib.hid CD
          clear hx htx HL
          by_cases hbig : 4294967296 ≤ a * 2 + d
          · rw [if_pos (by omega)] at hd
            have HD := Lib.hid (show V = (0, 0) from hd)
            clear hd
            go_wp2_with (go_at_call 83; refine CD.out.mono ?_; rintro e w' ⟨rfl, rfl⟩)
            go_ret2
            exact ⟨by rw [HD.out]; rfl, rfl⟩
          · rw [if_neg (by omega)] at hd
            have e3 : a.toNat * 2 + d.toNat = (a * 2 + d).toNat := by omega
            rw [e3] at hd
            clear e3
            have HD := Lib.hid hd
            clear hd
            go_wp2_with (go_at_call 83; refine CD.out.mono ?_; rintro e w' ⟨rfl, rfl⟩)
            go_round
            case rel => exact ⟨j + 1, a * 2 + d, by omega, by go_num, rfl, by omega, by omega, HD⟩
            case measure => simp [intOf]; omega
        · obtain rfl : j = k := by omega
          have hd := HL.out
          rw [List.drop_eq_nil_of_le (by rw [HTL.out]; exact Nat.le_refl _)] at hd
          have HD := Lib.hid (show V = (a.toNat, 2 + j) from hd)
          have hjK : ¬ ((2 + j : Nat) : Int) < (2 : Int) + j := by omega
          clear hd HL
          go_wp2
          go_ret2
          exact ⟨ret_un (by first | (rw [HD.out]; done) | (rw [HD.out]; omega) | (rw [HD.out]; simp; omega)) (by first | (rw [HD.out]; done) | (rw [HD.out]; omega) | (rw [HD.out]; simp; omega)), rfl⟩

theorem rnumr_any (l : List UInt8) (w : World) (hl : l.length ≤ 1000000) : Calls Tryz.prog 58 #[.string (B l)] w (RetUN (numR l) w) := by
  by_cases h : 1 < l.length
  · by_cases hx : l.take 2 = [48, 120]
    · exact num_hex l w hl hx
    · by_cases hb : l.take 2 = [48, 98]
      · exact num_two l w hl hb
      · exact num_ten l w hl h hx hb
  · exact num_one l w hl (by omega)

end Go.Proofs.YtdgmdkkockbkjaaGreatDoor

/- Contracts of typecaseref10: a text. -/
namespace Go.Proofs.YtdgmdkkockbkjaaGreatDoor
open Go.RowKit
set_option linter.unusedVariables false
set_option linter.unusedSimpArgs false

theorem txt_fuel : ∀ (f : Nat) (s : List UInt8), s.length ≤ f → ∀ g, s.length ≤ g → txtR f s = txtR g s := by
  intro f
  induction f with
  | zero =>
    intro s h g hg
    obtain rfl : s = [] := List.eq_nil_of_length_eq_zero (by omega)
    cases g with
    | zero => rfl
    | succ g => rfl
  | succ f ih =>
    intro s h g hg
    cases g with
    | zero =>
      obtain rfl : s = [] := List.eq_nil_of_length_eq_zero (by omega)
      rfl
    | succ g =>
      unfold txtR
      by_cases h0 : (quoR 34 s).2 = 0
      · rw [if_pos h0, if_pos h0]
      · rw [if_neg h0, if_neg h0]
        have hd : (s.drop (quoR 34 s).2).length = s.length - (quoR 34 s).2 := List.length_drop
        rw [ih _ (by omega) g (by omega)]

def txtT (s : List UInt8) : List UInt8 × Nat := txtR s.length s

theorem txtT_stop (s : List UInt8) (h : (quoR 34 s).2 = 0) : txtT s = ([], 0) := by
  unfold txtT
  cases hs : s.length with
  | zero => rfl
  | succ n => unfold txtR; rw [if_pos h]

theorem txtT_go (s : List UInt8) (h : ¬ (quoR 34 s).2 = 0) : txtT s = ((quoR 34 s).1 :: (txtT (s.drop (quoR 34 s).2)).1, (quoR 34 s).2 + (txtT (s.drop (quoR 34 s).2)).2) := by
  have hle := quoR_le 34 s
  have hd : (s.drop (quoR 34 s).2).length = s.length - (quoR 34 s).2 := List.length_drop
  unfold txtT
  cases hs : s.length with
  | zero => omega
  | succ n =>
    rw [txtR, if_neg h, txt_fuel n _ (by omega) (s.drop (quoR 34 s).2).length (Nat.le_refl _)]

theorem textR_T (l : List UInt8) : textR l = if 1 + (txtT (l.drop 1)).2 < l.length ∧ l.getD (1 + (txtT (l.drop 1)).2) 0 = 34 then ((txtT (l.drop 1)).1, 1 + (txtT (l.drop 1)).2 + 1) else ([], 0) := by
  have e : txtR l.length (l.drop 1) = txtT (l.drop 1) := txt_fuel _ _ (by rw [List.length_drop]; omega) _ (Nat.le_refl _)
  unfold textR
  rw [e]

theorem B_app (o : List UInt8) (c : UInt8) : B o ++ { data := #[c] } = B (o ++ [c]) := by
  apply ByteArray.ext
  rw [ByteArray.data_append]
  simp

theorem conv_one (c : UInt8) (w : World) : (convert 32 9 (.slice (some ⟨w.heap.size, 0, none⟩) 1 1)).run Tryz.prog (w.alloc (.cells #[.int .u8 c.toNat] 5)) = .ok (.string ⟨#[c]⟩) (w.alloc (.cells #[.int .u8 c.toNat] 5)) := by
  refine run_convert_bytes_back (P := Tryz.prog) _ 32 9 5 ⟨w.heap.size, 0, none⟩ 1 [c] Tryz.underlying32 Tryz.underlying5 Tryz.underlying9 (fun j hj => ?_)
  have hj0 : j = 0 := by simpa using hj
  subst hj0
  simp [Addr.add]

def RetSN (r : List UInt8 × Nat) (w : World) (e : Ending) (w' : World) : Prop := e = .returned (.tuple #[.string (B r.1), .int .i64 (r.2 : Nat)]) ∧ Nx w w'

set_option maxHeartbeats 4000000 in
set_option maxRecDepth 100000 in
theorem text_any (l : List UInt8) (w : World) (h1 : 1 ≤ l.length) (hl : l.length ≤ 1000000) : Calls Tryz.prog 60 #[.string (B l)] w (RetSN (textR l) w) := by
  have HV := Lib.hid (textR_T l)
  generalize textR l = V at *
  have h1I : (1 : Int) ≤ l.length := by omega
  go_enter Tryz.func60, Tryz.ntmps60
  go_wp2
  go_loopw [4, 5] (fun ov iv wr => ∃ (i : Nat) (o : List UInt8), 1 ≤ i ∧ i ≤ l.length ∧ iv = .int .i64 i ∧ ov = .string (B o) ∧ o.length ≤ i ∧ Nx w wr ∧ Hid (txtT (l.drop 1) = (o ++ (txtT (l.drop i)).1, i - 1 + (txtT (l.drop i)).2))) (fun _ iv _ => l.length - (intOf iv).toNat)
  case atStart => exact ⟨1, [], by omega, h1, rfl, rfl, by simp, Nx.refl _, Lib.hid (by simp)⟩
  case round =>
    obtain ⟨i, o, hi1, hi2, rfl, rfl, ho, hn, HT⟩ := hrel
    have HN := Lib.hid hn
    clear hn
    have CQ := quoted_any 34 (l.drop i) wr (by rw [List.length_drop]; omega)
    rw [← ext_drop l i hi2] at CQ
    have hqle := quoR_le 34 (l.drop i)
    rw [List.length_drop] at hqle
    have CQ := Lib.hid (show Calls Tryz.prog 59 #[.string ((B l).extract i l.length), .int .u8 34] wr (RetBN (quoR 34 (l.drop i)) wr) from CQ)
    have hiI : (i : Int) ≤ l.length := by omega
    by_cases hq : (quoR 34 (l.drop i)).2 = 0
    · have hT := HT.out
      rw [txtT_stop _ hq] at hT
      have hv := HV.out
      rw [hT] at hv
      simp only [List.append_nil, Nat.add_zero] at hv
      rw [show 1 + (i - 1) = i by omega] at hv
      have hz : (((quoR 34 (l.drop i)).2 : Int) == 0) = true := by rw [hq]; rfl
      generalize quoR 34 (l.drop i) = q at *
      clear hT HT hq
      by_cases hlt : i < l.length
      · obtain ⟨x, hx⟩ : ∃ x, l[i]? = some x := ⟨_, List.getElem?_eq_getElem hlt⟩
        have hgd : l.getD i 0 = x := by rw [List.getD_eq_getElem?_getD, hx]; rfl
        obtain ⟨p1, e1⟩ := byte_at l i x hx
        rw [hgd] at hv
        by_cases hxq : x = 34
        · rw [if_pos ⟨hlt, hxq⟩] at hv
          subst hv
          have bx : ((x.toNat : Int) == 34) = true := u8n x 34 (by omega) true (by rw [hxq]; rfl)
          clear hxq hgd hx HV
          go_wp2_with (go_at_call 59; refine CQ.out.mono ?_; rintro e w2 ⟨rfl, hn2⟩; have HN2 := Lib.hid (HN.out.trans hn2); clear hn2)
          go_ret2
          exact ⟨rfl, HN2.out⟩
        · rw [if_neg (fun h => hxq h.2)] at hv
          subst hv
          have bx : ((x.toNat : Int) == 34) = false := u8n x 34 (by omega) false (beq_eq_false_iff_ne.2 hxq)
          clear hxq hgd hx HV
          go_wp2_with (go_at_call 59; refine CQ.out.mono ?_; rintro e w2 ⟨rfl, hn2⟩; have HN2 := Lib.hid (HN.out.trans hn2); clear hn2)
          go_ret2
          exact ⟨rfl, HN2.out⟩
      · rw [if_neg (fun h => hlt h.1)] at hv
        subst hv
        have hltI : decide ((i : Int) < l.length) = false := decide_eq_false (by omega)
        clear HV
        go_wp2_with (go_at_call 59; refine CQ.out.mono ?_; rintro e w2 ⟨rfl, hn2⟩; have HN2 := Lib.hid (HN.out.trans hn2); clear hn2)
        go_ret2
        exact ⟨rfl, HN2.out⟩
    · have hT := HT.out
      rw [txtT_go _ hq, List.drop_drop] at hT
      have hz : (((quoR 34 (l.drop i)).2 : Int) == 0) = false := beq_eq_false_iff_ne.2 (by omega)
      generalize hQ : quoR 34 (l.drop i) = q at *
      have HT2 := Lib.hid hT
      clear hT HT hQ
      go_wp2_with fail
      refine CQ.out.mono ?_
      rintro e w2 ⟨rfl, hn2⟩
      have HN2 := Lib.hid (HN.out.trans hn2)
      clear hn2
      have hcv := conv_one q.1 w2
      have hoB : (B o).size + 1 ≤ 9223372036854775807 := by show o.length + 1 ≤ _; omega
      go_wp2
      go_roundw
      case rel => exact ⟨i + q.2, o ++ [q.1], by omega, by omega, by go_num, by rw [B_app], by simp; omega, HN2.out.alloc _, Lib.hid (by rw [HT2.out]; simp; omega)⟩
      case measure => simp [intOf]; omega

end Go.Proofs.YtdgmdkkockbkjaaGreatDoor

/- Contracts of typecaseref10: a token. -/
namespace Go.Proofs.YtdgmdkkockbkjaaGreatDoor
open Go.RowKit
set_option linter.unusedVariables false
set_option linter.unusedSimpArgs false

theorem ext_take0 (l : List UInt8) (k : Nat) : (B l).extract 0 k = B (l.take k) := by
  apply ByteArray.ext
  rw [ByteArray.data_extract]
  simp

def RetTok (r : Tok × Nat × Nat) (w : World) (e : Ending) (w' : World) : Prop := e = .returned (.tuple #[tokV r.1, .int .i64 (r.2.1 : Nat), .int .i64 (r.2.2 : Nat)]) ∧ Nx w w'

theorem ret_tok {r : Tok × Nat × Nat} {v : Value} {a b : Int} (h1 : tokV r.1 = v) (h2 : (r.2.1 : Int) = a) (h3 : (r.2.2 : Int) = b) : Ending.returned (.tuple #[v, .int .i64 a, .int .i64 b]) = .returned (.tuple #[tokV r.1, .int .i64 (r.2.1 : Nat), .int .i64 (r.2.2 : Nat)]) := by rw [h1, h2, h3]

theorem getD_0 (l : List UInt8) (h : 1 ≤ l.length) : l[0]? = some (l.getD 0 0) := by
  cases l with
  | nil => simp at h
  | cons a l => rfl

theorem six_cells {w w2 : World} {T : TypeId} {a b c d e f : Value} (h : Nx (w.alloc (.cells #[a, b, c, d, e, f] T)) w2) :
    w2.cell? ⟨w.heap.size, 0, none⟩ = some a ∧ w2.cell? ⟨w.heap.size, 1, none⟩ = some b ∧ w2.cell? ⟨w.heap.size, 2, none⟩ = some c ∧ w2.cell? ⟨w.heap.size, 3, none⟩ = some d ∧ w2.cell? ⟨w.heap.size, 4, none⟩ = some e ∧ w2.cell? ⟨w.heap.size, 5, none⟩ = some f ∧
    w2.frozen? ⟨w.heap.size, 0, none⟩ = false ∧ w2.frozen? ⟨w.heap.size, 1, none⟩ = false ∧ w2.frozen? ⟨w.heap.size, 2, none⟩ = false ∧ w2.frozen? ⟨w.heap.size, 3, none⟩ = false ∧ w2.frozen? ⟨w.heap.size, 4, none⟩ = false ∧ w2.frozen? ⟨w.heap.size, 5, none⟩ = false ∧ w.heap.size < w2.heap.size := by
  have hs := h.size
  have e1 : (w.alloc (.cells #[a, b, c, d, e, f] T)).heap.size = w.heap.size + 1 := by simp
  refine ⟨h.cell (by simp), h.cell (by simp), h.cell (by simp), h.cell (by simp), h.cell (by simp), h.cell (by simp), ?_, ?_, ?_, ?_, ?_, ?_, by omega⟩
  all_goals (rw [h.frozen (by rw [e1]; exact Nat.lt_succ_self _)]; simp)

set_option maxHeartbeats 2000000 in
set_option maxRecDepth 100000 in
theorem token_name (l r : List UInt8) (c : UInt8) (K : Nat) (t : List UInt8) (w : World) (h1 : 1 ≤ l.length) (hl : l.length ≤ 1000000) (hc : l.getD 0 0 = c) (hr : l.drop 1 = r) (h_C1 : (letN ++ [46]).contains c = true) (hK : whileN goN l = K) :
    Calls Tryz.prog 37 #[.string (B l)] w (RetTok (tokR l) w) := by
  have HV := Lib.hid (show tokR l = (tokN 1 (l.take K), K, 0) from by unfold tokR; rw [hc, if_pos h_C1, hK])
  generalize tokR l = V at *
  obtain ⟨p0, e0⟩ := byte_at l 0 c (by rw [getD_0 l h1, hc])
  have n0 : (0 : Int) < l.length := by omega
  have n1 : (1 : Int) ≤ l.length := by omega
  have er : (B l).extract 1 l.length = B r := by rw [← hr]; exact ext_drop l 1 h1
  have hrl : r.length + 1 = l.length := by rw [← hr, List.length_drop]; omega
  have C1 := Lib.hid (fun w => (show Calls Tryz.prog 36 #[.int .u8 c.toNat, .string (B (letN ++ [46]))] w fun e w' => e = .returned (.bool true) ∧ w = w' from by have h := in_any c (letN ++ [46]) w (by decide); rw [h_C1] at h; exact h))
  have CW := Lib.hid (fun w => (show Calls Tryz.prog 57 #[.string (B l), .string (B goN)] w fun e w' => e = .returned (.int .i64 (K : Nat)) ∧ w = w' from by have h := while_any l goN w hl (by decide); rw [hK] at h; exact h))
  have hKl : K ≤ l.length := by rw [← hK]; exact whileN_le goN l
  clear hc hr
  go_enter Tryz.func37, Tryz.ntmps37
  go_wp2_with fail
  refine (C1.out _).mono ?_
  rintro e w2 ⟨rfl, rfl⟩
  go_wp2_with fail
  refine (CW.out _).mono ?_
  rintro e w2 ⟨rfl, rfl⟩
  go_wp2
  refine bodyPost_ret (v := .tuple #[.agg #[.int .i64 1, .int .i64 0, .int .i64 0, .string ((B l).extract 0 K), .int .u32 0, .int .i64 0], .int .i64 K, .int .i64 0]) (by simp [results, Tryz.results37, go_sem]) rfl ⟨ret_tok (by rw [HV.out, ext_take0]; rfl) (by rw [HV.out]) (by rw [HV.out]; rfl), ?_⟩
  repeat (with_reducible first | exact Nx.refl _ | assumption | exact HNQ.out | refine Nx.setCell ?_ (Nat.le_refl _) _ | refine Nx.alloc ?_ _)

set_option maxHeartbeats 2000000 in
set_option maxRecDepth 100000 in
theorem token_number (l r : List UInt8) (c : UInt8) (K : Nat) (t : List UInt8) (w : World) (h1 : 1 ≤ l.length) (hl : l.length ≤ 1000000) (hc : l.getD 0 0 = c) (hr : l.drop 1 = r) (h_C1 : (letN ++ [46]).contains c = false) (h_C2 : digN.contains c = true) :
    Calls Tryz.prog 37 #[.string (B l)] w (RetTok (tokR l) w) := by
  have HV := Lib.hid (show tokR l = (tokU (numR l).1, (numR l).2, 3) from by unfold tokR; rw [hc, if_neg (by rw [h_C1]; simp), if_pos h_C2])
  generalize tokR l = V at *
  obtain ⟨p0, e0⟩ := byte_at l 0 c (by rw [getD_0 l h1, hc])
  have n0 : (0 : Int) < l.length := by omega
  have n1 : (1 : Int) ≤ l.length := by omega
  have er : (B l).extract 1 l.length = B r := by rw [← hr]; exact ext_drop l 1 h1
  have hrl : r.length + 1 = l.length := by rw [← hr, List.length_drop]; omega
  have C1 := Lib.hid (fun w => (show Calls Tryz.prog 36 #[.int .u8 c.toNat, .string (B (letN ++ [46]))] w fun e w' => e = .returned (.bool false) ∧ w = w' from by have h := in_any c (letN ++ [46]) w (by decide); rw [h_C1] at h; exact h))
  have C2 := Lib.hid (fun w => (show Calls Tryz.prog 36 #[.int .u8 c.toNat, .string (B (digN))] w fun e w' => e = .returned (.bool true) ∧ w = w' from by have h := in_any c (digN) w (by decide); rw [h_C2] at h; exact h))
  have CN := Lib.hid (fun w => rnumr_any l w hl)
  generalize numR l = q at *
  clear hc hr
  go_enter Tryz.func37, Tryz.ntmps37
  go_wp2_with fail
  refine (C1.out _).mono ?_
  rintro e w2 ⟨rfl, rfl⟩
  go_wp2_with fail
  refine (C2.out _).mono ?_
  rintro e w2 ⟨rfl, rfl⟩
  go_wp2_with fail
  refine (CN.out _).mono ?_
  rintro e w2 ⟨rfl, rfl⟩
  go_wp2
  refine bodyPost_ret (v := .tuple #[.agg #[.int .i64 5, .int .i64 0, .int .i64 0, .string (B []), .int .u32 (q.1 : Nat), .int .i64 0], .int .i64 (q.2 : Nat), .int .i64 3]) (by simp [results, Tryz.results37, go_sem]) rfl ⟨ret_tok (by rw [HV.out]; rfl) (by rw [HV.out]) (by rw [HV.out]; rfl), ?_⟩
  repeat (with_reducible first | exact Nx.refl _ | assumption | exact HNQ.out | refine Nx.setCell ?_ (Nat.le_refl _) _ | refine Nx.alloc ?_ _)

set_option maxHeartbeats 2000000 in
set_option maxRecDepth 100000 in
theorem token_char (l r : List UInt8) (c : UInt8) (K : Nat) (t : List UInt8) (w : World) (h1 : 1 ≤ l.length) (hl : l.length ≤ 1000000) (hc : l.getD 0 0 = c) (hr : l.drop 1 = r) (h_C1 : (letN ++ [46]).contains c = false) (h_C2 : digN.contains c = false) (hc39 : c = 39) (hq : 0 < (quoR 39 r).2 ∧ (quoR 39 r).2 < r.length ∧ r.getD (quoR 39 r).2 0 = 39) :
    Calls Tryz.prog 37 #[.string (B l)] w (RetTok (tokR l) w) := by
  have HV := Lib.hid (show tokR l = (tokU (quoR 39 r).1.toNat, (quoR 39 r).2 + 2, 0) from by unfold tokR; rw [hc, hr, if_neg (by rw [h_C1]; simp), if_neg (by rw [h_C2]; simp), if_pos hc39, if_pos hq])
  generalize tokR l = V at *
  obtain ⟨p0, e0⟩ := byte_at l 0 c (by rw [getD_0 l h1, hc])
  have n0 : (0 : Int) < l.length := by omega
  have n1 : (1 : Int) ≤ l.length := by omega
  have er : (B l).extract 1 l.length = B r := by rw [← hr]; exact ext_drop l 1 h1
  have hrl : r.length + 1 = l.length := by rw [← hr, List.length_drop]; omega
  have C1 := Lib.hid (fun w => (show Calls Tryz.prog 36 #[.int .u8 c.toNat, .string (B (letN ++ [46]))] w fun e w' => e = .returned (.bool false) ∧ w = w' from by have h := in_any c (letN ++ [46]) w (by decide); rw [h_C1] at h; exact h))
  have C2 := Lib.hid (fun w => (show Calls Tryz.prog 36 #[.int .u8 c.toNat, .string (B (digN))] w fun e w' => e = .returned (.bool false) ∧ w = w' from by have h := in_any c (digN) w (by decide); rw [h_C2] at h; exact h))
  have b39 : ((c.toNat : Int) == 39) = true := u8n c 39 (by omega) true (by rw [hc39]; rfl)
  have hb := byte_at r (quoR 39 r).2 39 (by have := hq.2.2; rw [List.getD_eq_getElem?_getD] at this; rw [List.getElem?_eq_getElem hq.2.1] at this ⊢; exact congrArg some this)
  have CQ := Lib.hid (fun w => (show Calls Tryz.prog 59 #[.string (B r), .int .u8 39] w (RetBN (quoR 39 r) w) from quoted_any 39 r w (by omega)))
  have hqc := (quoR 39 r).1.toNat_lt
  have hqle := quoR_le 39 r
  generalize quoR 39 r = q at *
  obtain ⟨p1, e1⟩ := hb
  have k0 : (0 : Int) < (q.2 : Int) := by omega
  have k1 : (q.2 : Int) < r.length := by omega
  have k2 : ((((B r)[q.2]'p1).toNat : Int) == 39) = true := by rw [e1]; rfl
  clear e1 hq
  clear hc39
  clear hc hr
  go_enter Tryz.func37, Tryz.ntmps37
  go_wp2_with fail
  refine (C1.out _).mono ?_
  rintro e w2 ⟨rfl, rfl⟩
  go_wp2_with fail
  refine (C2.out _).mono ?_
  rintro e w2 ⟨rfl, rfl⟩
  go_wp2_with fail
  refine (CQ.out _).mono ?_
  rintro e w2 ⟨rfl, hnq⟩
  have HNQ := Lib.hid (((Nx.refl w).alloc _).trans hnq)
  obtain ⟨r0, r1, r2, r3, r4, r5, f0, f1, f2, f3, f4, f5, zq⟩ := six_cells hnq
  clear hnq
  go_wp2
  refine bodyPost_ret (v := .tuple #[.agg #[.int .i64 5, .int .i64 0, .int .i64 0, .string (B []), .int .u32 (q.1.toNat : Nat), .int .i64 0], .int .i64 ((q.2 : Nat) + 2), .int .i64 0]) (by simp [results, Tryz.results37, go_sem, r0, r1, r2, r3, r4, r5, f0, f1, f2, f3, f4, f5]) rfl ⟨ret_tok (by rw [HV.out]; rfl) (by rw [HV.out]; rfl) (by rw [HV.out]; rfl), ?_⟩
  repeat (with_reducible first | exact Nx.refl _ | assumption | exact HNQ.out | refine Nx.setCell ?_ (Nat.le_refl _) _ | refine Nx.alloc ?_ _)

set_option maxHeartbeats 2000000 in
set_option maxRecDepth 100000 in
theorem token_noa (l r : List UInt8) (c : UInt8) (K : Nat) (t : List UInt8) (w : World) (h1 : 1 ≤ l.length) (hl : l.length ≤ 1000000) (hc : l.getD 0 0 = c) (hr : l.drop 1 = r) (h_C1 : (letN ++ [46]).contains c = false) (h_C2 : digN.contains c = false) (hc39 : c = 39) (hq : (quoR 39 r).2 = 0) :
    Calls Tryz.prog 37 #[.string (B l)] w (RetTok (tokR l) w) := by
  have HV := Lib.hid (show tokR l = (tok0, 0, 3) from by unfold tokR; rw [hc, hr, if_neg (by rw [h_C1]; simp), if_neg (by rw [h_C2]; simp), if_pos hc39, if_neg (fun h => by omega)])
  generalize tokR l = V at *
  obtain ⟨p0, e0⟩ := byte_at l 0 c (by rw [getD_0 l h1, hc])
  have n0 : (0 : Int) < l.length := by omega
  have n1 : (1 : Int) ≤ l.length := by omega
  have er : (B l).extract 1 l.length = B r := by rw [← hr]; exact ext_drop l 1 h1
  have hrl : r.length + 1 = l.length := by rw [← hr, List.length_drop]; omega
  have C1 := Lib.hid (fun w => (show Calls Tryz.prog 36 #[.int .u8 c.toNat, .string (B (letN ++ [46]))] w fun e w' => e = .returned (.bool false) ∧ w = w' from by have h := in_any c (letN ++ [46]) w (by decide); rw [h_C1] at h; exact h))
  have C2 := Lib.hid (fun w => (show Calls Tryz.prog 36 #[.int .u8 c.toNat, .string (B (digN))] w fun e w' => e = .returned (.bool false) ∧ w = w' from by have h := in_any c (digN) w (by decide); rw [h_C2] at h; exact h))
  have b39 : ((c.toNat : Int) == 39) = true := u8n c 39 (by omega) true (by rw [hc39]; rfl)
  have CQ := Lib.hid (fun w => (show Calls Tryz.prog 59 #[.string (B r), .int .u8 39] w (RetBN (quoR 39 r) w) from quoted_any 39 r w (by omega)))
  have hqc := (quoR 39 r).1.toNat_lt
  have hqle := quoR_le 39 r
  generalize quoR 39 r = q at *
  have k0 : decide (0 < q.2) = false := decide_eq_false (by omega)
  clear hq
  clear hc39
  clear hc hr
  go_enter Tryz.func37, Tryz.ntmps37
  go_wp2_with fail
  refine (C1.out _).mono ?_
  rintro e w2 ⟨rfl, rfl⟩
  go_wp2_with fail
  refine (C2.out _).mono ?_
  rintro e w2 ⟨rfl, rfl⟩
  go_wp2_with fail
  refine (CQ.out _).mono ?_
  rintro e w2 ⟨rfl, hnq⟩
  have HNQ := Lib.hid (((Nx.refl w).alloc _).trans hnq)
  obtain ⟨r0, r1, r2, r3, r4, r5, f0, f1, f2, f3, f4, f5, zq⟩ := six_cells hnq
  clear hnq
  go_wp2
  refine bodyPost_ret (v := .tuple #[.agg #[.int .i64 0, .int .i64 0, .int .i64 0, .string (B []), .int .u32 0, .int .i64 0], .int .i64 0, .int .i64 3]) (by simp [results, Tryz.results37, go_sem, r0, r1, r2, r3, r4, r5, f0, f1, f2, f3, f4, f5]) rfl ⟨ret_tok (by rw [HV.out]; rfl) (by rw [HV.out]; rfl) (by rw [HV.out]; rfl), ?_⟩
  repeat (with_reducible first | exact Nx.refl _ | assumption | exact HNQ.out | refine Nx.setCell ?_ (Nat.le_refl _) _ | refine Nx.alloc ?_ _)

set_option maxHeartbeats 2000000 in
set_option maxRecDepth 100000 in
theorem token_nob (l r : List UInt8) (c : UInt8) (K : Nat) (t : List UInt8) (w : World) (h1 : 1 ≤ l.length) (hl : l.length ≤ 1000000) (hc : l.getD 0 0 = c) (hr : l.drop 1 = r) (h_C1 : (letN ++ [46]).contains c = false) (h_C2 : digN.contains c = false) (hc39 : c = 39) (hq : 0 < (quoR 39 r).2) (hq2 : r.length ≤ (quoR 39 r).2) :
    Calls Tryz.prog 37 #[.string (B l)] w (RetTok (tokR l) w) := by
  have HV := Lib.hid (show tokR l = (tok0, 0, 3) from by unfold tokR; rw [hc, hr, if_neg (by rw [h_C1]; simp), if_neg (by rw [h_C2]; simp), if_pos hc39, if_neg (fun h => by omega)])
  generalize tokR l = V at *
  obtain ⟨p0, e0⟩ := byte_at l 0 c (by rw [getD_0 l h1, hc])
  have n0 : (0 : Int) < l.length := by omega
  have n1 : (1 : Int) ≤ l.length := by omega
  have er : (B l).extract 1 l.length = B r := by rw [← hr]; exact ext_drop l 1 h1
  have hrl : r.length + 1 = l.length := by rw [← hr, List.length_drop]; omega
  have C1 := Lib.hid (fun w => (show Calls Tryz.prog 36 #[.int .u8 c.toNat, .string (B (letN ++ [46]))] w fun e w' => e = .returned (.bool false) ∧ w = w' from by have h := in_any c (letN ++ [46]) w (by decide); rw [h_C1] at h; exact h))
  have C2 := Lib.hid (fun w => (show Calls Tryz.prog 36 #[.int .u8 c.toNat, .string (B (digN))] w fun e w' => e = .returned (.bool false) ∧ w = w' from by have h := in_any c (digN) w (by decide); rw [h_C2] at h; exact h))
  have b39 : ((c.toNat : Int) == 39) = true := u8n c 39 (by omega) true (by rw [hc39]; rfl)
  have CQ := Lib.hid (fun w => (show Calls Tryz.prog 59 #[.string (B r), .int .u8 39] w (RetBN (quoR 39 r) w) from quoted_any 39 r w (by omega)))
  have hqc := (quoR 39 r).1.toNat_lt
  have hqle := quoR_le 39 r
  generalize quoR 39 r = q at *
  have k0 : (0 : Int) < (q.2 : Int) := by omega
  have k1 : decide ((q.2 : Int) < (r.length : Int)) = false := decide_eq_false (by omega)
  clear hc39
  clear hc hr
  go_enter Tryz.func37, Tryz.ntmps37
  go_wp2_with fail
  refine (C1.out _).mono ?_
  rintro e w2 ⟨rfl, rfl⟩
  go_wp2_with fail
  refine (C2.out _).mono ?_
  rintro e w2 ⟨rfl, rfl⟩
  go_wp2_with fail
  refine (CQ.out _).mono ?_
  rintro e w2 ⟨rfl, hnq⟩
  have HNQ := Lib.hid (((Nx.refl w).alloc _).trans hnq)
  obtain ⟨r0, r1, r2, r3, r4, r5, f0, f1, f2, f3, f4, f5, zq⟩ := six_cells hnq
  clear hnq
  go_wp2
  refine bodyPost_ret (v := .tuple #[.agg #[.int .i64 0, .int .i64 0, .int .i64 0, .string (B []), .int .u32 0, .int .i64 0], .int .i64 0, .int .i64 3]) (by simp [results, Tryz.results37, go_sem, r0, r1, r2, r3, r4, r5, f0, f1, f2, f3, f4, f5]) rfl ⟨ret_tok (by rw [HV.out]; rfl) (by rw [HV.out]; rfl) (by rw [HV.out]; rfl), ?_⟩
  repeat (with_reducible first | exact Nx.refl _ | assumption | exact HNQ.out | refine Nx.setCell ?_ (Nat.le_refl _) _ | refine Nx.alloc ?_ _)

set_option maxHeartbeats 2000000 in
set_option maxRecDepth 100000 in
theorem token_noc (l r : List UInt8) (c : UInt8) (K : Nat) (t : List UInt8) (w : World) (h1 : 1 ≤ l.length) (hl : l.length ≤ 1000000) (hc : l.getD 0 0 = c) (hr : l.drop 1 = r) (h_C1 : (letN ++ [46]).contains c = false) (h_C2 : digN.contains c = false) (hc39 : c = 39) (x : UInt8) (hq : 0 < (quoR 39 r).2) (hx : r[(quoR 39 r).2]? = some x) (hx2 : ¬ x = 39) :
    Calls Tryz.prog 37 #[.string (B l)] w (RetTok (tokR l) w) := by
  have HV := Lib.hid (show tokR l = (tok0, 0, 3) from by unfold tokR; rw [hc, hr, if_neg (by rw [h_C1]; simp), if_neg (by rw [h_C2]; simp), if_pos hc39, if_neg (fun h => hx2 (by have := h.2.2; rw [List.getD_eq_getElem?_getD, hx] at this; exact this))])
  generalize tokR l = V at *
  obtain ⟨p0, e0⟩ := byte_at l 0 c (by rw [getD_0 l h1, hc])
  have n0 : (0 : Int) < l.length := by omega
  have n1 : (1 : Int) ≤ l.length := by omega
  have er : (B l).extract 1 l.length = B r := by rw [← hr]; exact ext_drop l 1 h1
  have hrl : r.length + 1 = l.length := by rw [← hr, List.length_drop]; omega
  have C1 := Lib.hid (fun w => (show Calls Tryz.prog 36 #[.int .u8 c.toNat, .string (B (letN ++ [46]))] w fun e w' => e = .returned (.bool false) ∧ w = w' from by have h := in_any c (letN ++ [46]) w (by decide); rw [h_C1] at h; exact h))
  have C2 := Lib.hid (fun w => (show Calls Tryz.prog 36 #[.int .u8 c.toNat, .string (B (digN))] w fun e w' => e = .returned (.bool false) ∧ w = w' from by have h := in_any c (digN) w (by decide); rw [h_C2] at h; exact h))
  have b39 : ((c.toNat : Int) == 39) = true := u8n c 39 (by omega) true (by rw [hc39]; rfl)
  have hb := byte_at r (quoR 39 r).2 x hx
  have hlt := (List.getElem?_eq_some_iff.1 hx).1
  clear hx
  have CQ := Lib.hid (fun w => (show Calls Tryz.prog 59 #[.string (B r), .int .u8 39] w (RetBN (quoR 39 r) w) from quoted_any 39 r w (by omega)))
  have hqc := (quoR 39 r).1.toNat_lt
  have hqle := quoR_le 39 r
  generalize quoR 39 r = q at *
  obtain ⟨p1, e1⟩ := hb
  have k0 : (0 : Int) < (q.2 : Int) := by omega
  have k1 : (q.2 : Int) < r.length := by omega
  have k2 : ((((B r)[q.2]'p1).toNat : Int) == 39) = false := by rw [e1]; exact u8n x 39 (by omega) false (beq_eq_false_iff_ne.2 hx2)
  clear e1
  clear hc39
  clear hc hr
  go_enter Tryz.func37, Tryz.ntmps37
  go_wp2_with fail
  refine (C1.out _).mono ?_
  rintro e w2 ⟨rfl, rfl⟩
  go_wp2_with fail
  refine (C2.out _).mono ?_
  rintro e w2 ⟨rfl, rfl⟩
  go_wp2_with fail
  refine (CQ.out _).mono ?_
  rintro e w2 ⟨rfl, hnq⟩
  have HNQ := Lib.hid (((Nx.refl w).alloc _).trans hnq)
  obtain ⟨r0, r1, r2, r3, r4, r5, f0, f1, f2, f3, f4, f5, zq⟩ := six_cells hnq
  clear hnq
  go_wp2
  refine bodyPost_ret (v := .tuple #[.agg #[.int .i64 0, .int .i64 0, .int .i64 0, .string (B []), .int .u32 0, .int .i64 0], .int .i64 0, .int .i64 3]) (by simp [results, Tryz.results37, go_sem, r0, r1, r2, r3, r4, r5, f0, f1, f2, f3, f4, f5]) rfl ⟨ret_tok (by rw [HV.out]; rfl) (by rw [HV.out]; rfl) (by rw [HV.out]; rfl), ?_⟩
  repeat (with_reducible first | exact Nx.refl _ | assumption | exact HNQ.out | refine Nx.setCell ?_ (Nat.le_refl _) _ | refine Nx.alloc ?_ _)

set_option maxHeartbeats 2000000 in
set_option maxRecDepth 100000 in
theorem token_text (l r : List UInt8) (c : UInt8) (K : Nat) (t : List UInt8) (w : World) (h1 : 1 ≤ l.length) (hl : l.length ≤ 1000000) (hc : l.getD 0 0 = c) (hr : l.drop 1 = r) (h_C1 : (letN ++ [46]).contains c = false) (h_C2 : digN.contains c = false) (hc39 : ¬ c = 39) (hc34 : c = 34) :
    Calls Tryz.prog 37 #[.string (B l)] w (RetTok (tokR l) w) := by
  have HV := Lib.hid (show tokR l = (tokN 6 (textR l).1, (textR l).2, 4) from by unfold tokR; rw [hc, hr, if_neg (by rw [h_C1]; simp), if_neg (by rw [h_C2]; simp), if_neg hc39, if_pos hc34])
  generalize tokR l = V at *
  obtain ⟨p0, e0⟩ := byte_at l 0 c (by rw [getD_0 l h1, hc])
  have n0 : (0 : Int) < l.length := by omega
  have n1 : (1 : Int) ≤ l.length := by omega
  have er : (B l).extract 1 l.length = B r := by rw [← hr]; exact ext_drop l 1 h1
  have hrl : r.length + 1 = l.length := by rw [← hr, List.length_drop]; omega
  have C1 := Lib.hid (fun w => (show Calls Tryz.prog 36 #[.int .u8 c.toNat, .string (B (letN ++ [46]))] w fun e w' => e = .returned (.bool false) ∧ w = w' from by have h := in_any c (letN ++ [46]) w (by decide); rw [h_C1] at h; exact h))
  have C2 := Lib.hid (fun w => (show Calls Tryz.prog 36 #[.int .u8 c.toNat, .string (B (digN))] w fun e w' => e = .returned (.bool false) ∧ w = w' from by have h := in_any c (digN) w (by decide); rw [h_C2] at h; exact h))
  have b39 : ((c.toNat : Int) == 39) = false := u8n c 39 (by omega) false (beq_eq_false_iff_ne.2 hc39)
  have b34 : ((c.toNat : Int) == 34) = true := u8n c 34 (by omega) true (by rw [hc34]; rfl)
  have CT := Lib.hid (fun w => text_any l w h1 hl)
  generalize textR l = q at *
  clear hc34
  clear hc hr
  go_enter Tryz.func37, Tryz.ntmps37
  go_wp2_with fail
  refine (C1.out _).mono ?_
  rintro e w2 ⟨rfl, rfl⟩
  go_wp2_with fail
  refine (C2.out _).mono ?_
  rintro e w2 ⟨rfl, rfl⟩
  go_wp2_with fail
  refine (CT.out _).mono ?_
  rintro e w2 ⟨rfl, hnq⟩
  have HNQ := Lib.hid (((Nx.refl w).alloc _).trans hnq)
  obtain ⟨r0, r1, r2, r3, r4, r5, f0, f1, f2, f3, f4, f5, zq⟩ := six_cells hnq
  clear hnq
  go_wp2
  refine bodyPost_ret (v := .tuple #[.agg #[.int .i64 6, .int .i64 0, .int .i64 0, .string (B q.1), .int .u32 0, .int .i64 0], .int .i64 (q.2 : Nat), .int .i64 4]) (by simp [results, Tryz.results37, go_sem, r0, r1, r2, r3, r4, r5, f0, f1, f2, f3, f4, f5]) rfl ⟨ret_tok (by rw [HV.out]; rfl) (by rw [HV.out]) (by rw [HV.out]; rfl), ?_⟩
  repeat (with_reducible first | exact Nx.refl _ | assumption | exact HNQ.out | refine Nx.setCell ?_ (Nat.le_refl _) _ | refine Nx.alloc ?_ _)

set_option maxHeartbeats 2000000 in
set_option maxRecDepth 100000 in
theorem token_fn_hi (l r : List UInt8) (c : UInt8) (K : Nat) (t : List UInt8) (w : World) (h1 : 1 ≤ l.length) (hl : l.length ≤ 1000000) (hc : l.getD 0 0 = c) (hr : l.drop 1 = r) (h_C1 : (letN ++ [46]).contains c = false) (h_C2 : digN.contains c = false) (hc39 : ¬ c = 39) (hc34 : ¬ c = 34) (hK : whileN (letN ++ digN) r = K) (ht : r.take K = t) (hc37 : c = 37) (htt : t = [104, 105]) :
    Calls Tryz.prog 37 #[.string (B l)] w (RetTok (tokR l) w) := by
  have HV := Lib.hid (show tokR l = (tokN 4 t, K + 1, 0) from by unfold tokR; rw [hc, hr, if_neg (by rw [h_C1]; simp), if_neg (by rw [h_C2]; simp), if_neg hc39, if_neg hc34, hK, ht, if_pos ⟨hc37, Or.inl htt⟩])
  generalize tokR l = V at *
  obtain ⟨p0, e0⟩ := byte_at l 0 c (by rw [getD_0 l h1, hc])
  have n0 : (0 : Int) < l.length := by omega
  have n1 : (1 : Int) ≤ l.length := by omega
  have er : (B l).extract 1 l.length = B r := by rw [← hr]; exact ext_drop l 1 h1
  have hrl : r.length + 1 = l.length := by rw [← hr, List.length_drop]; omega
  have C1 := Lib.hid (fun w => (show Calls Tryz.prog 36 #[.int .u8 c.toNat, .string (B (letN ++ [46]))] w fun e w' => e = .returned (.bool false) ∧ w = w' from by have h := in_any c (letN ++ [46]) w (by decide); rw [h_C1] at h; exact h))
  have C2 := Lib.hid (fun w => (show Calls Tryz.prog 36 #[.int .u8 c.toNat, .string (B (digN))] w fun e w' => e = .returned (.bool false) ∧ w = w' from by have h := in_any c (digN) w (by decide); rw [h_C2] at h; exact h))
  have b39 : ((c.toNat : Int) == 39) = false := u8n c 39 (by omega) false (beq_eq_false_iff_ne.2 hc39)
  have b34 : ((c.toNat : Int) == 34) = false := u8n c 34 (by omega) false (beq_eq_false_iff_ne.2 hc34)
  have CW := Lib.hid (fun w => (show Calls Tryz.prog 57 #[.string (B r), .string (B (letN ++ digN))] w fun e w' => e = .returned (.int .i64 (K : Nat)) ∧ w = w' from by have h := while_any r (letN ++ digN) w (by omega) (by decide); rw [hK] at h; exact h))
  have hKl : K ≤ r.length := by rw [← hK]; exact whileN_le (letN ++ digN) r
  have ek : (B r).extract 0 K = B t := by rw [← ht]; exact ext_take0 r K
  have b37 : ((c.toNat : Int) == 37) = true := u8n c 37 (by omega) true (by rw [hc37]; rfl)
  have ta : (t == [104, 105]) = true := by rw [htt]; rfl
  clear htt ht
  clear hc37
  clear hc hr
  go_enter Tryz.func37, Tryz.ntmps37
  go_wp2_with fail
  refine (C1.out _).mono ?_
  rintro e w2 ⟨rfl, rfl⟩
  go_wp2_with fail
  refine (C2.out _).mono ?_
  rintro e w2 ⟨rfl, rfl⟩
  go_wp2_with fail
  refine (CW.out _).mono ?_
  rintro e w2 ⟨rfl, rfl⟩
  go_wp2
  refine bodyPost_ret (v := .tuple #[.agg #[.int .i64 4, .int .i64 0, .int .i64 0, .string (B t), .int .u32 0, .int .i64 0], .int .i64 ((K : Nat) + 1), .int .i64 0]) (by simp [results, Tryz.results37, go_sem]) rfl ⟨ret_tok (by rw [HV.out]; rfl) (by rw [HV.out]; rfl) (by rw [HV.out]; rfl), ?_⟩
  repeat (with_reducible first | exact Nx.refl _ | assumption | exact HNQ.out | refine Nx.setCell ?_ (Nat.le_refl _) _ | refine Nx.alloc ?_ _)

set_option maxHeartbeats 2000000 in
set_option maxRecDepth 100000 in
theorem token_fn_lo (l r : List UInt8) (c : UInt8) (K : Nat) (t : List UInt8) (w : World) (h1 : 1 ≤ l.length) (hl : l.length ≤ 1000000) (hc : l.getD 0 0 = c) (hr : l.drop 1 = r) (h_C1 : (letN ++ [46]).contains c = false) (h_C2 : digN.contains c = false) (hc39 : ¬ c = 39) (hc34 : ¬ c = 34) (hK : whileN (letN ++ digN) r = K) (ht : r.take K = t) (hc37 : c = 37) (htt : t = [108, 111]) :
    Calls Tryz.prog 37 #[.string (B l)] w (RetTok (tokR l) w) := by
  have HV := Lib.hid (show tokR l = (tokN 4 t, K + 1, 0) from by unfold tokR; rw [hc, hr, if_neg (by rw [h_C1]; simp), if_neg (by rw [h_C2]; simp), if_neg hc39, if_neg hc34, hK, ht, if_pos ⟨hc37, Or.inr (Or.inl htt)⟩])
  generalize tokR l = V at *
  obtain ⟨p0, e0⟩ := byte_at l 0 c (by rw [getD_0 l h1, hc])
  have n0 : (0 : Int) < l.length := by omega
  have n1 : (1 : Int) ≤ l.length := by omega
  have er : (B l).extract 1 l.length = B r := by rw [← hr]; exact ext_drop l 1 h1
  have hrl : r.length + 1 = l.length := by rw [← hr, List.length_drop]; omega
  have C1 := Lib.hid (fun w => (show Calls Tryz.prog 36 #[.int .u8 c.toNat, .string (B (letN ++ [46]))] w fun e w' => e = .returned (.bool false) ∧ w = w' from by have h := in_any c (letN ++ [46]) w (by decide); rw [h_C1] at h; exact h))
  have C2 := Lib.hid (fun w => (show Calls Tryz.prog 36 #[.int .u8 c.toNat, .string (B (digN))] w fun e w' => e = .returned (.bool false) ∧ w = w' from by have h := in_any c (digN) w (by decide); rw [h_C2] at h; exact h))
  have b39 : ((c.toNat : Int) == 39) = false := u8n c 39 (by omega) false (beq_eq_false_iff_ne.2 hc39)
  have b34 : ((c.toNat : Int) == 34) = false := u8n c 34 (by omega) false (beq_eq_false_iff_ne.2 hc34)
  have CW := Lib.hid (fun w => (show Calls Tryz.prog 57 #[.string (B r), .string (B (letN ++ digN))] w fun e w' => e = .returned (.int .i64 (K : Nat)) ∧ w = w' from by have h := while_any r (letN ++ digN) w (by omega) (by decide); rw [hK] at h; exact h))
  have hKl : K ≤ r.length := by rw [← hK]; exact whileN_le (letN ++ digN) r
  have ek : (B r).extract 0 K = B t := by rw [← ht]; exact ext_take0 r K
  have b37 : ((c.toNat : Int) == 37) = true := u8n c 37 (by omega) true (by rw [hc37]; rfl)
  have ta : (t == [104, 105]) = false := by rw [htt]; rfl
  have tb : (t == [108, 111]) = true := by rw [htt]; rfl
  clear htt ht
  clear hc37
  clear hc hr
  go_enter Tryz.func37, Tryz.ntmps37
  go_wp2_with fail
  refine (C1.out _).mono ?_
  rintro e w2 ⟨rfl, rfl⟩
  go_wp2_with fail
  refine (C2.out _).mono ?_
  rintro e w2 ⟨rfl, rfl⟩
  go_wp2_with fail
  refine (CW.out _).mono ?_
  rintro e w2 ⟨rfl, rfl⟩
  go_wp2
  refine bodyPost_ret (v := .tuple #[.agg #[.int .i64 4, .int .i64 0, .int .i64 0, .string (B t), .int .u32 0, .int .i64 0], .int .i64 ((K : Nat) + 1), .int .i64 0]) (by simp [results, Tryz.results37, go_sem]) rfl ⟨ret_tok (by rw [HV.out]; rfl) (by rw [HV.out]; rfl) (by rw [HV.out]; rfl), ?_⟩
  repeat (with_reducible first | exact Nx.refl _ | assumption | exact HNQ.out | refine Nx.setCell ?_ (Nat.le_refl _) _ | refine Nx.alloc ?_ _)

set_option maxHeartbeats 2000000 in
set_option maxRecDepth 100000 in
theorem token_fn_pc (l r : List UInt8) (c : UInt8) (K : Nat) (t : List UInt8) (w : World) (h1 : 1 ≤ l.length) (hl : l.length ≤ 1000000) (hc : l.getD 0 0 = c) (hr : l.drop 1 = r) (h_C1 : (letN ++ [46]).contains c = false) (h_C2 : digN.contains c = false) (hc39 : ¬ c = 39) (hc34 : ¬ c = 34) (hK : whileN (letN ++ digN) r = K) (ht : r.take K = t) (hc37 : c = 37) (htt : t = [112, 99, 114, 101, 108]) :
    Calls Tryz.prog 37 #[.string (B l)] w (RetTok (tokR l) w) := by
  have HV := Lib.hid (show tokR l = (tokN 4 t, K + 1, 0) from by unfold tokR; rw [hc, hr, if_neg (by rw [h_C1]; simp), if_neg (by rw [h_C2]; simp), if_neg hc39, if_neg hc34, hK, ht, if_pos ⟨hc37, Or.inr (Or.inr htt)⟩])
  generalize tokR l = V at *
  obtain ⟨p0, e0⟩ := byte_at l 0 c (by rw [getD_0 l h1, hc])
  have n0 : (0 : Int) < l.length := by omega
  have n1 : (1 : Int) ≤ l.length := by omega
  have er : (B l).extract 1 l.length = B r := by rw [← hr]; exact ext_drop l 1 h1
  have hrl : r.length + 1 = l.length := by rw [← hr, List.length_drop]; omega
  have C1 := Lib.hid (fun w => (show Calls Tryz.prog 36 #[.int .u8 c.toNat, .string (B (letN ++ [46]))] w fun e w' => e = .returned (.bool false) ∧ w = w' from by have h := in_any c (letN ++ [46]) w (by decide); rw [h_C1] at h; exact h))
  have C2 := Lib.hid (fun w => (show Calls Tryz.prog 36 #[.int .u8 c.toNat, .string (B (digN))] w fun e w' => e = .returned (.bool false) ∧ w = w' from by have h := in_any c (digN) w (by decide); rw [h_C2] at h; exact h))
  have b39 : ((c.toNat : Int) == 39) = false := u8n c 39 (by omega) false (beq_eq_false_iff_ne.2 hc39)
  have b34 : ((c.toNat : Int) == 34) = false := u8n c 34 (by omega) false (beq_eq_false_iff_ne.2 hc34)
  have CW := Lib.hid (fun w => (show Calls Tryz.prog 57 #[.string (B r), .string (B (letN ++ digN))] w fun e w' => e = .returned (.int .i64 (K : Nat)) ∧ w = w' from by have h := while_any r (letN ++ digN) w (by omega) (by decide); rw [hK] at h; exact h))
  have hKl : K ≤ r.length := by rw [← hK]; exact whileN_le (letN ++ digN) r
  have ek : (B r).extract 0 K = B t := by rw [← ht]; exact ext_take0 r K
  have b37 : ((c.toNat : Int) == 37) = true := u8n c 37 (by omega) true (by rw [hc37]; rfl)
  have ta : (t == [104, 105]) = false := by rw [htt]; rfl
  have tb : (t == [108, 111]) = false := by rw [htt]; rfl
  have tc : (t == [112, 99, 114, 101, 108]) = true := by rw [htt]; rfl
  clear htt ht
  clear hc37
  clear hc hr
  go_enter Tryz.func37, Tryz.ntmps37
  go_wp2_with fail
  refine (C1.out _).mono ?_
  rintro e w2 ⟨rfl, rfl⟩
  go_wp2_with fail
  refine (C2.out _).mono ?_
  rintro e w2 ⟨rfl, rfl⟩
  go_wp2_with fail
  refine (CW.out _).mono ?_
  rintro e w2 ⟨rfl, rfl⟩
  go_wp2
  refine bodyPost_ret (v := .tuple #[.agg #[.int .i64 4, .int .i64 0, .int .i64 0, .string (B t), .int .u32 0, .int .i64 0], .int .i64 ((K : Nat) + 1), .int .i64 0]) (by simp [results, Tryz.results37, go_sem]) rfl ⟨ret_tok (by rw [HV.out]; rfl) (by rw [HV.out]; rfl) (by rw [HV.out]; rfl), ?_⟩
  repeat (with_reducible first | exact Nx.refl _ | assumption | exact HNQ.out | refine Nx.setCell ?_ (Nat.le_refl _) _ | refine Nx.alloc ?_ _)

set_option maxHeartbeats 2000000 in
set_option maxRecDepth 100000 in
theorem token_local (l r : List UInt8) (c : UInt8) (K : Nat) (t : List UInt8) (w : World) (h1 : 1 ≤ l.length) (hl : l.length ≤ 1000000) (hc : l.getD 0 0 = c) (hr : l.drop 1 = r) (h_C1 : (letN ++ [46]).contains c = false) (h_C2 : digN.contains c = false) (hc39 : ¬ c = 39) (hc34 : ¬ c = 34) (hK : whileN (letN ++ digN) r = K) (ht : r.take K = t) (hc64 : c = 64) (x : UInt8) (hx : r[0]? = some x) (hKp : 0 < K) (h_C4 : letN.contains x = true) :
    Calls Tryz.prog 37 #[.string (B l)] w (RetTok (tokR l) w) := by
  have HV := Lib.hid (show tokR l = (tokN 2 t, K + 1, 0) from by unfold tokR; rw [hc, hr, if_neg (by rw [h_C1]; simp), if_neg (by rw [h_C2]; simp), if_neg hc39, if_neg hc34, hK, ht, if_neg (by rw [hc64]; intro h; exact absurd h.1 (by decide)), if_pos ⟨Or.inl hc64, hKp, by rw [List.getD_eq_getElem?_getD, hx]; exact h_C4⟩, if_neg (by rw [hc64]; decide)])
  generalize tokR l = V at *
  obtain ⟨p0, e0⟩ := byte_at l 0 c (by rw [getD_0 l h1, hc])
  have n0 : (0 : Int) < l.length := by omega
  have n1 : (1 : Int) ≤ l.length := by omega
  have er : (B l).extract 1 l.length = B r := by rw [← hr]; exact ext_drop l 1 h1
  have hrl : r.length + 1 = l.length := by rw [← hr, List.length_drop]; omega
  have C1 := Lib.hid (fun w => (show Calls Tryz.prog 36 #[.int .u8 c.toNat, .string (B (letN ++ [46]))] w fun e w' => e = .returned (.bool false) ∧ w = w' from by have h := in_any c (letN ++ [46]) w (by decide); rw [h_C1] at h; exact h))
  have C2 := Lib.hid (fun w => (show Calls Tryz.prog 36 #[.int .u8 c.toNat, .string (B (digN))] w fun e w' => e = .returned (.bool false) ∧ w = w' from by have h := in_any c (digN) w (by decide); rw [h_C2] at h; exact h))
  have b39 : ((c.toNat : Int) == 39) = false := u8n c 39 (by omega) false (beq_eq_false_iff_ne.2 hc39)
  have b34 : ((c.toNat : Int) == 34) = false := u8n c 34 (by omega) false (beq_eq_false_iff_ne.2 hc34)
  have CW := Lib.hid (fun w => (show Calls Tryz.prog 57 #[.string (B r), .string (B (letN ++ digN))] w fun e w' => e = .returned (.int .i64 (K : Nat)) ∧ w = w' from by have h := while_any r (letN ++ digN) w (by omega) (by decide); rw [hK] at h; exact h))
  have hKl : K ≤ r.length := by rw [← hK]; exact whileN_le (letN ++ digN) r
  have ek : (B r).extract 0 K = B t := by rw [← ht]; exact ext_take0 r K
  have hc37 : ¬ c = 37 := by rw [hc64]; decide
  have b37 : ((c.toNat : Int) == 37) = false := u8n c 37 (by omega) false (beq_eq_false_iff_ne.2 hc37)
  have b64 : ((c.toNat : Int) == 64) = true := u8n c 64 (by omega) true (by rw [hc64]; rfl)
  have hc92 : ¬ c = 92 := by rw [hc64]; decide
  have b92 : ((c.toNat : Int) == 92) = false := u8n c 92 (by omega) false (beq_eq_false_iff_ne.2 hc92)
  have C4 := Lib.hid (fun w => (show Calls Tryz.prog 36 #[.int .u8 x.toNat, .string (B (letN))] w fun e w' => e = .returned (.bool true) ∧ w = w' from by have h := in_any x (letN) w (by decide); rw [h_C4] at h; exact h))
  obtain ⟨p1, e1⟩ := byte_at r 0 x hx
  have hr0 : (0 : Int) < r.length := by have := (List.getElem?_eq_some_iff.1 hx).1; omega
  have k0 : (0 : Int) < (K : Int) := by omega
  clear hx ht
  clear hc64
  clear hc hr
  go_enter Tryz.func37, Tryz.ntmps37
  go_wp2_with fail
  refine (C1.out _).mono ?_
  rintro e w2 ⟨rfl, rfl⟩
  go_wp2_with fail
  refine (C2.out _).mono ?_
  rintro e w2 ⟨rfl, rfl⟩
  go_wp2_with fail
  refine (CW.out _).mono ?_
  rintro e w2 ⟨rfl, rfl⟩
  go_wp2_with fail
  refine (C4.out _).mono ?_
  rintro e w2 ⟨rfl, rfl⟩
  go_wp2
  refine bodyPost_ret (v := .tuple #[.agg #[.int .i64 2, .int .i64 0, .int .i64 0, .string (B t), .int .u32 0, .int .i64 0], .int .i64 ((K : Nat) + 1), .int .i64 0]) (by simp [results, Tryz.results37, go_sem]) rfl ⟨ret_tok (by rw [HV.out]; rfl) (by rw [HV.out]; rfl) (by rw [HV.out]; rfl), ?_⟩
  repeat (with_reducible first | exact Nx.refl _ | assumption | exact HNQ.out | refine Nx.setCell ?_ (Nat.le_refl _) _ | refine Nx.alloc ?_ _)

set_option maxHeartbeats 2000000 in
set_option maxRecDepth 100000 in
theorem token_param (l r : List UInt8) (c : UInt8) (K : Nat) (t : List UInt8) (w : World) (h1 : 1 ≤ l.length) (hl : l.length ≤ 1000000) (hc : l.getD 0 0 = c) (hr : l.drop 1 = r) (h_C1 : (letN ++ [46]).contains c = false) (h_C2 : digN.contains c = false) (hc39 : ¬ c = 39) (hc34 : ¬ c = 34) (hK : whileN (letN ++ digN) r = K) (ht : r.take K = t) (hc92 : c = 92) (x : UInt8) (hx : r[0]? = some x) (hKp : 0 < K) (h_C4 : letN.contains x = true) :
    Calls Tryz.prog 37 #[.string (B l)] w (RetTok (tokR l) w) := by
  have HV := Lib.hid (show tokR l = (tokN 3 t, K + 1, 0) from by unfold tokR; rw [hc, hr, if_neg (by rw [h_C1]; simp), if_neg (by rw [h_C2]; simp), if_neg hc39, if_neg hc34, hK, ht, if_neg (by rw [hc92]; intro h; exact absurd h.1 (by decide)), if_pos ⟨Or.inr hc92, hKp, by rw [List.getD_eq_getElem?_getD, hx]; exact h_C4⟩, if_pos hc92])
  generalize tokR l = V at *
  obtain ⟨p0, e0⟩ := byte_at l 0 c (by rw [getD_0 l h1, hc])
  have n0 : (0 : Int) < l.length := by omega
  have n1 : (1 : Int) ≤ l.length := by omega
  have er : (B l).extract 1 l.length = B r := by rw [← hr]; exact ext_drop l 1 h1
  have hrl : r.length + 1 = l.length := by rw [← hr, List.length_drop]; omega
  have C1 := Lib.hid (fun w => (show Calls Tryz.prog 36 #[.int .u8 c.toNat, .string (B (letN ++ [46]))] w fun e w' => e = .returned (.bool false) ∧ w = w' from by have h := in_any c (letN ++ [46]) w (by decide); rw [h_C1] at h; exact h))
  have C2 := Lib.hid (fun w => (show Calls Tryz.prog 36 #[.int .u8 c.toNat, .string (B (digN))] w fun e w' => e = .returned (.bool false) ∧ w = w' from by have h := in_any c (digN) w (by decide); rw [h_C2] at h; exact h))
  have b39 : ((c.toNat : Int) == 39) = false := u8n c 39 (by omega) false (beq_eq_false_iff_ne.2 hc39)
  have b34 : ((c.toNat : Int) == 34) = false := u8n c 34 (by omega) false (beq_eq_false_iff_ne.2 hc34)
  have CW := Lib.hid (fun w => (show Calls Tryz.prog 57 #[.string (B r), .string (B (letN ++ digN))] w fun e w' => e = .returned (.int .i64 (K : Nat)) ∧ w = w' from by have h := while_any r (letN ++ digN) w (by omega) (by decide); rw [hK] at h; exact h))
  have hKl : K ≤ r.length := by rw [← hK]; exact whileN_le (letN ++ digN) r
  have ek : (B r).extract 0 K = B t := by rw [← ht]; exact ext_take0 r K
  have hc37 : ¬ c = 37 := by rw [hc92]; decide
  have b37 : ((c.toNat : Int) == 37) = false := u8n c 37 (by omega) false (beq_eq_false_iff_ne.2 hc37)
  have b92 : ((c.toNat : Int) == 92) = true := u8n c 92 (by omega) true (by rw [hc92]; rfl)
  have hc64 : ¬ c = 64 := by rw [hc92]; decide
  have b64 : ((c.toNat : Int) == 64) = false := u8n c 64 (by omega) false (beq_eq_false_iff_ne.2 hc64)
  have C4 := Lib.hid (fun w => (show Calls Tryz.prog 36 #[.int .u8 x.toNat, .string (B (letN))] w fun e w' => e = .returned (.bool true) ∧ w = w' from by have h := in_any x (letN) w (by decide); rw [h_C4] at h; exact h))
  obtain ⟨p1, e1⟩ := byte_at r 0 x hx
  have hr0 : (0 : Int) < r.length := by have := (List.getElem?_eq_some_iff.1 hx).1; omega
  have k0 : (0 : Int) < (K : Int) := by omega
  clear hx ht
  clear hc92
  clear hc hr
  go_enter Tryz.func37, Tryz.ntmps37
  go_wp2_with fail
  refine (C1.out _).mono ?_
  rintro e w2 ⟨rfl, rfl⟩
  go_wp2_with fail
  refine (C2.out _).mono ?_
  rintro e w2 ⟨rfl, rfl⟩
  go_wp2_with fail
  refine (CW.out _).mono ?_
  rintro e w2 ⟨rfl, rfl⟩
  go_wp2_with fail
  refine (C4.out _).mono ?_
  rintro e w2 ⟨rfl, rfl⟩
  go_wp2
  refine bodyPost_ret (v := .tuple #[.agg #[.int .i64 3, .int .i64 0, .int .i64 0, .string (B t), .int .u32 0, .int .i64 0], .int .i64 ((K : Nat) + 1), .int .i64 0]) (by simp [results, Tryz.results37, go_sem]) rfl ⟨ret_tok (by rw [HV.out]; rfl) (by rw [HV.out]; rfl) (by rw [HV.out]; rfl), ?_⟩
  repeat (with_reducible first | exact Nx.refl _ | assumption | exact HNQ.out | refine Nx.setCell ?_ (Nat.le_refl _) _ | refine Nx.alloc ?_ _)

end Go.Proofs.YtdgmdkkockbkjaaGreatDoor

