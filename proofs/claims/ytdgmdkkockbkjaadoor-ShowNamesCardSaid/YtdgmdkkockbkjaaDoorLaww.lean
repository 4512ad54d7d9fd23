/- Package typecaselaw23: the walk of ShowNames. -/
import Derived.Test.YtdgmdkkockbkjaaDoorLawu
namespace Go.Proofs.YtdgmdkkockbkjaaDoor
open Go.RowKit
set_option linter.unusedVariables false
set_option linter.unusedSimpArgs false

theorem ext_take (t : List UInt8) (k : Nat) : (B t).extract 0 k = B (t.take k) := by
  refine bytes_ext ?_
  rw [ByteArray.data_extract]
  simp [List.extract]

/-- What a byte of a text is. -/
def okN (c : UInt8) : Prop := (97 ≤ c.toNat ∧ c.toNat ≤ 122) ∨ (48 ≤ c.toNat ∧ c.toNat ≤ 57) ∨ c = 32 ∨ c = 44 ∨ c = 46 ∨ c = 45 ∨ c = 43 ∨ c = 40 ∨ c = 41

theorem okN_of (c : UInt8) (h : (opC c || c == 32 || c == 44) = true) : okN c := by
  unfold opC at h
  simp only [Bool.or_eq_true, Bool.and_eq_true, decide_eq_true_eq, beq_iff_eq] at h
  unfold okN
  rcases h with ((((((((h | h) | h) | h) | h) | h) | h) | h) | h)
  · exact Or.inl h
  · exact Or.inr (Or.inl h)
  all_goals simp [h]

theorem count_take (t : List UInt8) (k : Nat) (c : UInt8) (h : t[k]? = some c) : (t.take (k + 1)).count 44 = (t.take k).count 44 + (if c = 44 then 1 else 0) := by
  rw [take_snoc' t k c h, List.count_append]
  by_cases e : c = 44
  · rw [if_pos e, e]; rfl
  · rw [if_neg e]; simp [List.count_cons, e]

set_option maxHeartbeats 8000000 in
set_option maxRecDepth 100000 in
theorem names_go (op rd rs1 rs2 imm : Int) (s nm t : List UInt8) (kop : Nat) (h0 : -2147483648 ≤ imm) (h1 : imm ≤ 2147483647) (hs : s.length ≤ 50) (ht : textP ⟨op, rd, rs1, rs2, imm⟩ s = t) (htn : ¬ t = []) (hok : op = kop) (hk1 : 1 ≤ kop) (hk2 : kop ≤ 48)
    (hnm : (s = [] ∧ nmB[kop]? = some nm) ∨ (¬ s = [] ∧ nm = s)) (hpre : ∃ r, t = nm ++ r) (hch : ∀ c ∈ t, okN c) (hcm : t.count 44 ≤ 2) (htl : t.length ≤ 1000) (w : World) (hP : NamesAt w ∧ Tab w) :
    Calls Tryd.prog 5 #[.agg #[.int .i64 op, .int .i64 rd, .int .i64 rs1, .int .i64 rs2, .int .i32 imm], .string (B s)] w fun e w' => e = .returned (.bool true) ∧ Nx w w' := by
  have HP := Lib.hid hP
  have H0 := Lib.hid ((Nx.refl w).alloc (.cells #[.int .i64 op, .int .i64 rd, .int .i64 rs1, .int .i64 rs2, .int .i32 imm] 23))
  have CT := Lib.hid (fun w' hp => shText_v op rd rs1 rs2 imm s t ht w' h0 h1 hp)
  subst hok
  clear hP ht
  have d1 : decide ((50 : Int) < s.length) = false := decide_eq_false (by omega)
  have f1 : (t == []) = false := by rw [beq_eq_false_iff_ne]; exact htn
  have d2 : decide ((kop : Int) < 1) = false := decide_eq_false (by omega)
  have d3 : decide ((48 : Int) < kop) = false := decide_eq_false (by omega)
  have hlen : nm.length ≤ t.length := by obtain ⟨r, rfl⟩ := hpre; simp
  have d4 : decide ((t.length : Int) < nm.length) = false := decide_eq_false (by omega)
  have hext : (B t).extract 0 nm.length = B nm := by
    rw [ext_take]
    obtain ⟨r, rfl⟩ := hpre
    rw [List.take_left']
    rfl
  have HCH := Lib.hid hch
  have HCM := Lib.hid hcm
  have HK := Lib.hid (And.intro hk1 hk2)
  have HTL := Lib.hid htl
  clear hpre hch hcm htn
  go_enter Tryd.func5, Tryd.ntmps5
  go_wp2_with fail
  refine (awakeu_any _ (hP_nx HP.out H0.out)).mono ?_
  rintro e w1 ⟨rfl, hn1⟩
  obtain ⟨c0, c1, c2, c3, c4, hz⟩ := five_in hn1
  have H1 := Lib.hid (H0.out.trans hn1)
  clear hn1
  go_wp2_with fail
  refine (CT.out _ (hP_nx HP.out H1.out)).mono ?_
  rintro e w2 ⟨rfl, hn2⟩
  have e0 := hn2.cell c0
  have hz2 := Nat.lt_of_lt_of_le hz hn2.size
  have H2 := Lib.hid (H1.out.trans hn2)
  clear hn2 c0 c1 c2 c3 c4
  rcases hnm with ⟨rfl, hnm⟩ | ⟨hsn, rfl⟩
  · have HNM := Lib.hid hnm
    have hkI : (kop : Int) < 49 := by omega
    clear hnm
    go_wp2
    go_region_with (go_at_call 10; refine (names_nm kop nm HNM.out _).mono ?_; rintro e w4 ⟨g, rfl, hg, hn4⟩; have hn5 : Nx w2 w4 := Nx.trans ((Nx.refl _).drew) hn4; have d0 := hn5.cell e0)
    all_goals
      have H5 := Lib.hid (H2.out.trans hn5)
      clear hn4 hn5 hg
      go_wp2
      go_loopw [7, 8] (fun cv iv wr => ∃ k : Nat, k ≤ t.length ∧ iv = .int .i64 k ∧ cv = .int .i64 ((t.take k).count 44 : Nat) ∧ w4 = wr) (fun _ iv _ => t.length - (intOf iv).toNat)
      case atStart => exact ⟨0, Nat.zero_le _, rfl, by rw [List.take_zero]; rfl, rfl⟩
      case round =>
        obtain ⟨k, hk, rfl, rfl, rfl⟩ := hrel
        by_cases hlt : k < t.length
        · obtain ⟨c, hc⟩ : ∃ c, t[k]? = some c := ⟨_, List.getElem?_eq_getElem hlt⟩
          have dk : decide ((k : Int) < t.length) = true := decide_eq_true (by omega)
          have hix : ∀ h, (((B t)[k]'h).toNat : Int) = c.toNat := by
            intro h
            obtain ⟨h1, h2⟩ := List.getElem?_eq_some_iff.1 hc
            have : (B t)[k]'h = c := h2
            rw [this]
          have HCT := Lib.hid (count_take t k c hc)
          have htl := HTL.out
          have hm : (t.take k).count 44 ≤ 1000 := by have := List.count_le_length (a := (44 : UInt8)) (l := t.take k); rw [List.length_take] at this; omega
          have HC := Lib.hid (HCH.out c (List.mem_of_getElem? hc))
          generalize (t.take k).count 44 = m at *
          clear hc
          rcases HC.out with h | h | h | h | h | h | h | h | h
          · have g1 : decide ((97 : Int) ≤ c.toNat) = true := decide_eq_true (by omega)
            have g2 : decide ((c.toNat : Int) ≤ 122) = true := decide_eq_true (by omega)
            have g3 : ((c.toNat : Int) == 44) = false := by rw [beq_eq_false_iff_ne]; omega
            have HV := Lib.hid (show m = (t.take (k + 1)).count 44 by rw [HCT.out, if_neg (by rintro rfl; revert h; decide)]; rfl)
            generalize ((c.toNat : Nat) : Int) = cv at *
            clear h HC
            go_wp2
            go_roundw
            case rel => exact ⟨k + 1, by omega, by go_num, by rw [← HV.out], trivial⟩
            case measure => simp [intOf]; omega
          · have g1 : decide ((97 : Int) ≤ c.toNat) = false := decide_eq_false (by omega)
            have g2 : decide ((48 : Int) ≤ c.toNat) = true := decide_eq_true (by omega)
            have g4 : decide ((c.toNat : Int) ≤ 57) = true := decide_eq_true (by omega)
            have g3 : ((c.toNat : Int) == 44) = false := by rw [beq_eq_false_iff_ne]; omega
            have HV := Lib.hid (show m = (t.take (k + 1)).count 44 by rw [HCT.out, if_neg (by rintro rfl; revert h; decide)]; rfl)
            generalize ((c.toNat : Nat) : Int) = cv at *
            clear h HC
            go_wp2
            go_roundw
            case rel => exact ⟨k + 1, by omega, by go_num, by rw [← HV.out], trivial⟩
            case measure => simp [intOf]; omega
          · subst h
            have HV := Lib.hid (show m = (t.take (k + 1)).count 44 by rw [HCT.out]; rfl)
            clear HC
            go_wp2
            go_roundw
            case rel => exact ⟨k + 1, by omega, by go_num, by rw [← HV.out], trivial⟩
            case measure => simp [intOf]; omega
          · subst h
            have HV := Lib.hid (show m + 1 = (t.take (k + 1)).count 44 by rw [HCT.out]; rfl)
            clear HC
            go_wp2
            go_roundw
            case rel => exact ⟨k + 1, by omega, by go_num, by rw [← HV.out]; rfl, trivial⟩
            case measure => simp [intOf]; omega
          · subst h
            have HV := Lib.hid (show m = (t.take (k + 1)).count 44 by rw [HCT.out]; rfl)
            clear HC
            go_wp2
            go_roundw
            case rel => exact ⟨k + 1, by omega, by go_num, by rw [← HV.out], trivial⟩
            case measure => simp [intOf]; omega
          · subst h
            have HV := Lib.hid (show m = (t.take (k + 1)).count 44 by rw [HCT.out]; rfl)
            clear HC
            go_wp2
            go_roundw
            case rel => exact ⟨k + 1, by omega, by go_num, by rw [← HV.out], trivial⟩
            case measure => simp [intOf]; omega
          · subst h
            have HV := Lib.hid (show m = (t.take (k + 1)).count 44 by rw [HCT.out]; rfl)
            clear HC
            go_wp2
            go_roundw
            case rel => exact ⟨k + 1, by omega, by go_num, by rw [← HV.out], trivial⟩
            case measure => simp [intOf]; omega
          · subst h
            have HV := Lib.hid (show m = (t.take (k + 1)).count 44 by rw [HCT.out]; rfl)
            clear HC
            go_wp2
            go_roundw
            case rel => exact ⟨k + 1, by omega, by go_num, by rw [← HV.out], trivial⟩
            case measure => simp [intOf]; omega
          · subst h
            have HV := Lib.hid (show m = (t.take (k + 1)).count 44 by rw [HCT.out]; rfl)
            clear HC
            go_wp2
            go_roundw
            case rel => exact ⟨k + 1, by omega, by go_num, by rw [← HV.out], trivial⟩
            case measure => simp [intOf]; omega
        · obtain rfl : k = t.length := by omega
          have HV := Lib.hid (show (t.take t.length).count 44 ≤ 2 by rw [List.take_length]; exact HCM.out)
          have d9 : decide (((t.take t.length).count 44 : Int) ≤ 2) = true := decide_eq_true (by have := HV.out; omega)
          generalize (t.take t.length).count 44 = m at *
          go_wp2
          go_ret
          exact ⟨rfl, H5.out⟩
  · have fs : (nm == []) = false := by rw [beq_eq_false_iff_ne]; exact hsn
    have hn5 : Nx w2 w2 := Nx.refl _
    have H5 := Lib.hid (H2.out.trans hn5)
    clear hn5 hsn
    go_wp2
    go_loopw [7, 8] (fun cv iv wr => ∃ k : Nat, k ≤ t.length ∧ iv = .int .i64 k ∧ cv = .int .i64 ((t.take k).count 44 : Nat) ∧ w2 = wr) (fun _ iv _ => t.length - (intOf iv).toNat)
    case atStart => exact ⟨0, Nat.zero_le _, rfl, by rw [List.take_zero]; rfl, rfl⟩
    case round =>
      obtain ⟨k, hk, rfl, rfl, rfl⟩ := hrel
      by_cases hlt : k < t.length
      · obtain ⟨c, hc⟩ : ∃ c, t[k]? = some c := ⟨_, List.getElem?_eq_getElem hlt⟩
        have dk : decide ((k : Int) < t.length) = true := decide_eq_true (by omega)
        have hix : ∀ h, (((B t)[k]'h).toNat : Int) = c.toNat := by
          intro h
          obtain ⟨h1, h2⟩ := List.getElem?_eq_some_iff.1 hc
          have : (B t)[k]'h = c := h2
          rw [this]
        have HCT := Lib.hid (count_take t k c hc)
        have htl := HTL.out
        have hm : (t.take k).count 44 ≤ 1000 := by have := List.count_le_length (a := (44 : UInt8)) (l := t.take k); rw [List.length_take] at this; omega
        have HC := Lib.hid (HCH.out c (List.mem_of_getElem? hc))
        generalize (t.take k).count 44 = m at *
        clear hc
        rcases HC.out with h | h | h | h | h | h | h | h | h
        · have g1 : decide ((97 : Int) ≤ c.toNat) = true := decide_eq_true (by omega)
          have g2 : decide ((c.toNat : Int) ≤ 122) = true := decide_eq_true (by omega)
          have g3 : ((c.toNat : Int) == 44) = false := by rw [beq_eq_false_iff_ne]; omega
          have HV := Lib.hid (show m = (t.take (k + 1)).count 44 by rw [HCT.out, if_neg (by rintro rfl; revert h; decide)]; rfl)
          generalize ((c.toNat : Nat) : Int) = cv at *
          clear h HC
          go_wp2
          go_roundw
          case rel => exact ⟨k + 1, by omega, by go_num, by rw [← HV.out], trivial⟩
          case measure => simp [intOf]; omega
        · have g1 : decide ((97 : Int) ≤ c.toNat) = false := decide_eq_false (by omega)
          have g2 : decide ((48 : Int) ≤ c.toNat) = true := decide_eq_true (by omega)
          have g4 : decide ((c.toNat : Int) ≤ 57) = true := decide_eq_true (by omega)
          have g3 : ((c.toNat : Int) == 44) = false := by rw [beq_eq_false_iff_ne]; omega
          have HV := Lib.hid (show m = (t.take (k + 1)).count 44 by rw [HCT.out, if_neg (by rintro rfl; revert h; decide)]; rfl)
          generalize ((c.toNat : Nat) : Int) = cv at *
          clear h HC
          go_wp2
          go_roundw
          case rel => exact ⟨k + 1, by omega, by go_num, by rw [← HV.out], trivial⟩
          case measure => simp [intOf]; omega
        · subst h
          have HV := Lib.hid (show m = (t.take (k + 1)).count 44 by rw [HCT.out]; rfl)
          clear HC
          go_wp2
          go_roundw
          case rel => exact ⟨k + 1, by omega, by go_num, by rw [← HV.out], trivial⟩
          case measure => simp [intOf]; omega
        · subst h
          have HV := Lib.hid (show m + 1 = (t.take (k + 1)).count 44 by rw [HCT.out]; rfl)
          clear HC
          go_wp2
          go_roundw
          case rel => exact ⟨k + 1, by omega, by go_num, by rw [← HV.out]; rfl, trivial⟩
          case measure => simp [intOf]; omega
        · subst h
          have HV := Lib.hid (show m = (t.take (k + 1)).count 44 by rw [HCT.out]; rfl)
          clear HC
          go_wp2
          go_roundw
          case rel => exact ⟨k + 1, by omega, by go_num, by rw [← HV.out], trivial⟩
          case measure => simp [intOf]; omega
        · subst h
          have HV := Lib.hid (show m = (t.take (k + 1)).count 44 by rw [HCT.out]; rfl)
          clear HC
          go_wp2
          go_roundw
          case rel => exact ⟨k + 1, by omega, by go_num, by rw [← HV.out], trivial⟩
          case measure => simp [intOf]; omega
        · subst h
          have HV := Lib.hid (show m = (t.take (k + 1)).count 44 by rw [HCT.out]; rfl)
          clear HC
          go_wp2
          go_roundw
          case rel => exact ⟨k + 1, by omega, by go_num, by rw [← HV.out], trivial⟩
          case measure => simp [intOf]; omega
        · subst h
          have HV := Lib.hid (show m = (t.take (k + 1)).count 44 by rw [HCT.out]; rfl)
          clear HC
          go_wp2
          go_roundw
          case rel => exact ⟨k + 1, by omega, by go_num, by rw [← HV.out], trivial⟩
          case measure => simp [intOf]; omega
        · subst h
          have HV := Lib.hid (show m = (t.take (k + 1)).count 44 by rw [HCT.out]; rfl)
          clear HC
          go_wp2
          go_roundw
          case rel => exact ⟨k + 1, by omega, by go_num, by rw [← HV.out], trivial⟩
          case measure => simp [intOf]; omega
      · obtain rfl : k = t.length := by omega
        have HV := Lib.hid (show (t.take t.length).count 44 ≤ 2 by rw [List.take_length]; exact HCM.out)
        have d9 : decide (((t.take t.length).count 44 : Int) ≤ 2) = true := decide_eq_true (by have := HV.out; omega)
        generalize (t.take t.length).count 44 = m at *
        go_wp2
        go_ret
        exact ⟨rfl, H5.out⟩

theorem ShowNames_walk0 (op rd rs1 rs2 imm : Int) (s : List UInt8) (h0 : -2147483648 ≤ imm) (h1 : imm ≤ 2147483647) (hs : s.length ≤ maxLen) (w : World) (hP : NamesAt w ∧ Tab w) :
    Calls Tryd.prog 5 #[.agg #[.int .i64 op, .int .i64 rd, .int .i64 rs1, .int .i64 rs2, .int .i32 imm], .string (B s)] w fun e w' => e = .returned (.bool true) ∧ Nx w w' := by
  by_cases hl : 50 < s.length
  · have HP := Lib.hid hP
    have H0 := Lib.hid ((Nx.refl w).alloc (.cells #[.int .i64 op, .int .i64 rd, .int .i64 rs1, .int .i64 rs2, .int .i32 imm] 23))
    have d1 : decide ((50 : Int) < s.length) = true := decide_eq_true (by omega)
    unfold maxLen at hs
    clear hP
    go_enter Tryd.func5, Tryd.ntmps5
    go_wp2_with fail
    refine (awakeu_any _ (hP_nx HP.out H0.out)).mono ?_
    rintro e w1 ⟨rfl, hn1⟩
    have H1 := Lib.hid (H0.out.trans hn1)
    clear hn1
    go_wp2
    go_ret
    exact ⟨rfl, H1.out⟩
  · cases hok : okT ⟨op, rd, rs1, rs2, imm⟩ s with
    | false =>
      have ht : textP ⟨op, rd, rs1, rs2, imm⟩ s = [] := by unfold textP; rw [hok]; rfl
      have HP := Lib.hid hP
      have H0 := Lib.hid ((Nx.refl w).alloc (.cells #[.int .i64 op, .int .i64 rd, .int .i64 rs1, .int .i64 rs2, .int .i32 imm] 23))
      have CT := Lib.hid (fun w' hp => shText_v op rd rs1 rs2 imm s [] ht w' h0 h1 hp)
      have d1 : decide ((50 : Int) < s.length) = false := decide_eq_false (by omega)
      clear hP ht hs
      go_enter Tryd.func5, Tryd.ntmps5
      go_wp2_with fail
      refine (awakeu_any _ (hP_nx HP.out H0.out)).mono ?_
      rintro e w1 ⟨rfl, hn1⟩
      obtain ⟨c0, c1, c2, c3, c4, hz⟩ := five_in hn1
      have H1 := Lib.hid (H0.out.trans hn1)
      clear hn1
      go_wp2_with fail
      refine (CT.out _ (hP_nx HP.out H1.out)).mono ?_
      rintro e w2 ⟨rfl, hn2⟩
      have H2 := Lib.hid (H1.out.trans hn2)
      clear hn2
      go_wp2
      go_ret
      exact ⟨rfl, H2.out⟩
    | true =>
      have hm := okT_may _ _ hok
      obtain ⟨k, hk, hk49, hnm⟩ := may_nm op rd rs1 rs2 imm hm
      have ho := may_op _ hm
      dsimp only at ho
      obtain ⟨l1, l2, l3⟩ := text_looks _ _ hok
      have hn10 := nmT_opC _ _ hok
      have hjl : (textP ⟨op, rd, rs1, rs2, imm⟩ s).length ≤ 1000 := by
        unfold textP
        rw [if_pos hok]
        have h1' := joinJ_len (nmT ⟨op, rd, rs1, rs2, imm⟩ s) (opsT ⟨op, rd, rs1, rs2, imm⟩ s) (fun o ho => by obtain ⟨c, _, rfl⟩ := List.mem_map.1 ho; exact opnd_len c _ h0 h1)
        have h2' : (opsT ⟨op, rd, rs1, rs2, imm⟩ s).length ≤ 3 := by unfold opsT; rw [List.length_map]; exact lsT_len _ _
        have h3' := hn10.2
        omega
      have hk1 : 1 ≤ k := by omega
      have hk48 : k ≤ 48 := by omega
      have hnmne : ¬ nmT ⟨op, rd, rs1, rs2, imm⟩ s = [] := by
        unfold nmT
        split
        · unfold nameP
          rw [if_neg (by dsimp only; omega)]
          refine nmB_ne _ ?_ ?_
          · dsimp only; omega
          · dsimp only; omega
        · assumption
      refine names_go op rd rs1 rs2 imm s (nmT ⟨op, rd, rs1, rs2, imm⟩ s) _ k h0 h1 (by omega) rfl ?_ hk hk1 hk48 ?_ l1 (fun c hc => okN_of c (l2 c hc)) l3 hjl w hP
      · intro e
        obtain ⟨r, hr⟩ := l1
        rw [e] at hr
        exact hnmne (List.append_eq_nil_iff.1 hr.symm).1
      · by_cases he : s = []
        · refine Or.inl ⟨he, ?_⟩
          rw [hnm]
          unfold nmT nameP
          rw [if_pos he, if_neg (by dsimp only; omega)]
        · refine Or.inr ⟨he, ?_⟩
          unfold nmT
          rw [if_neg he]

theorem ShowNames_walk (op rd rs1 rs2 imm : Int) (a : ByteArray) (h0 : -2147483648 ≤ imm) (h1 : imm ≤ 2147483647) (ha : a.size ≤ maxLen) (w : World) (hP : NamesAt w ∧ Tab w) :
    Calls Tryd.prog 5 #[.agg #[.int .i64 op, .int .i64 rd, .int .i64 rs1, .int .i64 rs2, .int .i32 imm], .string a] w fun e w' => e = .returned (.bool true) ∧ Nx w w' := by
  obtain ⟨⟨l⟩⟩ := a
  exact ShowNames_walk0 op rd rs1 rs2 imm l h0 h1 ha w hP

end Go.Proofs.YtdgmdkkockbkjaaDoor
