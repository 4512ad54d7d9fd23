/- Contracts of package lex: own names, marks. -/
import Derived.Test.YtbkgdepblaibkaaDoorLxf
namespace Go.Proofs.YtbkgdepblaibkaaDoor
open Go.RowKit
set_option linter.unusedVariables false
set_option linter.unusedSimpArgs false

/-- How far an own name goes. -/
def ownJ (l : List UInt8) : Nat := if 0 < whileN (letN ++ digN) (l.drop 1) ∧ letN.contains ((l.drop 1).getD 0 0) = true then 1 + whileN (letN ++ digN) (l.drop 1) else 1

theorem ownR_J (k : Int) (l : List UInt8) : ownR k l = if 1 < ownJ l then (tokN k ((l.drop 1).take (ownJ l - 1)), ownJ l, 0) else (tok0, 0, 2) := by
  unfold ownR ownJ
  by_cases h : 0 < whileN (letN ++ digN) (l.drop 1) ∧ letN.contains ((l.drop 1).getD 0 0) = true
  · rw [if_pos h, if_pos h, if_pos (by omega), show 1 + whileN (letN ++ digN) (l.drop 1) - 1 = whileN (letN ++ digN) (l.drop 1) by omega, Nat.add_comm]
  · rw [if_neg h, if_neg h, if_neg (by omega)]

theorem drop1_at (l : List UInt8) (x : UInt8) (h : l[1]? = some x) : (l.drop 1).getD 0 0 = x := by
  rw [List.getD_eq_getElem?_getD, List.getElem?_drop, h]; rfl

theorem own_in (l : List UInt8) (i : Nat) (h1 : 1 ≤ i) (h : i < ownJ l) : ∃ x, l[i]? = some x ∧ (letB x = true ∨ (letB x = false ∧ (x == 95) = true) ∨ (letB x = false ∧ (x == 95) = false ∧ 1 < i ∧ digB x = true)) := by
  unfold ownJ at h
  split at h
  · rename_i hc
    obtain ⟨x, hx, hs⟩ := while_in (letN ++ digN) l 1 i h1 h
    refine ⟨x, hx, ?_⟩
    cases hl : letB x
    · cases h95 : (x == 95)
      · rw [ldN_B, hl, h95] at hs
        have hd : digB x = true := by simpa using hs
        refine Or.inr (Or.inr ⟨rfl, rfl, ?_, hd⟩)
        rcases Nat.eq_or_lt_of_le h1 with e | e
        · subst e
          have := hc.2
          rw [drop1_at l x hx, letN_B, hl, h95] at this
          cases this
        · exact e
      · exact Or.inr (Or.inl ⟨rfl, rfl⟩)
    · exact Or.inl rfl
  · omega

theorem own_out (l : List UInt8) (h1 : 1 ≤ l.length) : ownJ l ≤ l.length ∧ 1 ≤ ownJ l ∧ (ownJ l = l.length ∨ ∃ x, l[ownJ l]? = some x ∧ letB x = false ∧ (x == 95) = false ∧ (ownJ l = 1 ∨ digB x = false)) := by
  obtain ⟨hle, hout⟩ := while_out (letN ++ digN) l 1 h1
  unfold ownJ
  split
  · refine ⟨hle, by omega, ?_⟩
    rcases hout with h | ⟨x, hx, hs⟩
    · exact Or.inl h
    · rw [ldN_B] at hs
      have : letB x = false ∧ digB x = false ∧ (x == 95) = false := by simpa using hs
      exact Or.inr ⟨x, hx, this.1, this.2.2, Or.inr this.2.1⟩
  · rename_i hc
    refine ⟨h1, Nat.le_refl _, ?_⟩
    by_cases hl : l.length = 1
    · exact Or.inl hl.symm
    · obtain ⟨x, hx⟩ : ∃ x, l[1]? = some x := ⟨_, List.getElem?_eq_getElem (by omega)⟩
      refine Or.inr ⟨x, hx, ?_⟩
      have hn : letN.contains x = false := by
        cases h : letN.contains x
        · rfl
        · exfalso
          refine hc ⟨?_, by rw [drop1_at l x hx]; exact h⟩
          have hs : (letN ++ digN).contains x = true := by
            rw [letN_B] at h
            rw [ldN_B]
            cases hl : letB x
            · rw [hl] at h; simp at h; simp [h]
            · rfl
          rw [while_go (letN ++ digN) l 1 x hx hs]; omega
      rw [letN_B] at hn
      have : letB x = false ∧ (x == 95) = false := by simpa using hn
      exact ⟨this.1, this.2, Or.inl rfl⟩

set_option maxHeartbeats 16000000 in
set_option maxRecDepth 100000 in
theorem lown_at (g o c : Nat) (l : List UInt8) (w : World) (hb : BysAt w g o l) (h0 : l[0]? = some 64) (hl : l.length ≤ 1000000) (hlc : l.length ≤ c) : Calls Tryd.prog 83 #[.slice (some ⟨g, o, none⟩) l.length c] w (RetTokE (ownR 2 l) w) := by
  have h1 : 1 ≤ l.length := (List.getElem?_eq_some_iff.1 h0).1
  have c0 := hb 0 _ h0
  rw [Nat.add_zero] at c0
  have hzg : g < w.heap.size := block_lt c0
  have c0 : w.cell? ⟨g, o, none⟩ = some (.int .u8 64) := c0
  have l0J : (0 : Int) < l.length := by omega
  have HV := Lib.hid (ownR_J 2 l)
  have HIN := Lib.hid (own_in l)
  obtain ⟨hJl, hJ1, hout⟩ := own_out l h1
  have HOUT := Lib.hid hout
  have HB := Lib.hid hb
  have HCV := Lib.hid (fun w' (hn : Nx w w') => conv_mid w' g o c (ownJ l) l (hb.nx hn) hJ1 hJl)
  clear hout hb h0
  generalize ownR 2 l = V at *
  generalize ownJ l = J at *
  generalize (l.drop 1).take (J - 1) = t at *
  have hJlI : (J : Int) ≤ l.length := by omega
  have hJcI : (J : Int) ≤ c := by omega
  have hJ1I : (1 : Int) ≤ J := by omega
  go_enter Tryd.func83, Tryd.ntmps83
  go_wp2
  go_loop [6] (fun iv => ∃ i : Nat, 1 ≤ i ∧ i ≤ J ∧ iv = .int .i64 i) (fun iv => l.length - (intOf iv).toNat)
  case atStart => exact ⟨1, by omega, by omega, rfl⟩
  case round =>
    obtain ⟨i, hi1, hi2, rfl⟩ := hrel
    by_cases hlt : i < J
    · obtain ⟨x, hx, hset⟩ := HIN.out i hi1 hlt
      have hil : i < l.length := by omega
      have cx := ((Nx.refl w).alloc (.cells #[.int .i64 0, .int .i64 0, .int .i64 0, .string (B []), .int .u32 0, .int .i64 0] 58)).cell (HB.out i x hx)
      clear HCV hx
      rcases hset with hl1 | ⟨hl1, h95⟩ | ⟨hl1, h95, hg1, hd1⟩
      · have CL := Lib.hid (fun w' => (show Calls Tryd.prog 84 #[.int .u8 x.toNat] w' fun e w2 => e = .returned (.bool true) ∧ w' = w2 from by have := isLetter_any x w'; rwa [hl1] at this))
        clear hl1
        go_wp2_with fail
        refine (CL.out _).mono ?_
        rintro e w2 ⟨rfl, rfl⟩
        go_wp2
        go_round
        case rel => exact ⟨i + 1, by omega, by omega, by go_num⟩
        case measure => simp [intOf]; omega
      · have CL := Lib.hid (fun w' => (show Calls Tryd.prog 84 #[.int .u8 x.toNat] w' fun e w2 => e = .returned (.bool false) ∧ w' = w2 from by have := isLetter_any x w'; rwa [hl1] at this))
        have b95 : ((x.toNat : Int) == 95) = true := u8n x 95 (by omega) true h95
        clear hl1 h95
        go_wp2_with fail
        refine (CL.out _).mono ?_
        rintro e w2 ⟨rfl, rfl⟩
        go_wp2
        go_round
        case rel => exact ⟨i + 1, by omega, by omega, by go_num⟩
        case measure => simp [intOf]; omega
      · have CL := Lib.hid (fun w' => (show Calls Tryd.prog 84 #[.int .u8 x.toNat] w' fun e w2 => e = .returned (.bool false) ∧ w' = w2 from by have := isLetter_any x w'; rwa [hl1] at this))
        have CD := Lib.hid (fun w' => (show Calls Tryd.prog 80 #[.int .u8 x.toNat] w' fun e w2 => e = .returned (.bool true) ∧ w' = w2 from by have := isDigit_any x w'; rwa [hd1] at this))
        have b95 : ((x.toNat : Int) == 95) = false := u8n x 95 (by omega) false h95
        have d1 : decide ((1 : Int) < i) = true := decide_eq_true (by omega)
        clear hl1 h95 hd1
        go_wp2_with fail
        refine (CL.out _).mono ?_
        rintro e w2 ⟨rfl, rfl⟩
        go_wp2_with fail
        refine (CD.out _).mono ?_
        rintro e w2 ⟨rfl, rfl⟩
        go_wp2
        go_round
        case rel => exact ⟨i + 1, by omega, by omega, by go_num⟩
        case measure => simp [intOf]; omega
    · obtain rfl : i = J := by omega
      have fin : (i = 1 ∧ V = (tok0, 0, 2)) ∨ (1 < i ∧ V = (tokN 2 t, i, 0)) := by
        by_cases h : 1 < i
        · exact Or.inr ⟨h, HV.out.trans (if_pos h)⟩
        · exact Or.inl ⟨by omega, HV.out.trans (if_neg h)⟩
      have exi : (l.length ≤ i ∧ decide ((i : Int) < l.length) = false) ∨ (i < l.length ∧ decide ((i : Int) < l.length) = true ∧ ∃ x, (w.alloc (.cells #[.int .i64 0, .int .i64 0, .int .i64 0, .string (B []), .int .u32 0, .int .i64 0] 58)).cell? ⟨g, o + i, none⟩ = some (.int .u8 x.toNat) ∧ letB x = false ∧ (x == 95) = false ∧ (i = 1 ∨ digB x = false)) := by
        rcases HOUT.out with h | ⟨x, hx, h⟩
        · exact Or.inl ⟨by omega, decide_eq_false (by omega)⟩
        · have hil : i < l.length := (List.getElem?_eq_some_iff.1 hx).1
          exact Or.inr ⟨hil, decide_eq_true (by omega), x, ((Nx.refl w).alloc _).cell (HB.out i x hx), h⟩
      rcases fin with ⟨hi1', hV⟩ | ⟨hi1', hV⟩
      · have HV2 := Lib.hid hV
        have bq : ((i : Int) == 1) = true := by rw [hi1']; rfl
        have d1 : decide ((1 : Int) < i) = false := decide_eq_false (by omega)
        clear hV HV HCV hi1' HIN HOUT
        rcases exi with ⟨hge, dlt⟩ | ⟨hil, dlt, x, cx, hl1, h95, _⟩
        · go_wp2
          refine bodyPost_ret (v := .tuple #[.agg #[.int .i64 0, .int .i64 0, .int .i64 0, .string (B []), .int .u32 0, .int .i64 0], .int .i64 0, .iface 83 (.int .i64 2)]) (by simp [results, Tryd.results83, go_sem]) rfl ?_
          rw [HV2.out]
          refine tokE_bad _ 2 _ _ ?_
          repeat (with_reducible first | exact ((Nx.refl w).alloc _) | refine Nx.drew ?_ | refine Nx.setCell ?_ (Nat.le_refl _) _ | refine Nx.alloc ?_ _)
        · have CL := Lib.hid (fun w' => (show Calls Tryd.prog 84 #[.int .u8 x.toNat] w' fun e w2 => e = .returned (.bool false) ∧ w' = w2 from by have := isLetter_any x w'; rwa [hl1] at this))
          have b95 : ((x.toNat : Int) == 95) = false := u8n x 95 (by omega) false h95
          clear hl1 h95
          go_wp2_with fail
          refine (CL.out _).mono ?_
          rintro e w2 ⟨rfl, rfl⟩
          go_wp2
          refine bodyPost_ret (v := .tuple #[.agg #[.int .i64 0, .int .i64 0, .int .i64 0, .string (B []), .int .u32 0, .int .i64 0], .int .i64 0, .iface 83 (.int .i64 2)]) (by simp [results, Tryd.results83, go_sem]) rfl ?_
          rw [HV2.out]
          refine tokE_bad _ 2 _ _ ?_
          repeat (with_reducible first | exact ((Nx.refl w).alloc _) | refine Nx.drew ?_ | refine Nx.setCell ?_ (Nat.le_refl _) _ | refine Nx.alloc ?_ _)
      · have HV2 := Lib.hid hV
        have bq : ((i : Int) == 1) = false := beq_eq_false_iff_ne.2 (by omega)
        have d1 : decide ((1 : Int) < i) = true := decide_eq_true (by omega)
        have hcv := HCV.out (w.alloc (.cells #[.int .i64 0, .int .i64 0, .int .i64 0, .string (B []), .int .u32 0, .int .i64 0] 58)) ((Nx.refl w).alloc _)
        have hc1 : 1 < c := by omega
        have hc1I : (1 : Int) < c := by omega
        clear hV HV HCV HIN HOUT
        rcases exi with ⟨hge, dlt⟩ | ⟨hil, dlt, x, cx, hl1, h95, h⟩
        · go_wp2
          refine bodyPost_ret (v := .tuple #[.agg #[.int .i64 2, .int .i64 0, .int .i64 0, .string (B t), .int .u32 0, .int .i64 0], .int .i64 (i : Int), .nilIface]) (by simp [results, Tryd.results83, go_sem]) rfl ?_
          rw [HV2.out]
          refine tokE_is (tokN 2 t) (i) 0 (i : Int) (by omega) (by omega) w _ ?_
          repeat (with_reducible first | exact ((Nx.refl w).alloc _) | refine Nx.drew ?_ | refine Nx.setCell ?_ (Nat.le_refl _) _ | refine Nx.alloc ?_ _)
        · have hd1 : digB x = false := by rcases h with h | h; omega; exact h
          have CL := Lib.hid (fun w' => (show Calls Tryd.prog 84 #[.int .u8 x.toNat] w' fun e w2 => e = .returned (.bool false) ∧ w' = w2 from by have := isLetter_any x w'; rwa [hl1] at this))
          have CD := Lib.hid (fun w' => (show Calls Tryd.prog 80 #[.int .u8 x.toNat] w' fun e w2 => e = .returned (.bool false) ∧ w' = w2 from by have := isDigit_any x w'; rwa [hd1] at this))
          have b95 : ((x.toNat : Int) == 95) = false := u8n x 95 (by omega) false h95
          clear hl1 h95 hd1 h hi1'
          have hip : 0 < i := by omega
          go_wp2_with fail
          refine (CL.out _).mono ?_
          rintro e w2 ⟨rfl, rfl⟩
          go_wp2_with fail
          refine (CD.out _).mono ?_
          rintro e w2 ⟨rfl, rfl⟩
          go_wp2
          refine bodyPost_ret (v := .tuple #[.agg #[.int .i64 2, .int .i64 0, .int .i64 0, .string (B t), .int .u32 0, .int .i64 0], .int .i64 (i : Int), .nilIface]) (by simp [results, Tryd.results83, go_sem]) rfl ?_
          rw [HV2.out]
          refine tokE_is (tokN 2 t) (i) 0 (i : Int) (by omega) (by omega) w _ ?_
          repeat (with_reducible first | exact ((Nx.refl w).alloc _) | refine Nx.drew ?_ | refine Nx.setCell ?_ (Nat.le_refl _) _ | refine Nx.alloc ?_ _)

set_option maxHeartbeats 16000000 in
set_option maxRecDepth 100000 in
theorem lown_bs (g o c : Nat) (l : List UInt8) (w : World) (hb : BysAt w g o l) (h0 : l[0]? = some 92) (hl : l.length ≤ 1000000) (hlc : l.length ≤ c) : Calls Tryd.prog 83 #[.slice (some ⟨g, o, none⟩) l.length c] w (RetTokE (ownR 3 l) w) := by
  have h1 : 1 ≤ l.length := (List.getElem?_eq_some_iff.1 h0).1
  have c0 := hb 0 _ h0
  rw [Nat.add_zero] at c0
  have hzg : g < w.heap.size := block_lt c0
  have c0 : w.cell? ⟨g, o, none⟩ = some (.int .u8 92) := c0
  have l0J : (0 : Int) < l.length := by omega
  have HV := Lib.hid (ownR_J 3 l)
  have HIN := Lib.hid (own_in l)
  obtain ⟨hJl, hJ1, hout⟩ := own_out l h1
  have HOUT := Lib.hid hout
  have HB := Lib.hid hb
  have HCV := Lib.hid (fun w' (hn : Nx w w') => conv_mid w' g o c (ownJ l) l (hb.nx hn) hJ1 hJl)
  clear hout hb h0
  generalize ownR 3 l = V at *
  generalize ownJ l = J at *
  generalize (l.drop 1).take (J - 1) = t at *
  have hJlI : (J : Int) ≤ l.length := by omega
  have hJcI : (J : Int) ≤ c := by omega
  have hJ1I : (1 : Int) ≤ J := by omega
  go_enter Tryd.func83, Tryd.ntmps83
  go_wp2
  go_loop [6] (fun iv => ∃ i : Nat, 1 ≤ i ∧ i ≤ J ∧ iv = .int .i64 i) (fun iv => l.length - (intOf iv).toNat)
  case atStart => exact ⟨1, by omega, by omega, rfl⟩
  case round =>
    obtain ⟨i, hi1, hi2, rfl⟩ := hrel
    by_cases hlt : i < J
    · obtain ⟨x, hx, hset⟩ := HIN.out i hi1 hlt
      have hil : i < l.length := by omega
      have cx := ((Nx.refl w).alloc (.cells #[.int .i64 0, .int .i64 0, .int .i64 0, .string (B []), .int .u32 0, .int .i64 0] 58)).cell (HB.out i x hx)
      clear HCV hx
      rcases hset with hl1 | ⟨hl1, h95⟩ | ⟨hl1, h95, hg1, hd1⟩
      · have CL := Lib.hid (fun w' => (show Calls Tryd.prog 84 #[.int .u8 x.toNat] w' fun e w2 => e = .returned (.bool true) ∧ w' = w2 from by have := isLetter_any x w'; rwa [hl1] at this))
        clear hl1
        go_wp2_with fail
        refine (CL.out _).mono ?_
        rintro e w2 ⟨rfl, rfl⟩
        go_wp2
        go_round
        case rel => exact ⟨i + 1, by omega, by omega, by go_num⟩
        case measure => simp [intOf]; omega
      · have CL := Lib.hid (fun w' => (show Calls Tryd.prog 84 #[.int .u8 x.toNat] w' fun e w2 => e = .returned (.bool false) ∧ w' = w2 from by have := isLetter_any x w'; rwa [hl1] at this))
        have b95 : ((x.toNat : Int) == 95) = true := u8n x 95 (by omega) true h95
        clear hl1 h95
        go_wp2_with fail
        refine (CL.out _).mono ?_
        rintro e w2 ⟨rfl, rfl⟩
        go_wp2
        go_round
        case rel => exact ⟨i + 1, by omega, by omega, by go_num⟩
        case measure => simp [intOf]; omega
      · have CL := Lib.hid (fun w' => (show Calls Tryd.prog 84 #[.int .u8 x.toNat] w' fun e w2 => e = .returned (.bool false) ∧ w' = w2 from by have := isLetter_any x w'; rwa [hl1] at this))
        have CD := Lib.hid (fun w' => (show Calls Tryd.prog 80 #[.int .u8 x.toNat] w' fun e w2 => e = .returned (.bool true) ∧ w' = w2 from by have := isDigit_any x w'; rwa [hd1] at this))
        have b95 : ((x.toNat : Int) == 95) = false := u8n x 95 (by omega) false h95
        have d1 : decide ((1 : Int) < i) = true := decide_eq_true (by omega)
        clear hl1 h95 hd1
        go_wp2_with fail
        refine (CL.out _).mono ?_
        rintro e w2 ⟨rfl, rfl⟩
        go_wp2_with fail
        refine (CD.out _).mono ?_
        rintro e w2 ⟨rfl, rfl⟩
        go_wp2
        go_round
        case rel => exact ⟨i + 1, by omega, by omega, by go_num⟩
        case measure => simp [intOf]; omega
    · obtain rfl : i = J := by omega
      have fin : (i = 1 ∧ V = (tok0, 0, 2)) ∨ (1 < i ∧ V = (tokN 3 t, i, 0)) := by
        by_cases h : 1 < i
        · exact Or.inr ⟨h, HV.out.trans (if_pos h)⟩
        · exact Or.inl ⟨by omega, HV.out.trans (if_neg h)⟩
      have exi : (l.length ≤ i ∧ decide ((i : Int) < l.length) = false) ∨ (i < l.length ∧ decide ((i : Int) < l.length) = true ∧ ∃ x, (w.alloc (.cells #[.int .i64 0, .int .i64 0, .int .i64 0, .string (B []), .int .u32 0, .int .i64 0] 58)).cell? ⟨g, o + i, none⟩ = some (.int .u8 x.toNat) ∧ letB x = false ∧ (x == 95) = false ∧ (i = 1 ∨ digB x = false)) := by
        rcases HOUT.out with h | ⟨x, hx, h⟩
        · exact Or.inl ⟨by omega, decide_eq_false (by omega)⟩
        · have hil : i < l.length := (List.getElem?_eq_some_iff.1 hx).1
          exact Or.inr ⟨hil, decide_eq_true (by omega), x, ((Nx.refl w).alloc _).cell (HB.out i x hx), h⟩
      rcases fin with ⟨hi1', hV⟩ | ⟨hi1', hV⟩
      · have HV2 := Lib.hid hV
        have bq : ((i : Int) == 1) = true := by rw [hi1']; rfl
        have d1 : decide ((1 : Int) < i) = false := decide_eq_false (by omega)
        clear hV HV HCV hi1' HIN HOUT
        rcases exi with ⟨hge, dlt⟩ | ⟨hil, dlt, x, cx, hl1, h95, _⟩
        · go_wp2
          refine bodyPost_ret (v := .tuple #[.agg #[.int .i64 0, .int .i64 0, .int .i64 0, .string (B []), .int .u32 0, .int .i64 0], .int .i64 0, .iface 83 (.int .i64 2)]) (by simp [results, Tryd.results83, go_sem]) rfl ?_
          rw [HV2.out]
          refine tokE_bad _ 2 _ _ ?_
          repeat (with_reducible first | exact ((Nx.refl w).alloc _) | refine Nx.drew ?_ | refine Nx.setCell ?_ (Nat.le_refl _) _ | refine Nx.alloc ?_ _)
        · have CL := Lib.hid (fun w' => (show Calls Tryd.prog 84 #[.int .u8 x.toNat] w' fun e w2 => e = .returned (.bool false) ∧ w' = w2 from by have := isLetter_any x w'; rwa [hl1] at this))
          have b95 : ((x.toNat : Int) == 95) = false := u8n x 95 (by omega) false h95
          clear hl1 h95
          go_wp2_with fail
          refine (CL.out _).mono ?_
          rintro e w2 ⟨rfl, rfl⟩
          go_wp2
          refine bodyPost_ret (v := .tuple #[.agg #[.int .i64 0, .int .i64 0, .int .i64 0, .string (B []), .int .u32 0, .int .i64 0], .int .i64 0, .iface 83 (.int .i64 2)]) (by simp [results, Tryd.results83, go_sem]) rfl ?_
          rw [HV2.out]
          refine tokE_bad _ 2 _ _ ?_
          repeat (with_reducible first | exact ((Nx.refl w).alloc _) | refine Nx.drew ?_ | refine Nx.setCell ?_ (Nat.le_refl _) _ | refine Nx.alloc ?_ _)
      · have HV2 := Lib.hid hV
        have bq : ((i : Int) == 1) = false := beq_eq_false_iff_ne.2 (by omega)
        have d1 : decide ((1 : Int) < i) = true := decide_eq_true (by omega)
        have hcv := HCV.out (w.alloc (.cells #[.int .i64 0, .int .i64 0, .int .i64 0, .string (B []), .int .u32 0, .int .i64 0] 58)) ((Nx.refl w).alloc _)
        have hc1 : 1 < c := by omega
        have hc1I : (1 : Int) < c := by omega
        clear hV HV HCV HIN HOUT
        rcases exi with ⟨hge, dlt⟩ | ⟨hil, dlt, x, cx, hl1, h95, h⟩
        · go_wp2
          refine bodyPost_ret (v := .tuple #[.agg #[.int .i64 3, .int .i64 0, .int .i64 0, .string (B t), .int .u32 0, .int .i64 0], .int .i64 (i : Int), .nilIface]) (by simp [results, Tryd.results83, go_sem]) rfl ?_
          rw [HV2.out]
          refine tokE_is (tokN 3 t) (i) 0 (i : Int) (by omega) (by omega) w _ ?_
          repeat (with_reducible first | exact ((Nx.refl w).alloc _) | refine Nx.drew ?_ | refine Nx.setCell ?_ (Nat.le_refl _) _ | refine Nx.alloc ?_ _)
        · have hd1 : digB x = false := by rcases h with h | h; omega; exact h
          have CL := Lib.hid (fun w' => (show Calls Tryd.prog 84 #[.int .u8 x.toNat] w' fun e w2 => e = .returned (.bool false) ∧ w' = w2 from by have := isLetter_any x w'; rwa [hl1] at this))
          have CD := Lib.hid (fun w' => (show Calls Tryd.prog 80 #[.int .u8 x.toNat] w' fun e w2 => e = .returned (.bool false) ∧ w' = w2 from by have := isDigit_any x w'; rwa [hd1] at this))
          have b95 : ((x.toNat : Int) == 95) = false := u8n x 95 (by omega) false h95
          clear hl1 h95 hd1 h hi1'
          have hip : 0 < i := by omega
          go_wp2_with fail
          refine (CL.out _).mono ?_
          rintro e w2 ⟨rfl, rfl⟩
          go_wp2_with fail
          refine (CD.out _).mono ?_
          rintro e w2 ⟨rfl, rfl⟩
          go_wp2
          refine bodyPost_ret (v := .tuple #[.agg #[.int .i64 3, .int .i64 0, .int .i64 0, .string (B t), .int .u32 0, .int .i64 0], .int .i64 (i : Int), .nilIface]) (by simp [results, Tryd.results83, go_sem]) rfl ?_
          rw [HV2.out]
          refine tokE_is (tokN 3 t) (i) 0 (i : Int) (by omega) (by omega) w _ ?_
          repeat (with_reducible first | exact ((Nx.refl w).alloc _) | refine Nx.drew ?_ | refine Nx.setCell ?_ (Nat.le_refl _) _ | refine Nx.alloc ?_ _)

/-- A mark at the beginning. -/
def markR (l : List UInt8) : Tok × Nat × Nat :=
  if l.take 2 = [60, 60] ∨ l.take 2 = [62, 62] then (tokN 7 (l.take 2), 2, 0) else if markN.contains (l.getD 0 0) = true then (tokN 7 (l.take 1), 1, 0) else (tok0, 0, 2)

theorem conv_head (w : World) (g o c n : Nat) (l : List UInt8) (hc : BysAt w g o l) (hn : n ≤ l.length) :
    (convert 70 9 (.slice (some ⟨g, o, none⟩) n c)).run Tryd.prog w = .ok (.string (B (l.take n))) w := by
  have := conv_cut w g o c 0 n l hc (Nat.zero_le _) hn
  simpa using this

set_option maxHeartbeats 16000000 in
theorem lmark_one (g o c : Nat) (l : List UInt8) (x : UInt8) (w : World) (hb : BysAt w g o l) (h0 : l[0]? = some x) (hl : l.length ≤ 1000000) (hlc : l.length ≤ c) (hx : x ∈ markN) (hV : markR l = (tokN 7 (l.take 1), 1, 0)) : Calls Tryd.prog 86 #[.slice (some ⟨g, o, none⟩) l.length c] w (RetTokE (markR l) w) := by
  have c0 := hb 0 _ h0
  rw [Nat.add_zero] at c0
  have hzg : g < w.heap.size := block_lt c0
  have h1 : 1 ≤ l.length := (List.getElem?_eq_some_iff.1 h0).1
  have l0J : (0 : Int) < l.length := by omega
  have h1c : (1 : Int) ≤ c := by omega
  have HV2 := Lib.hid hV
  have hcv := conv_head (w.alloc (.cells #[.int .i64 0, .int .i64 0, .int .i64 0, .string (B []), .int .u32 0, .int .i64 0] 58)) g o c 1 l (hb.nx ((Nx.refl w).alloc _)) h1
  generalize markR l = V at *
  generalize l.take 1 = t at *
  clear hb h0 hV
  simp only [markN, List.mem_cons, List.not_mem_nil, or_false] at hx
  rcases hx with rfl | rfl | rfl | rfl | rfl | rfl | rfl | rfl | rfl | rfl | rfl | rfl | rfl
  all_goals
    go_enter Tryd.func86, Tryd.ntmps86
    go_wp2
    refine bodyPost_ret (v := .tuple #[.agg #[.int .i64 7, .int .i64 0, .int .i64 0, .string (B t), .int .u32 0, .int .i64 0], .int .i64 1, .nilIface]) (by simp [results, Tryd.results86, go_sem]) rfl ?_
    rw [HV2.out]
    refine tokE_is (tokN 7 t) 1 0 1 (by omega) (by omega) w _ ?_
    repeat (with_reducible first | exact Nx.refl w | refine Nx.drew ?_ | refine Nx.drewN ?_ _ | refine Nx.setCell ?_ (Nat.le_refl _) _ | refine Nx.alloc ?_ _)

theorem lmark_none (g o c : Nat) (l : List UInt8) (x : UInt8) (w : World) (hb : BysAt w g o l) (h0 : l[0]? = some x) (hl : l.length ≤ 1000000) (hlc : l.length ≤ c) (hx : ¬ x ∈ markN) (h60 : ¬ x = 60) (h62 : ¬ x = 62) (hV : markR l = (tok0, 0, 2)) : Calls Tryd.prog 86 #[.slice (some ⟨g, o, none⟩) l.length c] w (RetTokE (markR l) w) := by
  have c0 := hb 0 _ h0
  rw [Nat.add_zero] at c0
  have hzg : g < w.heap.size := block_lt c0
  have h1 : 1 ≤ l.length := (List.getElem?_eq_some_iff.1 h0).1
  have l0J : (0 : Int) < l.length := by omega
  have h1c : (1 : Int) ≤ c := by omega
  have HV2 := Lib.hid hV
  generalize markR l = V at *
  clear hb h0 hV
  have b60 : ((x.toNat : Int) == 60) = false := u8n x 60 (by omega) false (beq_eq_false_iff_ne.2 h60)
  have b62 : ((x.toNat : Int) == 62) = false := u8n x 62 (by omega) false (beq_eq_false_iff_ne.2 h62)
  have b44 : ((x.toNat : Int) == 44) = false := u8n x 44 (by omega) false (beq_eq_false_iff_ne.2 (by intro e; apply hx; rw [e]; decide))
  have b58 : ((x.toNat : Int) == 58) = false := u8n x 58 (by omega) false (beq_eq_false_iff_ne.2 (by intro e; apply hx; rw [e]; decide))
  have b40 : ((x.toNat : Int) == 40) = false := u8n x 40 (by omega) false (beq_eq_false_iff_ne.2 (by intro e; apply hx; rw [e]; decide))
  have b41 : ((x.toNat : Int) == 41) = false := u8n x 41 (by omega) false (beq_eq_false_iff_ne.2 (by intro e; apply hx; rw [e]; decide))
  have b43 : ((x.toNat : Int) == 43) = false := u8n x 43 (by omega) false (beq_eq_false_iff_ne.2 (by intro e; apply hx; rw [e]; decide))
  have b45 : ((x.toNat : Int) == 45) = false := u8n x 45 (by omega) false (beq_eq_false_iff_ne.2 (by intro e; apply hx; rw [e]; decide))
  have b42 : ((x.toNat : Int) == 42) = false := u8n x 42 (by omega) false (beq_eq_false_iff_ne.2 (by intro e; apply hx; rw [e]; decide))
  have b47 : ((x.toNat : Int) == 47) = false := u8n x 47 (by omega) false (beq_eq_false_iff_ne.2 (by intro e; apply hx; rw [e]; decide))
  have b38 : ((x.toNat : Int) == 38) = false := u8n x 38 (by omega) false (beq_eq_false_iff_ne.2 (by intro e; apply hx; rw [e]; decide))
  have b124 : ((x.toNat : Int) == 124) = false := u8n x 124 (by omega) false (beq_eq_false_iff_ne.2 (by intro e; apply hx; rw [e]; decide))
  have b94 : ((x.toNat : Int) == 94) = false := u8n x 94 (by omega) false (beq_eq_false_iff_ne.2 (by intro e; apply hx; rw [e]; decide))
  have b126 : ((x.toNat : Int) == 126) = false := u8n x 126 (by omega) false (beq_eq_false_iff_ne.2 (by intro e; apply hx; rw [e]; decide))
  have b61 : ((x.toNat : Int) == 61) = false := u8n x 61 (by omega) false (beq_eq_false_iff_ne.2 (by intro e; apply hx; rw [e]; decide))
  clear hx h60 h62
  go_enter Tryd.func86, Tryd.ntmps86
  go_wp2
  refine bodyPost_ret (v := .tuple #[.agg #[.int .i64 0, .int .i64 0, .int .i64 0, .string (B []), .int .u32 0, .int .i64 0], .int .i64 0, .iface 83 (.int .i64 2)]) (by simp [results, Tryd.results86, go_sem]) rfl ?_
  rw [HV2.out]
  refine tokE_bad _ 2 _ _ ?_
  repeat (with_reducible first | exact Nx.refl w | refine Nx.drew ?_ | refine Nx.drewN ?_ _ | refine Nx.setCell ?_ (Nat.le_refl _) _ | refine Nx.alloc ?_ _)

set_option maxHeartbeats 4000000 in
theorem lmark_lt1 (g o c : Nat) (l : List UInt8) (x : UInt8) (w : World) (hb : BysAt w g o l) (h0 : l[0]? = some x) (hl : l.length < 2) (hlc : l.length ≤ c) (hx : x = 60 ∨ x = 62) (hV : markR l = (tok0, 0, 2)) : Calls Tryd.prog 86 #[.slice (some ⟨g, o, none⟩) l.length c] w (RetTokE (markR l) w) := by
  have c0 := hb 0 _ h0
  rw [Nat.add_zero] at c0
  have hzg : g < w.heap.size := block_lt c0
  have h1 : 1 ≤ l.length := (List.getElem?_eq_some_iff.1 h0).1
  have l0J : (0 : Int) < l.length := by omega
  have h1c : (1 : Int) ≤ c := by omega
  have HV2 := Lib.hid hV
  generalize markR l = V at *
  have d2 : decide ((l.length : Int) < 2) = true := decide_eq_true (by omega)
  clear hb h0 hV
  rcases hx with rfl | rfl
  all_goals
    go_enter Tryd.func86, Tryd.ntmps86
    go_wp2
    go_quiet (fail)
    go_wp2
    refine bodyPost_ret (v := .tuple #[.agg #[.int .i64 0, .int .i64 0, .int .i64 0, .string (B []), .int .u32 0, .int .i64 0], .int .i64 0, .iface 83 (.int .i64 2)]) (by simp [results, Tryd.results86, go_sem]) rfl ?_
    rw [HV2.out]
    refine tokE_bad _ 2 _ _ ?_
    repeat (with_reducible first | exact Nx.refl w | refine Nx.drew ?_ | refine Nx.drewN ?_ _ | refine Nx.setCell ?_ (Nat.le_refl _) _ | refine Nx.alloc ?_ _)

set_option maxHeartbeats 4000000 in
theorem lmark_lt2 (g o c : Nat) (l : List UInt8) (x y : UInt8) (w : World) (hb : BysAt w g o l) (h0 : l[0]? = some x) (hy : l[1]? = some y) (hl : l.length ≤ 1000000) (hlc : l.length ≤ c) (hx : x = 60 ∨ x = 62) (hyx : ¬ y = x) (hV : markR l = (tok0, 0, 2)) : Calls Tryd.prog 86 #[.slice (some ⟨g, o, none⟩) l.length c] w (RetTokE (markR l) w) := by
  have c0 := hb 0 _ h0
  rw [Nat.add_zero] at c0
  have hzg : g < w.heap.size := block_lt c0
  have h1 : 1 ≤ l.length := (List.getElem?_eq_some_iff.1 h0).1
  have l0J : (0 : Int) < l.length := by omega
  have h1c : (1 : Int) ≤ c := by omega
  have c1 := hb 1 _ hy
  have h2 : 1 < l.length := (List.getElem?_eq_some_iff.1 hy).1
  have h2I : (1 : Int) < l.length := by omega
  have HV2 := Lib.hid hV
  generalize markR l = V at *
  have d2 : decide ((l.length : Int) < 2) = false := decide_eq_false (by omega)
  clear hb h0 hV hy
  rcases hx with rfl | rfl
  · have b : ((y.toNat : Int) != 60) = true := by have := u8n y 60 (by omega) false (beq_eq_false_iff_ne.2 hyx); simpa using this
    clear hyx
    go_enter Tryd.func86, Tryd.ntmps86
    go_wp2
    go_quiet (fail)
    go_wp2
    refine bodyPost_ret (v := .tuple #[.agg #[.int .i64 0, .int .i64 0, .int .i64 0, .string (B []), .int .u32 0, .int .i64 0], .int .i64 0, .iface 83 (.int .i64 2)]) (by simp [results, Tryd.results86, go_sem]) rfl ?_
    rw [HV2.out]
    refine tokE_bad _ 2 _ _ ?_
    repeat (with_reducible first | exact Nx.refl w | refine Nx.drew ?_ | refine Nx.drewN ?_ _ | refine Nx.setCell ?_ (Nat.le_refl _) _ | refine Nx.alloc ?_ _)
  · have b : ((y.toNat : Int) != 62) = true := by have := u8n y 62 (by omega) false (beq_eq_false_iff_ne.2 hyx); simpa using this
    clear hyx
    go_enter Tryd.func86, Tryd.ntmps86
    go_wp2
    go_quiet (fail)
    go_wp2
    refine bodyPost_ret (v := .tuple #[.agg #[.int .i64 0, .int .i64 0, .int .i64 0, .string (B []), .int .u32 0, .int .i64 0], .int .i64 0, .iface 83 (.int .i64 2)]) (by simp [results, Tryd.results86, go_sem]) rfl ?_
    rw [HV2.out]
    refine tokE_bad _ 2 _ _ ?_
    repeat (with_reducible first | exact Nx.refl w | refine Nx.drew ?_ | refine Nx.drewN ?_ _ | refine Nx.setCell ?_ (Nat.le_refl _) _ | refine Nx.alloc ?_ _)

set_option maxHeartbeats 4000000 in
theorem lmark_two (g o c : Nat) (l : List UInt8) (x : UInt8) (w : World) (hb : BysAt w g o l) (h0 : l[0]? = some x) (hy : l[1]? = some x) (hl : l.length ≤ 1000000) (hlc : l.length ≤ c) (hx : x = 60 ∨ x = 62) (hV : markR l = (tokN 7 (l.take 2), 2, 0)) : Calls Tryd.prog 86 #[.slice (some ⟨g, o, none⟩) l.length c] w (RetTokE (markR l) w) := by
  have c0 := hb 0 _ h0
  rw [Nat.add_zero] at c0
  have hzg : g < w.heap.size := block_lt c0
  have h1 : 1 ≤ l.length := (List.getElem?_eq_some_iff.1 h0).1
  have l0J : (0 : Int) < l.length := by omega
  have h1c : (1 : Int) ≤ c := by omega
  have c1 := hb 1 _ hy
  have h2 : 1 < l.length := (List.getElem?_eq_some_iff.1 hy).1
  have h2I : (1 : Int) < l.length := by omega
  have h2c : (2 : Int) ≤ c := by omega
  have HV2 := Lib.hid hV
  have hcv := fun m => conv_head (((w.alloc (.cells #[.int .i64 0, .int .i64 0, .int .i64 0, .string (B []), .int .u32 0, .int .i64 0] 58))).drewN m) g o c 2 l (hb.nx (((Nx.refl w).alloc _).drewN m)) h2
  generalize markR l = V at *
  generalize l.take 2 = t at *
  have d2 : decide ((l.length : Int) < 2) = false := decide_eq_false (by omega)
  clear hb h0 hV hy
  rcases hx with rfl | rfl
  all_goals
    go_enter Tryd.func86, Tryd.ntmps86
    go_wp2
    go_quiet (fail)
    go_wp2
    refine bodyPost_ret (v := .tuple #[.agg #[.int .i64 7, .int .i64 0, .int .i64 0, .string (B t), .int .u32 0, .int .i64 0], .int .i64 2, .nilIface]) (by simp [results, Tryd.results86, go_sem]) rfl ?_
    rw [HV2.out]
    refine tokE_is (tokN 7 t) 2 0 2 (by omega) (by omega) w _ ?_
    repeat (with_reducible first | exact Nx.refl w | refine Nx.drew ?_ | refine Nx.drewN ?_ _ | refine Nx.setCell ?_ (Nat.le_refl _) _ | refine Nx.alloc ?_ _)

theorem lmark_any (g o c : Nat) (l : List UInt8) (x : UInt8) (w : World) (hb : BysAt w g o l) (h0 : l[0]? = some x) (hl : l.length ≤ 1000000) (hlc : l.length ≤ c) : Calls Tryd.prog 86 #[.slice (some ⟨g, o, none⟩) l.length c] w (RetTokE (markR l) w) := by
  have hg0 := getD_at l 0 x h0
  have h1 : 1 ≤ l.length := (List.getElem?_eq_some_iff.1 h0).1
  have two : ∀ a : UInt8, l.take 2 = [a, a] → x = a ∧ l[1]? = some a := fun a h => by
    match l, h with
    | [_, _], h => cases h; cases h0; exact ⟨rfl, rfl⟩
    | _ :: _ :: _ :: _, h => cases h; cases h0; exact ⟨rfl, rfl⟩
  have two' : ∀ a : UInt8, x = a → l[1]? = some a → l.take 2 = [a, a] := fun a h k => by
    match l, h0, k with
    | p :: q :: tl, h0, k =>
      cases h0; cases k; cases h; rfl
  by_cases hx : x = 60 ∨ x = 62
  · have hnm : markN.contains x = false := by rcases hx with rfl | rfl <;> decide
    by_cases hl2 : l.length < 2
    · refine lmark_lt1 g o c l x w hb h0 hl2 hlc hx ?_
      unfold markR
      rw [if_neg, hg0, if_neg (by rw [hnm]; simp)]
      rintro (h | h)
      · have := (List.getElem?_eq_some_iff.1 (two 60 h).2).1; omega
      · have := (List.getElem?_eq_some_iff.1 (two 62 h).2).1; omega
    · obtain ⟨y, hy⟩ : ∃ y, l[1]? = some y := ⟨_, List.getElem?_eq_getElem (by omega)⟩
      by_cases hyx : y = x
      · subst hyx
        refine lmark_two g o c l y w hb h0 hy hl hlc hx ?_
        unfold markR
        rw [if_pos]
        rcases hx with h | h
        · exact Or.inl (two' 60 h (by rw [← h]; exact hy))
        · exact Or.inr (two' 62 h (by rw [← h]; exact hy))
      · refine lmark_lt2 g o c l x y w hb h0 hy hl hlc hx hyx ?_
        unfold markR
        rw [if_neg, hg0, if_neg (by rw [hnm]; simp)]
        rintro (h | h)
        · obtain ⟨e1, e2⟩ := two 60 h; rw [hy] at e2; cases e2; exact hyx e1.symm
        · obtain ⟨e1, e2⟩ := two 62 h; rw [hy] at e2; cases e2; exact hyx e1.symm
  · have hno : ¬ (l.take 2 = [60, 60] ∨ l.take 2 = [62, 62]) := by
      rintro (h | h)
      · exact hx (Or.inl (two 60 h).1)
      · exact hx (Or.inr (two 62 h).1)
    by_cases hm : x ∈ markN
    · refine lmark_one g o c l x w hb h0 hl hlc hm ?_
      unfold markR
      rw [if_neg hno, hg0, if_pos (by simpa using hm)]
    · refine lmark_none g o c l x w hb h0 hl hlc hm (fun e => hx (Or.inl e)) (fun e => hx (Or.inr e)) ?_
      unfold markR
      rw [if_neg hno, hg0, if_neg (by simpa using hm)]

end Go.Proofs.YtbkgdepblaibkaaDoor
