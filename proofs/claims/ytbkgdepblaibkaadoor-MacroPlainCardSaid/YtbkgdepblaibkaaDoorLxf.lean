/- Contracts of package lex: functions, own names, marks. -/
import Derived.Test.YtbkgdepblaibkaaDoorLxd
import Derived.Test.YtbkgdepblaibkaaDoorRtj
namespace Go.Proofs.YtbkgdepblaibkaaDoor
open Go.RowKit
set_option linter.unusedVariables false
set_option linter.unusedSimpArgs false

theorem while_go (set l : List UInt8) (i : Nat) (x : UInt8) (hx : l[i]? = some x) (h : set.contains x = true) : whileN set (l.drop i) = 1 + whileN set (l.drop (i + 1)) := by
  obtain ⟨k1, e1⟩ := List.getElem?_eq_some_iff.1 hx
  rw [List.drop_eq_getElem_cons k1, e1]
  conv => lhs; unfold whileN
  exact if_pos h

theorem while_stop (set l : List UInt8) (i : Nat) (x : UInt8) (hx : l[i]? = some x) (h : set.contains x = false) : whileN set (l.drop i) = 0 := by
  obtain ⟨k1, e1⟩ := List.getElem?_eq_some_iff.1 hx
  rw [List.drop_eq_getElem_cons k1, e1]
  unfold whileN
  exact if_neg (by rw [h]; simp)

theorem while_end (set l : List UInt8) (i : Nat) (h : l.length ≤ i) : whileN set (l.drop i) = 0 := by
  rw [List.drop_eq_nil_of_le h]; rfl

theorem conv_mid (w : World) (g o c i : Nat) (l : List UInt8) (hc : BysAt w g o l) (h1 : 1 ≤ i) (hil : i ≤ l.length) :
    (convert 70 9 (.slice (some ⟨g, o + 1, none⟩) (i - 1) (c - 1))).run Tryd.prog w = .ok (.string (B ((l.drop 1).take (i - 1)))) w := by
  have := conv_cut w g o c 1 i l hc h1 hil
  rwa [List.drop_take] at this

/-- What begins with a per cent sign. -/
def fnR (l : List UInt8) : Tok × Nat × Nat :=
  if (l.drop 1).take (whileN (letN ++ digN) (l.drop 1)) = [104, 105] ∨ (l.drop 1).take (whileN (letN ++ digN) (l.drop 1)) = [108, 111] ∨ (l.drop 1).take (whileN (letN ++ digN) (l.drop 1)) = [112, 99, 114, 101, 108] then (tokN 4 ((l.drop 1).take (whileN (letN ++ digN) (l.drop 1))), whileN (letN ++ digN) (l.drop 1) + 1, 0) else (tok0, 0, 2)

/-- What begins with an at sign, or a backslash. -/
def ownR (k : Int) (l : List UInt8) : Tok × Nat × Nat :=
  if 0 < whileN (letN ++ digN) (l.drop 1) ∧ letN.contains ((l.drop 1).getD 0 0) = true then (tokN k ((l.drop 1).take (whileN (letN ++ digN) (l.drop 1))), whileN (letN ++ digN) (l.drop 1) + 1, 0) else (tok0, 0, 2)

theorem while_in (set l : List UInt8) (a i : Nat) (hi : a ≤ i) (h : i < a + whileN set (l.drop a)) : ∃ x, l[i]? = some x ∧ set.contains x = true := by
  induction hk : i - a generalizing a with
  | zero =>
    obtain rfl : i = a := by omega
    by_cases hlt : i < l.length
    · obtain ⟨x, hx⟩ : ∃ x, l[i]? = some x := ⟨_, List.getElem?_eq_getElem hlt⟩
      cases hc : set.contains x
      · rw [while_stop set l i x hx hc] at h; omega
      · exact ⟨x, hx, hc⟩
    · rw [while_end set l i (by omega)] at h; omega
  | succ k ih =>
    by_cases hlt : a < l.length
    · obtain ⟨x, hx⟩ : ∃ x, l[a]? = some x := ⟨_, List.getElem?_eq_getElem hlt⟩
      cases hc : set.contains x
      · rw [while_stop set l a x hx hc] at h; omega
      · rw [while_go set l a x hx hc] at h
        exact ih (a + 1) (by omega) (by omega) (by omega)
    · rw [while_end set l a (by omega)] at h; omega

theorem while_out (set l : List UInt8) (a : Nat) (ha : a ≤ l.length) : a + whileN set (l.drop a) ≤ l.length ∧ (a + whileN set (l.drop a) = l.length ∨ ∃ x, l[a + whileN set (l.drop a)]? = some x ∧ set.contains x = false) := by
  have hle := whileN_le set (l.drop a)
  rw [List.length_drop] at hle
  refine ⟨by omega, ?_⟩
  induction hk : l.length - a generalizing a with
  | zero =>
    have := while_end set l a (by omega)
    rw [this]; left; omega
  | succ k ih =>
    obtain ⟨x, hx⟩ : ∃ x, l[a]? = some x := ⟨_, List.getElem?_eq_getElem (by omega)⟩
    cases hc : set.contains x
    · rw [while_stop set l a x hx hc]
      right
      exact ⟨x, hx, hc⟩
    · rw [while_go set l a x hx hc]
      have h2 := whileN_le set (l.drop (a + 1))
      rw [List.length_drop] at h2
      have := ih (a + 1) (by omega) (by omega) (by omega)
      rw [show a + (1 + whileN set (l.drop (a + 1))) = a + 1 + whileN set (l.drop (a + 1)) by omega]
      exact this

set_option maxHeartbeats 16000000 in
set_option maxRecDepth 100000 in
theorem lfn_any (g o c : Nat) (l : List UInt8) (w : World) (hb : BysAt w g o l) (h1 : 1 ≤ l.length) (hl : l.length ≤ 1000000) (hlc : l.length ≤ c) (hc2 : 1 < c) : Calls Tryd.prog 82 #[.slice (some ⟨g, o, none⟩) l.length c] w (RetTokE (fnR l) w) := by
  obtain ⟨K, hK⟩ : ∃ K, whileN (letN ++ digN) (l.drop 1) = K := ⟨_, rfl⟩
  obtain ⟨I, hI⟩ : ∃ I, 1 + K = I := ⟨_, rfl⟩
  have HV := Lib.hid (show fnR l = if (l.drop 1).take K = [104, 105] ∨ (l.drop 1).take K = [108, 111] ∨ (l.drop 1).take K = [112, 99, 114, 101, 108] then (tokN 4 ((l.drop 1).take K), I, 0) else (tok0, 0, 2) by rw [← hI, Nat.add_comm, ← hK]; rfl)
  have HIN := Lib.hid (fun i h2 h3 => while_in (letN ++ digN) l 1 i h2 h3)
  have hout := while_out (letN ++ digN) l 1 h1
  rw [hK, hI] at hout HIN
  obtain ⟨hKl, hout⟩ := hout
  have HOUT := Lib.hid hout
  have HB := Lib.hid hb
  have hcv := fun w' (hn : Nx w w') => conv_mid w' g o c I l (hb.nx hn) (by omega) hKl
  rw [show (l.drop 1).take (I - 1) = (l.drop 1).take K by rw [← hI]; congr 1; omega] at hcv
  have hcv := hcv (w.alloc (.cells #[.int .i64 0, .int .i64 0, .int .i64 0, .string (B []), .int .u32 0, .int .i64 0] 58)) ((Nx.refl w).alloc _)
  generalize fnR l = V at *
  generalize (l.drop 1).take K = t at *
  have hc2I : (1 : Int) < c := by omega
  have hKI : (I : Int) ≤ l.length := by omega
  have hKc : (I : Int) ≤ c := by omega
  have hI1 : 1 ≤ I := by omega
  have hI1I : (1 : Int) ≤ I := by omega
  clear hb hout hK hI
  go_enter Tryd.func82, Tryd.ntmps82
  go_wp2
  go_loop [5] (fun iv => ∃ i : Nat, 1 ≤ i ∧ i ≤ I ∧ iv = .int .i64 i) (fun iv => l.length - (intOf iv).toNat)
  case atStart => exact ⟨1, by omega, by omega, rfl⟩
  case round =>
    obtain ⟨i, hi1, hi2, rfl⟩ := hrel
    by_cases hlt : i < I
    · obtain ⟨x, hx, hset⟩ := HIN.out i hi1 hlt
      have hil : i < l.length := by omega
      have cx := ((Nx.refl w).alloc (.cells #[.int .i64 0, .int .i64 0, .int .i64 0, .string (B []), .int .u32 0, .int .i64 0] 58)).cell (HB.out i x hx)
      clear hcv
      cases hl1 : letB x
      · cases hd1 : digB x
        · have h95 : (x == 95) = true := by rw [ldN_B, hl1, hd1] at hset; simpa using hset
          have CL := Lib.hid (fun w' => (show Calls Tryd.prog 84 #[.int .u8 x.toNat] w' fun e w2 => e = .returned (.bool false) ∧ w' = w2 from by have := isLetter_any x w'; rwa [hl1] at this))
          have CD := Lib.hid (fun w' => (show Calls Tryd.prog 80 #[.int .u8 x.toNat] w' fun e w2 => e = .returned (.bool false) ∧ w' = w2 from by have := isDigit_any x w'; rwa [hd1] at this))
          have b95 : ((x.toNat : Int) == 95) = true := u8n x 95 (by omega) true h95
          clear hset hl1 hd1 h95 hx
          go_wp2_with fail
          refine (CL.out _).mono ?_
          rintro e w2 ⟨rfl, rfl⟩
          go_wp2_with fail
          refine (CD.out _).mono ?_
          rintro e w2 ⟨rfl, rfl⟩
          go_wp2
          go_round
          case rel => exact ⟨i + 1, by omega, by omega, by go_num⟩
          case measure => simp [intOf]; omega
        · have CL := Lib.hid (fun w' => (show Calls Tryd.prog 84 #[.int .u8 x.toNat] w' fun e w2 => e = .returned (.bool false) ∧ w' = w2 from by have := isLetter_any x w'; rwa [hl1] at this))
          have CD := Lib.hid (fun w' => (show Calls Tryd.prog 80 #[.int .u8 x.toNat] w' fun e w2 => e = .returned (.bool true) ∧ w' = w2 from by have := isDigit_any x w'; rwa [hd1] at this))
          clear hset hl1 hd1 hx
          go_wp2_with fail
          refine (CL.out _).mono ?_
          rintro e w2 ⟨rfl, rfl⟩
          go_wp2_with fail
          refine (CD.out _).mono ?_
          rintro e w2 ⟨rfl, rfl⟩
          go_wp2
          go_round
          case rel => exact ⟨i + 1, by omega, by omega, by go_num⟩
          case measure => simp [intOf]; omega
      · have CL := Lib.hid (fun w' => (show Calls Tryd.prog 84 #[.int .u8 x.toNat] w' fun e w2 => e = .returned (.bool true) ∧ w' = w2 from by have := isLetter_any x w'; rwa [hl1] at this))
        clear hset hl1 hx
        go_wp2_with fail
        refine (CL.out _).mono ?_
        rintro e w2 ⟨rfl, rfl⟩
        go_wp2
        go_round
        case rel => exact ⟨i + 1, by omega, by omega, by go_num⟩
        case measure => simp [intOf]; omega
    · obtain rfl : i = I := by omega
      rcases HOUT.out with hend | ⟨x, hx, hset⟩
      · have dlt : decide ((i : Int) < l.length) = false := decide_eq_false (by omega)
        have hge : l.length ≤ i := by omega
        clear hend
        by_cases t1 : t = [104, 105]
        · have HV2 := Lib.hid (HV.out.trans (if_pos (Or.inl t1)))
          have q1 : (t == [104, 105]) = true := by simpa using t1
          clear t1 HV
          go_wp2
          refine bodyPost_ret (v := .tuple #[.agg #[.int .i64 4, .int .i64 0, .int .i64 0, .string (B t), .int .u32 0, .int .i64 0], .int .i64 (i : Int), .nilIface]) (by simp [results, Tryd.results82, go_sem]) rfl ?_
          rw [HV2.out]
          refine tokE_is (tokN 4 t) (i) 0 (i : Int) (by omega) (by omega) w _ ?_
          repeat (with_reducible first | exact ((Nx.refl w).alloc _) | refine Nx.drew ?_ | refine Nx.setCell ?_ (Nat.le_refl _) _ | refine Nx.alloc ?_ _)
        · have q1 : (t == [104, 105]) = false := by simpa using t1
          by_cases t2 : t = [108, 111]
          · have HV2 := Lib.hid (HV.out.trans (if_pos (Or.inr (Or.inl t2))))
            have q2 : (t == [108, 111]) = true := by simpa using t2
            clear t1 t2 HV
            go_wp2
            refine bodyPost_ret (v := .tuple #[.agg #[.int .i64 4, .int .i64 0, .int .i64 0, .string (B t), .int .u32 0, .int .i64 0], .int .i64 (i : Int), .nilIface]) (by simp [results, Tryd.results82, go_sem]) rfl ?_
            rw [HV2.out]
            refine tokE_is (tokN 4 t) (i) 0 (i : Int) (by omega) (by omega) w _ ?_
            repeat (with_reducible first | exact ((Nx.refl w).alloc _) | refine Nx.drew ?_ | refine Nx.setCell ?_ (Nat.le_refl _) _ | refine Nx.alloc ?_ _)
          · have q2 : (t == [108, 111]) = false := by simpa using t2
            by_cases t3 : t = [112, 99, 114, 101, 108]
            · have HV2 := Lib.hid (HV.out.trans (if_pos (Or.inr (Or.inr t3))))
              have q3 : (t == [112, 99, 114, 101, 108]) = true := by simpa using t3
              clear t1 t2 t3 HV
              go_wp2
              refine bodyPost_ret (v := .tuple #[.agg #[.int .i64 4, .int .i64 0, .int .i64 0, .string (B t), .int .u32 0, .int .i64 0], .int .i64 (i : Int), .nilIface]) (by simp [results, Tryd.results82, go_sem]) rfl ?_
              rw [HV2.out]
              refine tokE_is (tokN 4 t) (i) 0 (i : Int) (by omega) (by omega) w _ ?_
              repeat (with_reducible first | exact ((Nx.refl w).alloc _) | refine Nx.drew ?_ | refine Nx.setCell ?_ (Nat.le_refl _) _ | refine Nx.alloc ?_ _)
            · have HV2 := Lib.hid (HV.out.trans (if_neg (fun h => h.elim t1 (fun h => h.elim t2 t3))))
              have q3 : (t == [112, 99, 114, 101, 108]) = false := by simpa using t3
              clear t1 t2 t3 HV
              go_wp2
              refine bodyPost_ret (v := .tuple #[.agg #[.int .i64 0, .int .i64 0, .int .i64 0, .string (B []), .int .u32 0, .int .i64 0], .int .i64 0, .iface 83 (.int .i64 2)]) (by simp [results, Tryd.results82, go_sem]) rfl ?_
              rw [HV2.out]
              refine tokE_bad _ 2 _ _ ?_
              repeat (with_reducible first | exact ((Nx.refl w).alloc _) | refine Nx.drew ?_ | refine Nx.setCell ?_ (Nat.le_refl _) _ | refine Nx.alloc ?_ _)
      · have hil : i < l.length := (List.getElem?_eq_some_iff.1 hx).1
        have dlt : decide ((i : Int) < l.length) = true := decide_eq_true (by omega)
        have cx := ((Nx.refl w).alloc (.cells #[.int .i64 0, .int .i64 0, .int .i64 0, .string (B []), .int .u32 0, .int .i64 0] 58)).cell (HB.out _ x hx)
        have h3 : letB x = false ∧ digB x = false ∧ (x == 95) = false := by rw [ldN_B] at hset; simpa using hset
        obtain ⟨hl1, hd1, h95⟩ := h3
        have CL := Lib.hid (fun w' => (show Calls Tryd.prog 84 #[.int .u8 x.toNat] w' fun e w2 => e = .returned (.bool false) ∧ w' = w2 from by have := isLetter_any x w'; rwa [hl1] at this))
        have CD := Lib.hid (fun w' => (show Calls Tryd.prog 80 #[.int .u8 x.toNat] w' fun e w2 => e = .returned (.bool false) ∧ w' = w2 from by have := isDigit_any x w'; rwa [hd1] at this))
        have b95 : ((x.toNat : Int) == 95) = false := u8n x 95 (by omega) false h95
        clear hset hl1 hd1 h95 hx
        by_cases t1 : t = [104, 105]
        · have HV2 := Lib.hid (HV.out.trans (if_pos (Or.inl t1)))
          have q1 : (t == [104, 105]) = true := by simpa using t1
          clear t1 HV
          go_wp2_with fail
          refine (CL.out _).mono ?_
          rintro e w2 ⟨rfl, rfl⟩
          go_wp2_with fail
          refine (CD.out _).mono ?_
          rintro e w2 ⟨rfl, rfl⟩
          go_wp2
          refine bodyPost_ret (v := .tuple #[.agg #[.int .i64 4, .int .i64 0, .int .i64 0, .string (B t), .int .u32 0, .int .i64 0], .int .i64 (i : Int), .nilIface]) (by simp [results, Tryd.results82, go_sem]) rfl ?_
          rw [HV2.out]
          refine tokE_is (tokN 4 t) (i) 0 (i : Int) (by omega) (by omega) w _ ?_
          repeat (with_reducible first | exact ((Nx.refl w).alloc _) | refine Nx.drew ?_ | refine Nx.setCell ?_ (Nat.le_refl _) _ | refine Nx.alloc ?_ _)
        · have q1 : (t == [104, 105]) = false := by simpa using t1
          by_cases t2 : t = [108, 111]
          · have HV2 := Lib.hid (HV.out.trans (if_pos (Or.inr (Or.inl t2))))
            have q2 : (t == [108, 111]) = true := by simpa using t2
            clear t1 t2 HV
            go_wp2_with fail
            refine (CL.out _).mono ?_
            rintro e w2 ⟨rfl, rfl⟩
            go_wp2_with fail
            refine (CD.out _).mono ?_
            rintro e w2 ⟨rfl, rfl⟩
            go_wp2
            refine bodyPost_ret (v := .tuple #[.agg #[.int .i64 4, .int .i64 0, .int .i64 0, .string (B t), .int .u32 0, .int .i64 0], .int .i64 (i : Int), .nilIface]) (by simp [results, Tryd.results82, go_sem]) rfl ?_
            rw [HV2.out]
            refine tokE_is (tokN 4 t) (i) 0 (i : Int) (by omega) (by omega) w _ ?_
            repeat (with_reducible first | exact ((Nx.refl w).alloc _) | refine Nx.drew ?_ | refine Nx.setCell ?_ (Nat.le_refl _) _ | refine Nx.alloc ?_ _)
          · have q2 : (t == [108, 111]) = false := by simpa using t2
            by_cases t3 : t = [112, 99, 114, 101, 108]
            · have HV2 := Lib.hid (HV.out.trans (if_pos (Or.inr (Or.inr t3))))
              have q3 : (t == [112, 99, 114, 101, 108]) = true := by simpa using t3
              clear t1 t2 t3 HV
              go_wp2_with fail
              refine (CL.out _).mono ?_
              rintro e w2 ⟨rfl, rfl⟩
              go_wp2_with fail
              refine (CD.out _).mono ?_
              rintro e w2 ⟨rfl, rfl⟩
              go_wp2
              refine bodyPost_ret (v := .tuple #[.agg #[.int .i64 4, .int .i64 0, .int .i64 0, .string (B t), .int .u32 0, .int .i64 0], .int .i64 (i : Int), .nilIface]) (by simp [results, Tryd.results82, go_sem]) rfl ?_
              rw [HV2.out]
              refine tokE_is (tokN 4 t) (i) 0 (i : Int) (by omega) (by omega) w _ ?_
              repeat (with_reducible first | exact ((Nx.refl w).alloc _) | refine Nx.drew ?_ | refine Nx.setCell ?_ (Nat.le_refl _) _ | refine Nx.alloc ?_ _)
            · have HV2 := Lib.hid (HV.out.trans (if_neg (fun h => h.elim t1 (fun h => h.elim t2 t3))))
              have q3 : (t == [112, 99, 114, 101, 108]) = false := by simpa using t3
              clear t1 t2 t3 HV
              go_wp2_with fail
              refine (CL.out _).mono ?_
              rintro e w2 ⟨rfl, rfl⟩
              go_wp2_with fail
              refine (CD.out _).mono ?_
              rintro e w2 ⟨rfl, rfl⟩
              go_wp2
              refine bodyPost_ret (v := .tuple #[.agg #[.int .i64 0, .int .i64 0, .int .i64 0, .string (B []), .int .u32 0, .int .i64 0], .int .i64 0, .iface 83 (.int .i64 2)]) (by simp [results, Tryd.results82, go_sem]) rfl ?_
              rw [HV2.out]
              refine tokE_bad _ 2 _ _ ?_
              repeat (with_reducible first | exact ((Nx.refl w).alloc _) | refine Nx.drew ?_ | refine Nx.setCell ?_ (Nat.le_refl _) _ | refine Nx.alloc ?_ _)

end Go.Proofs.YtbkgdepblaibkaaDoor
