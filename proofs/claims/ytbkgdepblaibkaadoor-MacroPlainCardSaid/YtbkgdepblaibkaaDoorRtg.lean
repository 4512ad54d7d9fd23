/- Contracts of typecaseref10: a token, the last branches. -/
import Derived.Test.YtbkgdepblaibkaaDoorRtf
namespace Go.Proofs.YtbkgdepblaibkaaDoor
open Go.RowKit
set_option linter.unusedVariables false
set_option linter.unusedSimpArgs false

theorem take2_head (l : List UInt8) (a b : UInt8) (h : l.take 2 = [a, b]) : l.getD 0 0 = a := by
  cases l with
  | nil => cases h
  | cons x l => cases l with
    | nil => cases h
    | cons y l => injection h

theorem take2_short (l : List UInt8) (a b : UInt8) (hl : l.length ≤ 1) : ¬ l.take 2 = [a, b] := by
  intro h
  have := congrArg List.length h
  simp at this
  omega

set_option maxHeartbeats 2000000 in
set_option maxRecDepth 100000 in
theorem token_pc_short (l r : List UInt8) (c : UInt8) (K : Nat) (t : List UInt8) (w : World) (h1 : 1 ≤ l.length) (hl : l.length ≤ 1000000) (hc : l.getD 0 0 = c) (hr : l.drop 1 = r) (h_C1 : (letN ++ [46]).contains c = false) (h_C2 : digN.contains c = false) (hc39 : ¬ c = 39) (hc34 : ¬ c = 34) (hK : whileN (letN ++ digN) r = K) (ht : r.take K = t) (hc37 : c = 37) (hta : ¬ t = [104, 105]) (htb : ¬ t = [108, 111]) (htc : ¬ t = [112, 99, 114, 101, 108]) (hlen : l.length ≤ 1) (h_C5 : markN.contains c = false) :
    Calls Tryd.prog 74 #[.string (B l)] w (RetTok (tokR l) w) := by
  have HV := Lib.hid (show tokR l = (tok0, 0, 2) from by unfold tokR; rw [hc, hr, if_neg (by rw [h_C1]; simp), if_neg (by rw [h_C2]; simp), if_neg hc39, if_neg hc34, hK, ht, if_neg (fun h => h.2.elim hta (fun h => h.elim htb htc)), if_neg (fun h => h.1.elim (by rw [hc37]; decide) (by rw [hc37]; decide)), if_neg (fun h => h.elim (take2_short l 60 60 hlen) (take2_short l 62 62 hlen)), if_neg (by rw [h_C5]; simp)])
  generalize tokR l = V at *
  obtain ⟨p0, e0⟩ := byte_at l 0 c (by rw [getD_0 l h1, hc])
  have n0 : (0 : Int) < l.length := by omega
  have n1 : (1 : Int) ≤ l.length := by omega
  have er : (B l).extract 1 l.length = B r := by rw [← hr]; exact ext_drop l 1 h1
  have hrl : r.length + 1 = l.length := by rw [← hr, List.length_drop]; omega
  have C1 := Lib.hid (fun w => (show Calls Tryd.prog 73 #[.int .u8 c.toNat, .string (B (letN ++ [46]))] w fun e w' => e = .returned (.bool false) ∧ w = w' from by have h := in_any c (letN ++ [46]) w (by decide); rw [h_C1] at h; exact h))
  have C2 := Lib.hid (fun w => (show Calls Tryd.prog 73 #[.int .u8 c.toNat, .string (B (digN))] w fun e w' => e = .returned (.bool false) ∧ w = w' from by have h := in_any c (digN) w (by decide); rw [h_C2] at h; exact h))
  have b39 : ((c.toNat : Int) == 39) = false := u8n c 39 (by omega) false (beq_eq_false_iff_ne.2 hc39)
  have b34 : ((c.toNat : Int) == 34) = false := u8n c 34 (by omega) false (beq_eq_false_iff_ne.2 hc34)
  have CW := Lib.hid (fun w => (show Calls Tryd.prog 87 #[.string (B r), .string (B (letN ++ digN))] w fun e w' => e = .returned (.int .i64 (K : Nat)) ∧ w = w' from by have h := while_any r (letN ++ digN) w (by omega) (by decide); rw [hK] at h; exact h))
  have hKl : K ≤ r.length := by rw [← hK]; exact whileN_le (letN ++ digN) r
  have ek : (B r).extract 0 K = B t := by rw [← ht]; exact ext_take0 r K
  have b37 : ((c.toNat : Int) == 37) = true := u8n c 37 (by omega) true (by rw [hc37]; rfl)
  have hc64 : ¬ c = 64 := by rw [hc37]; decide
  have hc92 : ¬ c = 92 := by rw [hc37]; decide
  have b64 : ((c.toNat : Int) == 64) = false := u8n c 64 (by omega) false (beq_eq_false_iff_ne.2 hc64)
  have b92 : ((c.toNat : Int) == 92) = false := u8n c 92 (by omega) false (beq_eq_false_iff_ne.2 hc92)
  have ta : (t == [104, 105]) = false := by simpa using hta
  have tb : (t == [108, 111]) = false := by simpa using htb
  have tc : (t == [112, 99, 114, 101, 108]) = false := by simpa using htc
  clear ht hta htb htc
  have nL : decide ((1 : Int) < (l.length : Int)) = false := decide_eq_false (by omega)
  have C5 := Lib.hid (fun w => (show Calls Tryd.prog 73 #[.int .u8 c.toNat, .string (B (markN))] w fun e w' => e = .returned (.bool false) ∧ w = w' from by have h := in_any c (markN) w (by decide); rw [h_C5] at h; exact h))
  clear hc37
  clear hc hr
  go_enter Tryd.func74, Tryd.ntmps74
  go_wp2_with fail
  refine (C1.out _).mono ?_
  rintro e w2 ⟨rfl, rfl⟩
  go_wp2_with fail
  refine (C2.out _).mono ?_
  rintro e w2 ⟨rfl, rfl⟩
  go_wp2_with fail
  refine (CW.out _).mono ?_
  rintro e w2 ⟨rfl, rfl⟩
  go_wp2_with fail
  refine (C5.out _).mono ?_
  rintro e w2 ⟨rfl, rfl⟩
  go_wp2
  refine bodyPost_ret (v := .tuple #[.agg #[.int .i64 0, .int .i64 0, .int .i64 0, .string (B []), .int .u32 0, .int .i64 0], .int .i64 0, .int .i64 2]) (by simp [results, Tryd.results74, go_sem]) rfl ⟨ret_tok (by rw [HV.out]; rfl) (by rw [HV.out]; rfl) (by rw [HV.out]; rfl), ?_⟩
  repeat (with_reducible first | exact Nx.refl _ | assumption | exact HNQ.out | refine Nx.setCell ?_ (Nat.le_refl _) _ | refine Nx.alloc ?_ _)

set_option maxHeartbeats 2000000 in
set_option maxRecDepth 100000 in
theorem token_own64_no_short (l r : List UInt8) (c : UInt8) (K : Nat) (t : List UInt8) (w : World) (h1 : 1 ≤ l.length) (hl : l.length ≤ 1000000) (hc : l.getD 0 0 = c) (hr : l.drop 1 = r) (h_C1 : (letN ++ [46]).contains c = false) (h_C2 : digN.contains c = false) (hc39 : ¬ c = 39) (hc34 : ¬ c = 34) (hK : whileN (letN ++ digN) r = K) (ht : r.take K = t) (hc64 : c = 64) (hK0 : K = 0) (hlen : l.length ≤ 1) (h_C5 : markN.contains c = false) :
    Calls Tryd.prog 74 #[.string (B l)] w (RetTok (tokR l) w) := by
  have HV := Lib.hid (show tokR l = (tok0, 0, 2) from by unfold tokR; rw [hc, hr, if_neg (by rw [h_C1]; simp), if_neg (by rw [h_C2]; simp), if_neg hc39, if_neg hc34, hK, ht, if_neg (fun h => absurd h.1 (by rw [hc64]; decide)), if_neg (fun h => absurd h.2.1 (by omega)), if_neg (fun h => h.elim (take2_short l 60 60 hlen) (take2_short l 62 62 hlen)), if_neg (by rw [h_C5]; simp)])
  generalize tokR l = V at *
  obtain ⟨p0, e0⟩ := byte_at l 0 c (by rw [getD_0 l h1, hc])
  have n0 : (0 : Int) < l.length := by omega
  have n1 : (1 : Int) ≤ l.length := by omega
  have er : (B l).extract 1 l.length = B r := by rw [← hr]; exact ext_drop l 1 h1
  have hrl : r.length + 1 = l.length := by rw [← hr, List.length_drop]; omega
  have C1 := Lib.hid (fun w => (show Calls Tryd.prog 73 #[.int .u8 c.toNat, .string (B (letN ++ [46]))] w fun e w' => e = .returned (.bool false) ∧ w = w' from by have h := in_any c (letN ++ [46]) w (by decide); rw [h_C1] at h; exact h))
  have C2 := Lib.hid (fun w => (show Calls Tryd.prog 73 #[.int .u8 c.toNat, .string (B (digN))] w fun e w' => e = .returned (.bool false) ∧ w = w' from by have h := in_any c (digN) w (by decide); rw [h_C2] at h; exact h))
  have b39 : ((c.toNat : Int) == 39) = false := u8n c 39 (by omega) false (beq_eq_false_iff_ne.2 hc39)
  have b34 : ((c.toNat : Int) == 34) = false := u8n c 34 (by omega) false (beq_eq_false_iff_ne.2 hc34)
  have CW := Lib.hid (fun w => (show Calls Tryd.prog 87 #[.string (B r), .string (B (letN ++ digN))] w fun e w' => e = .returned (.int .i64 (K : Nat)) ∧ w = w' from by have h := while_any r (letN ++ digN) w (by omega) (by decide); rw [hK] at h; exact h))
  have hKl : K ≤ r.length := by rw [← hK]; exact whileN_le (letN ++ digN) r
  have ek : (B r).extract 0 K = B t := by rw [← ht]; exact ext_take0 r K
  have hc37 : ¬ c = 37 := by rw [hc64]; decide
  have b37 : ((c.toNat : Int) == 37) = false := u8n c 37 (by omega) false (beq_eq_false_iff_ne.2 hc37)
  have b64 : ((c.toNat : Int) == 64) = true := u8n c 64 (by omega) true (by rw [hc64]; rfl)
  have hc92 : ¬ c = 92 := by rw [hc64]; decide
  have b92 : ((c.toNat : Int) == 92) = false := u8n c 92 (by omega) false (beq_eq_false_iff_ne.2 hc92)
  have k0 : decide (0 < K) = false := decide_eq_false (by omega)
  clear ht hK0
  have nL : decide ((1 : Int) < (l.length : Int)) = false := decide_eq_false (by omega)
  have C5 := Lib.hid (fun w => (show Calls Tryd.prog 73 #[.int .u8 c.toNat, .string (B (markN))] w fun e w' => e = .returned (.bool false) ∧ w = w' from by have h := in_any c (markN) w (by decide); rw [h_C5] at h; exact h))
  clear hc64
  clear hc hr
  go_enter Tryd.func74, Tryd.ntmps74
  go_wp2_with fail
  refine (C1.out _).mono ?_
  rintro e w2 ⟨rfl, rfl⟩
  go_wp2_with fail
  refine (C2.out _).mono ?_
  rintro e w2 ⟨rfl, rfl⟩
  go_wp2_with fail
  refine (CW.out _).mono ?_
  rintro e w2 ⟨rfl, rfl⟩
  go_wp2_with fail
  refine (C5.out _).mono ?_
  rintro e w2 ⟨rfl, rfl⟩
  go_wp2
  refine bodyPost_ret (v := .tuple #[.agg #[.int .i64 0, .int .i64 0, .int .i64 0, .string (B []), .int .u32 0, .int .i64 0], .int .i64 0, .int .i64 2]) (by simp [results, Tryd.results74, go_sem]) rfl ⟨ret_tok (by rw [HV.out]; rfl) (by rw [HV.out]; rfl) (by rw [HV.out]; rfl), ?_⟩
  repeat (with_reducible first | exact Nx.refl _ | assumption | exact HNQ.out | refine Nx.setCell ?_ (Nat.le_refl _) _ | refine Nx.alloc ?_ _)

set_option maxHeartbeats 2000000 in
set_option maxRecDepth 100000 in
theorem token_own92_no_short (l r : List UInt8) (c : UInt8) (K : Nat) (t : List UInt8) (w : World) (h1 : 1 ≤ l.length) (hl : l.length ≤ 1000000) (hc : l.getD 0 0 = c) (hr : l.drop 1 = r) (h_C1 : (letN ++ [46]).contains c = false) (h_C2 : digN.contains c = false) (hc39 : ¬ c = 39) (hc34 : ¬ c = 34) (hK : whileN (letN ++ digN) r = K) (ht : r.take K = t) (hc92 : c = 92) (hK0 : K = 0) (hlen : l.length ≤ 1) (h_C5 : markN.contains c = false) :
    Calls Tryd.prog 74 #[.string (B l)] w (RetTok (tokR l) w) := by
  have HV := Lib.hid (show tokR l = (tok0, 0, 2) from by unfold tokR; rw [hc, hr, if_neg (by rw [h_C1]; simp), if_neg (by rw [h_C2]; simp), if_neg hc39, if_neg hc34, hK, ht, if_neg (fun h => absurd h.1 (by rw [hc92]; decide)), if_neg (fun h => absurd h.2.1 (by omega)), if_neg (fun h => h.elim (take2_short l 60 60 hlen) (take2_short l 62 62 hlen)), if_neg (by rw [h_C5]; simp)])
  generalize tokR l = V at *
  obtain ⟨p0, e0⟩ := byte_at l 0 c (by rw [getD_0 l h1, hc])
  have n0 : (0 : Int) < l.length := by omega
  have n1 : (1 : Int) ≤ l.length := by omega
  have er : (B l).extract 1 l.length = B r := by rw [← hr]; exact ext_drop l 1 h1
  have hrl : r.length + 1 = l.length := by rw [← hr, List.length_drop]; omega
  have C1 := Lib.hid (fun w => (show Calls Tryd.prog 73 #[.int .u8 c.toNat, .string (B (letN ++ [46]))] w fun e w' => e = .returned (.bool false) ∧ w = w' from by have h := in_any c (letN ++ [46]) w (by decide); rw [h_C1] at h; exact h))
  have C2 := Lib.hid (fun w => (show Calls Tryd.prog 73 #[.int .u8 c.toNat, .string (B (digN))] w fun e w' => e = .returned (.bool false) ∧ w = w' from by have h := in_any c (digN) w (by decide); rw [h_C2] at h; exact h))
  have b39 : ((c.toNat : Int) == 39) = false := u8n c 39 (by omega) false (beq_eq_false_iff_ne.2 hc39)
  have b34 : ((c.toNat : Int) == 34) = false := u8n c 34 (by omega) false (beq_eq_false_iff_ne.2 hc34)
  have CW := Lib.hid (fun w => (show Calls Tryd.prog 87 #[.string (B r), .string (B (letN ++ digN))] w fun e w' => e = .returned (.int .i64 (K : Nat)) ∧ w = w' from by have h := while_any r (letN ++ digN) w (by omega) (by decide); rw [hK] at h; exact h))
  have hKl : K ≤ r.length := by rw [← hK]; exact whileN_le (letN ++ digN) r
  have ek : (B r).extract 0 K = B t := by rw [← ht]; exact ext_take0 r K
  have hc37 : ¬ c = 37 := by rw [hc92]; decide
  have b37 : ((c.toNat : Int) == 37) = false := u8n c 37 (by omega) false (beq_eq_false_iff_ne.2 hc37)
  have b92 : ((c.toNat : Int) == 92) = true := u8n c 92 (by omega) true (by rw [hc92]; rfl)
  have hc64 : ¬ c = 64 := by rw [hc92]; decide
  have b64 : ((c.toNat : Int) == 64) = false := u8n c 64 (by omega) false (beq_eq_false_iff_ne.2 hc64)
  have k0 : decide (0 < K) = false := decide_eq_false (by omega)
  clear ht hK0
  have nL : decide ((1 : Int) < (l.length : Int)) = false := decide_eq_false (by omega)
  have C5 := Lib.hid (fun w => (show Calls Tryd.prog 73 #[.int .u8 c.toNat, .string (B (markN))] w fun e w' => e = .returned (.bool false) ∧ w = w' from by have h := in_any c (markN) w (by decide); rw [h_C5] at h; exact h))
  clear hc92
  clear hc hr
  go_enter Tryd.func74, Tryd.ntmps74
  go_wp2_with fail
  refine (C1.out _).mono ?_
  rintro e w2 ⟨rfl, rfl⟩
  go_wp2_with fail
  refine (C2.out _).mono ?_
  rintro e w2 ⟨rfl, rfl⟩
  go_wp2_with fail
  refine (CW.out _).mono ?_
  rintro e w2 ⟨rfl, rfl⟩
  go_wp2_with fail
  refine (C5.out _).mono ?_
  rintro e w2 ⟨rfl, rfl⟩
  go_wp2
  refine bodyPost_ret (v := .tuple #[.agg #[.int .i64 0, .int .i64 0, .int .i64 0, .string (B []), .int .u32 0, .int .i64 0], .int .i64 0, .int .i64 2]) (by simp [results, Tryd.results74, go_sem]) rfl ⟨ret_tok (by rw [HV.out]; rfl) (by rw [HV.out]; rfl) (by rw [HV.out]; rfl), ?_⟩
  repeat (with_reducible first | exact Nx.refl _ | assumption | exact HNQ.out | refine Nx.setCell ?_ (Nat.le_refl _) _ | refine Nx.alloc ?_ _)

set_option maxHeartbeats 2000000 in
set_option maxRecDepth 100000 in
theorem token_pc_long (l r : List UInt8) (c : UInt8) (K : Nat) (t : List UInt8) (w : World) (h1 : 1 ≤ l.length) (hl : l.length ≤ 1000000) (hc : l.getD 0 0 = c) (hr : l.drop 1 = r) (h_C1 : (letN ++ [46]).contains c = false) (h_C2 : digN.contains c = false) (hc39 : ¬ c = 39) (hc34 : ¬ c = 34) (hK : whileN (letN ++ digN) r = K) (ht : r.take K = t) (hc37 : c = 37) (hta : ¬ t = [104, 105]) (htb : ¬ t = [108, 111]) (htc : ¬ t = [112, 99, 114, 101, 108]) (hlen : 1 < l.length) (h60 : ¬ l.take 2 = [60, 60]) (h62 : ¬ l.take 2 = [62, 62]) (h_C5 : markN.contains c = false) :
    Calls Tryd.prog 74 #[.string (B l)] w (RetTok (tokR l) w) := by
  have HV := Lib.hid (show tokR l = (tok0, 0, 2) from by unfold tokR; rw [hc, hr, if_neg (by rw [h_C1]; simp), if_neg (by rw [h_C2]; simp), if_neg hc39, if_neg hc34, hK, ht, if_neg (fun h => h.2.elim hta (fun h => h.elim htb htc)), if_neg (fun h => h.1.elim (by rw [hc37]; decide) (by rw [hc37]; decide)), if_neg (fun h => h.elim h60 h62), if_neg (by rw [h_C5]; simp)])
  generalize tokR l = V at *
  obtain ⟨p0, e0⟩ := byte_at l 0 c (by rw [getD_0 l h1, hc])
  have n0 : (0 : Int) < l.length := by omega
  have n1 : (1 : Int) ≤ l.length := by omega
  have er : (B l).extract 1 l.length = B r := by rw [← hr]; exact ext_drop l 1 h1
  have hrl : r.length + 1 = l.length := by rw [← hr, List.length_drop]; omega
  have C1 := Lib.hid (fun w => (show Calls Tryd.prog 73 #[.int .u8 c.toNat, .string (B (letN ++ [46]))] w fun e w' => e = .returned (.bool false) ∧ w = w' from by have h := in_any c (letN ++ [46]) w (by decide); rw [h_C1] at h; exact h))
  have C2 := Lib.hid (fun w => (show Calls Tryd.prog 73 #[.int .u8 c.toNat, .string (B (digN))] w fun e w' => e = .returned (.bool false) ∧ w = w' from by have h := in_any c (digN) w (by decide); rw [h_C2] at h; exact h))
  have b39 : ((c.toNat : Int) == 39) = false := u8n c 39 (by omega) false (beq_eq_false_iff_ne.2 hc39)
  have b34 : ((c.toNat : Int) == 34) = false := u8n c 34 (by omega) false (beq_eq_false_iff_ne.2 hc34)
  have CW := Lib.hid (fun w => (show Calls Tryd.prog 87 #[.string (B r), .string (B (letN ++ digN))] w fun e w' => e = .returned (.int .i64 (K : Nat)) ∧ w = w' from by have h := while_any r (letN ++ digN) w (by omega) (by decide); rw [hK] at h; exact h))
  have hKl : K ≤ r.length := by rw [← hK]; exact whileN_le (letN ++ digN) r
  have ek : (B r).extract 0 K = B t := by rw [← ht]; exact ext_take0 r K
  have b37 : ((c.toNat : Int) == 37) = true := u8n c 37 (by omega) true (by rw [hc37]; rfl)
  have hc64 : ¬ c = 64 := by rw [hc37]; decide
  have hc92 : ¬ c = 92 := by rw [hc37]; decide
  have b64 : ((c.toNat : Int) == 64) = false := u8n c 64 (by omega) false (beq_eq_false_iff_ne.2 hc64)
  have b92 : ((c.toNat : Int) == 92) = false := u8n c 92 (by omega) false (beq_eq_false_iff_ne.2 hc92)
  have ta : (t == [104, 105]) = false := by simpa using hta
  have tb : (t == [108, 111]) = false := by simpa using htb
  have tc : (t == [112, 99, 114, 101, 108]) = false := by simpa using htc
  clear ht hta htb htc
  have nL : (1 : Int) < l.length := by omega
  have q1 : (((B l).extract 0 2).toList == [60, 60]) = false := by rw [ext_take]; simpa using h60
  have q2 : (((B l).extract 0 2).toList == [62, 62]) = false := by rw [ext_take]; simpa using h62
  clear h60 h62
  have C5 := Lib.hid (fun w => (show Calls Tryd.prog 73 #[.int .u8 c.toNat, .string (B (markN))] w fun e w' => e = .returned (.bool false) ∧ w = w' from by have h := in_any c (markN) w (by decide); rw [h_C5] at h; exact h))
  clear hc37
  clear hc hr
  go_enter Tryd.func74, Tryd.ntmps74
  go_wp2_with fail
  refine (C1.out _).mono ?_
  rintro e w2 ⟨rfl, rfl⟩
  go_wp2_with fail
  refine (C2.out _).mono ?_
  rintro e w2 ⟨rfl, rfl⟩
  go_wp2_with fail
  refine (CW.out _).mono ?_
  rintro e w2 ⟨rfl, rfl⟩
  go_wp2_with fail
  refine (C5.out _).mono ?_
  rintro e w2 ⟨rfl, rfl⟩
  go_wp2
  refine bodyPost_ret (v := .tuple #[.agg #[.int .i64 0, .int .i64 0, .int .i64 0, .string (B []), .int .u32 0, .int .i64 0], .int .i64 0, .int .i64 2]) (by simp [results, Tryd.results74, go_sem]) rfl ⟨ret_tok (by rw [HV.out]; rfl) (by rw [HV.out]; rfl) (by rw [HV.out]; rfl), ?_⟩
  repeat (with_reducible first | exact Nx.refl _ | assumption | exact HNQ.out | refine Nx.setCell ?_ (Nat.le_refl _) _ | refine Nx.alloc ?_ _)

set_option maxHeartbeats 2000000 in
set_option maxRecDepth 100000 in
theorem token_own64_no_long (l r : List UInt8) (c : UInt8) (K : Nat) (t : List UInt8) (w : World) (h1 : 1 ≤ l.length) (hl : l.length ≤ 1000000) (hc : l.getD 0 0 = c) (hr : l.drop 1 = r) (h_C1 : (letN ++ [46]).contains c = false) (h_C2 : digN.contains c = false) (hc39 : ¬ c = 39) (hc34 : ¬ c = 34) (hK : whileN (letN ++ digN) r = K) (ht : r.take K = t) (hc64 : c = 64) (hK0 : K = 0) (hlen : 1 < l.length) (h60 : ¬ l.take 2 = [60, 60]) (h62 : ¬ l.take 2 = [62, 62]) (h_C5 : markN.contains c = false) :
    Calls Tryd.prog 74 #[.string (B l)] w (RetTok (tokR l) w) := by
  have HV := Lib.hid (show tokR l = (tok0, 0, 2) from by unfold tokR; rw [hc, hr, if_neg (by rw [h_C1]; simp), if_neg (by rw [h_C2]; simp), if_neg hc39, if_neg hc34, hK, ht, if_neg (fun h => absurd h.1 (by rw [hc64]; decide)), if_neg (fun h => absurd h.2.1 (by omega)), if_neg (fun h => h.elim h60 h62), if_neg (by rw [h_C5]; simp)])
  generalize tokR l = V at *
  obtain ⟨p0, e0⟩ := byte_at l 0 c (by rw [getD_0 l h1, hc])
  have n0 : (0 : Int) < l.length := by omega
  have n1 : (1 : Int) ≤ l.length := by omega
  have er : (B l).extract 1 l.length = B r := by rw [← hr]; exact ext_drop l 1 h1
  have hrl : r.length + 1 = l.length := by rw [← hr, List.length_drop]; omega
  have C1 := Lib.hid (fun w => (show Calls Tryd.prog 73 #[.int .u8 c.toNat, .string (B (letN ++ [46]))] w fun e w' => e = .returned (.bool false) ∧ w = w' from by have h := in_any c (letN ++ [46]) w (by decide); rw [h_C1] at h; exact h))
  have C2 := Lib.hid (fun w => (show Calls Tryd.prog 73 #[.int .u8 c.toNat, .string (B (digN))] w fun e w' => e = .returned (.bool false) ∧ w = w' from by have h := in_any c (digN) w (by decide); rw [h_C2] at h; exact h))
  have b39 : ((c.toNat : Int) == 39) = false := u8n c 39 (by omega) false (beq_eq_false_iff_ne.2 hc39)
  have b34 : ((c.toNat : Int) == 34) = false := u8n c 34 (by omega) false (beq_eq_false_iff_ne.2 hc34)
  have CW := Lib.hid (fun w => (show Calls Tryd.prog 87 #[.string (B r), .string (B (letN ++ digN))] w fun e w' => e = .returned (.int .i64 (K : Nat)) ∧ w = w' from by have h := while_any r (letN ++ digN) w (by omega) (by decide); rw [hK] at h; exact h))
  have hKl : K ≤ r.length := by rw [← hK]; exact whileN_le (letN ++ digN) r
  have ek : (B r).extract 0 K = B t := by rw [← ht]; exact ext_take0 r K
  have hc37 : ¬ c = 37 := by rw [hc64]; decide
  have b37 : ((c.toNat : Int) == 37) = false := u8n c 37 (by omega) false (beq_eq_false_iff_ne.2 hc37)
  have b64 : ((c.toNat : Int) == 64) = true := u8n c 64 (by omega) true (by rw [hc64]; rfl)
  have hc92 : ¬ c = 92 := by rw [hc64]; decide
  have b92 : ((c.toNat : Int) == 92) = false := u8n c 92 (by omega) false (beq_eq_false_iff_ne.2 hc92)
  have k0 : decide (0 < K) = false := decide_eq_false (by omega)
  clear ht hK0
  have nL : (1 : Int) < l.length := by omega
  have q1 : (((B l).extract 0 2).toList == [60, 60]) = false := by rw [ext_take]; simpa using h60
  have q2 : (((B l).extract 0 2).toList == [62, 62]) = false := by rw [ext_take]; simpa using h62
  clear h60 h62
  have C5 := Lib.hid (fun w => (show Calls Tryd.prog 73 #[.int .u8 c.toNat, .string (B (markN))] w fun e w' => e = .returned (.bool false) ∧ w = w' from by have h := in_any c (markN) w (by decide); rw [h_C5] at h; exact h))
  clear hc64
  clear hc hr
  go_enter Tryd.func74, Tryd.ntmps74
  go_wp2_with fail
  refine (C1.out _).mono ?_
  rintro e w2 ⟨rfl, rfl⟩
  go_wp2_with fail
  refine (C2.out _).mono ?_
  rintro e w2 ⟨rfl, rfl⟩
  go_wp2_with fail
  refine (CW.out _).mono ?_
  rintro e w2 ⟨rfl, rfl⟩
  go_wp2_with fail
  refine (C5.out _).mono ?_
  rintro e w2 ⟨rfl, rfl⟩
  go_wp2
  refine bodyPost_ret (v := .tuple #[.agg #[.int .i64 0, .int .i64 0, .int .i64 0, .string (B []), .int .u32 0, .int .i64 0], .int .i64 0, .int .i64 2]) (by simp [results, Tryd.results74, go_sem]) rfl ⟨ret_tok (by rw [HV.out]; rfl) (by rw [HV.out]; rfl) (by rw [HV.out]; rfl), ?_⟩
  repeat (with_reducible first | exact Nx.refl _ | assumption | exact HNQ.out | refine Nx.setCell ?_ (Nat.le_refl _) _ | refine Nx.alloc ?_ _)

set_option maxHeartbeats 2000000 in
set_option maxRecDepth 100000 in
theorem token_own64_bad_long (l r : List UInt8) (c : UInt8) (K : Nat) (t : List UInt8) (w : World) (h1 : 1 ≤ l.length) (hl : l.length ≤ 1000000) (hc : l.getD 0 0 = c) (hr : l.drop 1 = r) (h_C1 : (letN ++ [46]).contains c = false) (h_C2 : digN.contains c = false) (hc39 : ¬ c = 39) (hc34 : ¬ c = 34) (hK : whileN (letN ++ digN) r = K) (ht : r.take K = t) (hc64 : c = 64) (x : UInt8) (hx : r[0]? = some x) (hKp : 0 < K) (h_C4 : letN.contains x = false) (hlen : 1 < l.length) (h60 : ¬ l.take 2 = [60, 60]) (h62 : ¬ l.take 2 = [62, 62]) (h_C5 : markN.contains c = false) :
    Calls Tryd.prog 74 #[.string (B l)] w (RetTok (tokR l) w) := by
  have HV := Lib.hid (show tokR l = (tok0, 0, 2) from by unfold tokR; rw [hc, hr, if_neg (by rw [h_C1]; simp), if_neg (by rw [h_C2]; simp), if_neg hc39, if_neg hc34, hK, ht, if_neg (fun h => absurd h.1 (by rw [hc64]; decide)), if_neg (fun h => by have := h.2.2; rw [List.getD_eq_getElem?_getD, hx] at this; rw [show (some x).getD 0 = x from rfl, h_C4] at this; exact absurd this (by simp)), if_neg (fun h => h.elim h60 h62), if_neg (by rw [h_C5]; simp)])
  generalize tokR l = V at *
  obtain ⟨p0, e0⟩ := byte_at l 0 c (by rw [getD_0 l h1, hc])
  have n0 : (0 : Int) < l.length := by omega
  have n1 : (1 : Int) ≤ l.length := by omega
  have er : (B l).extract 1 l.length = B r := by rw [← hr]; exact ext_drop l 1 h1
  have hrl : r.length + 1 = l.length := by rw [← hr, List.length_drop]; omega
  have C1 := Lib.hid (fun w => (show Calls Tryd.prog 73 #[.int .u8 c.toNat, .string (B (letN ++ [46]))] w fun e w' => e = .returned (.bool false) ∧ w = w' from by have h := in_any c (letN ++ [46]) w (by decide); rw [h_C1] at h; exact h))
  have C2 := Lib.hid (fun w => (show Calls Tryd.prog 73 #[.int .u8 c.toNat, .string (B (digN))] w fun e w' => e = .returned (.bool false) ∧ w = w' from by have h := in_any c (digN) w (by decide); rw [h_C2] at h; exact h))
  have b39 : ((c.toNat : Int) == 39) = false := u8n c 39 (by omega) false (beq_eq_false_iff_ne.2 hc39)
  have b34 : ((c.toNat : Int) == 34) = false := u8n c 34 (by omega) false (beq_eq_false_iff_ne.2 hc34)
  have CW := Lib.hid (fun w => (show Calls Tryd.prog 87 #[.string (B r), .string (B (letN ++ digN))] w fun e w' => e = .returned (.int .i64 (K : Nat)) ∧ w = w' from by have h := while_any r (letN ++ digN) w (by omega) (by decide); rw [hK] at h; exact h))
  have hKl : K ≤ r.length := by rw [← hK]; exact whileN_le (letN ++ digN) r
  have ek : (B r).extract 0 K = B t := by rw [← ht]; exact ext_take0 r K
  have hc37 : ¬ c = 37 := by rw [hc64]; decide
  have b37 : ((c.toNat : Int) == 37) = false := u8n c 37 (by omega) false (beq_eq_false_iff_ne.2 hc37)
  have b64 : ((c.toNat : Int) == 64) = true := u8n c 64 (by omega) true (by rw [hc64]; rfl)
  have hc92 : ¬ c = 92 := by rw [hc64]; decide
  have b92 : ((c.toNat : Int) == 92) = false := u8n c 92 (by omega) false (beq_eq_false_iff_ne.2 hc92)
  have C4 := Lib.hid (fun w => (show Calls Tryd.prog 73 #[.int .u8 x.toNat, .string (B (letN))] w fun e w' => e = .returned (.bool false) ∧ w = w' from by have h := in_any x (letN) w (by decide); rw [h_C4] at h; exact h))
  obtain ⟨p1, e1⟩ := byte_at r 0 x hx
  have hr0 : (0 : Int) < r.length := by have := (List.getElem?_eq_some_iff.1 hx).1; omega
  have k0 : (0 : Int) < (K : Int) := by omega
  clear hx ht
  have nL : (1 : Int) < l.length := by omega
  have q1 : (((B l).extract 0 2).toList == [60, 60]) = false := by rw [ext_take]; simpa using h60
  have q2 : (((B l).extract 0 2).toList == [62, 62]) = false := by rw [ext_take]; simpa using h62
  clear h60 h62
  have C5 := Lib.hid (fun w => (show Calls Tryd.prog 73 #[.int .u8 c.toNat, .string (B (markN))] w fun e w' => e = .returned (.bool false) ∧ w = w' from by have h := in_any c (markN) w (by decide); rw [h_C5] at h; exact h))
  clear hc64
  clear hc hr
  go_enter Tryd.func74, Tryd.ntmps74
  go_wp2_with fail
  refine (C1.out _).mono ?_
  rintro e w2 ⟨rfl, rfl⟩
  go_wp2_with fail
  refine (C2.out _).mono ?_
  rintro e w2 ⟨rfl, rfl⟩
  go_wp2_with fail
  refine (CW.out _).mono ?_
  rintro e w2 ⟨rfl, rfl⟩
  go_wp2_with fail
  refine (C4.out _).mono ?_
  rintro e w2 ⟨rfl, rfl⟩
  go_wp2_with fail
  refine (C5.out _).mono ?_
  rintro e w2 ⟨rfl, rfl⟩
  go_wp2
  refine bodyPost_ret (v := .tuple #[.agg #[.int .i64 0, .int .i64 0, .int .i64 0, .string (B []), .int .u32 0, .int .i64 0], .int .i64 0, .int .i64 2]) (by simp [results, Tryd.results74, go_sem]) rfl ⟨ret_tok (by rw [HV.out]; rfl) (by rw [HV.out]; rfl) (by rw [HV.out]; rfl), ?_⟩
  repeat (with_reducible first | exact Nx.refl _ | assumption | exact HNQ.out | refine Nx.setCell ?_ (Nat.le_refl _) _ | refine Nx.alloc ?_ _)

set_option maxHeartbeats 2000000 in
set_option maxRecDepth 100000 in
theorem token_own92_no_long (l r : List UInt8) (c : UInt8) (K : Nat) (t : List UInt8) (w : World) (h1 : 1 ≤ l.length) (hl : l.length ≤ 1000000) (hc : l.getD 0 0 = c) (hr : l.drop 1 = r) (h_C1 : (letN ++ [46]).contains c = false) (h_C2 : digN.contains c = false) (hc39 : ¬ c = 39) (hc34 : ¬ c = 34) (hK : whileN (letN ++ digN) r = K) (ht : r.take K = t) (hc92 : c = 92) (hK0 : K = 0) (hlen : 1 < l.length) (h60 : ¬ l.take 2 = [60, 60]) (h62 : ¬ l.take 2 = [62, 62]) (h_C5 : markN.contains c = false) :
    Calls Tryd.prog 74 #[.string (B l)] w (RetTok (tokR l) w) := by
  have HV := Lib.hid (show tokR l = (tok0, 0, 2) from by unfold tokR; rw [hc, hr, if_neg (by rw [h_C1]; simp), if_neg (by rw [h_C2]; simp), if_neg hc39, if_neg hc34, hK, ht, if_neg (fun h => absurd h.1 (by rw [hc92]; decide)), if_neg (fun h => absurd h.2.1 (by omega)), if_neg (fun h => h.elim h60 h62), if_neg (by rw [h_C5]; simp)])
  generalize tokR l = V at *
  obtain ⟨p0, e0⟩ := byte_at l 0 c (by rw [getD_0 l h1, hc])
  have n0 : (0 : Int) < l.length := by omega
  have n1 : (1 : Int) ≤ l.length := by omega
  have er : (B l).extract 1 l.length = B r := by rw [← hr]; exact ext_drop l 1 h1
  have hrl : r.length + 1 = l.length := by rw [← hr, List.length_drop]; omega
  have C1 := Lib.hid (fun w => (show Calls Tryd.prog 73 #[.int .u8 c.toNat, .string (B (letN ++ [46]))] w fun e w' => e = .returned (.bool false) ∧ w = w' from by have h := in_any c (letN ++ [46]) w (by decide); rw [h_C1] at h; exact h))
  have C2 := Lib.hid (fun w => (show Calls Tryd.prog 73 #[.int .u8 c.toNat, .string (B (digN))] w fun e w' => e = .returned (.bool false) ∧ w = w' from by have h := in_any c (digN) w (by decide); rw [h_C2] at h; exact h))
  have b39 : ((c.toNat : Int) == 39) = false := u8n c 39 (by omega) false (beq_eq_false_iff_ne.2 hc39)
  have b34 : ((c.toNat : Int) == 34) = false := u8n c 34 (by omega) false (beq_eq_false_iff_ne.2 hc34)
  have CW := Lib.hid (fun w => (show Calls Tryd.prog 87 #[.string (B r), .string (B (letN ++ digN))] w fun e w' => e = .returned (.int .i64 (K : Nat)) ∧ w = w' from by have h := while_any r (letN ++ digN) w (by omega) (by decide); rw [hK] at h; exact h))
  have hKl : K ≤ r.length := by rw [← hK]; exact whileN_le (letN ++ digN) r
  have ek : (B r).extract 0 K = B t := by rw [← ht]; exact ext_take0 r K
  have hc37 : ¬ c = 37 := by rw [hc92]; decide
  have b37 : ((c.toNat : Int) == 37) = false := u8n c 37 (by omega) false (beq_eq_false_iff_ne.2 hc37)
  have b92 : ((c.toNat : Int) == 92) = true := u8n c 92 (by omega) true (by rw [hc92]; rfl)
  have hc64 : ¬ c = 64 := by rw [hc92]; decide
  have b64 : ((c.toNat : Int) == 64) = false := u8n c 64 (by omega) false (beq_eq_false_iff_ne.2 hc64)
  have k0 : decide (0 < K) = false := decide_eq_false (by omega)
  clear ht hK0
  have nL : (1 : Int) < l.length := by omega
  have q1 : (((B l).extract 0 2).toList == [60, 60]) = false := by rw [ext_take]; simpa using h60
  have q2 : (((B l).extract 0 2).toList == [62, 62]) = false := by rw [ext_take]; simpa using h62
  clear h60 h62
  have C5 := Lib.hid (fun w => (show Calls Tryd.prog 73 #[.int .u8 c.toNat, .string (B (markN))] w fun e w' => e = .returned (.bool false) ∧ w = w' from by have h := in_any c (markN) w (by decide); rw [h_C5] at h; exact h))
  clear hc92
  clear hc hr
  go_enter Tryd.func74, Tryd.ntmps74
  go_wp2_with fail
  refine (C1.out _).mono ?_
  rintro e w2 ⟨rfl, rfl⟩
  go_wp2_with fail
  refine (C2.out _).mono ?_
  rintro e w2 ⟨rfl, rfl⟩
  go_wp2_with fail
  refine (CW.out _).mono ?_
  rintro e w2 ⟨rfl, rfl⟩
  go_wp2_with fail
  refine (C5.out _).mono ?_
  rintro e w2 ⟨rfl, rfl⟩
  go_wp2
  refine bodyPost_ret (v := .tuple #[.agg #[.int .i64 0, .int .i64 0, .int .i64 0, .string (B []), .int .u32 0, .int .i64 0], .int .i64 0, .int .i64 2]) (by simp [results, Tryd.results74, go_sem]) rfl ⟨ret_tok (by rw [HV.out]; rfl) (by rw [HV.out]; rfl) (by rw [HV.out]; rfl), ?_⟩
  repeat (with_reducible first | exact Nx.refl _ | assumption | exact HNQ.out | refine Nx.setCell ?_ (Nat.le_refl _) _ | refine Nx.alloc ?_ _)

set_option maxHeartbeats 2000000 in
set_option maxRecDepth 100000 in
theorem token_own92_bad_long (l r : List UInt8) (c : UInt8) (K : Nat) (t : List UInt8) (w : World) (h1 : 1 ≤ l.length) (hl : l.length ≤ 1000000) (hc : l.getD 0 0 = c) (hr : l.drop 1 = r) (h_C1 : (letN ++ [46]).contains c = false) (h_C2 : digN.contains c = false) (hc39 : ¬ c = 39) (hc34 : ¬ c = 34) (hK : whileN (letN ++ digN) r = K) (ht : r.take K = t) (hc92 : c = 92) (x : UInt8) (hx : r[0]? = some x) (hKp : 0 < K) (h_C4 : letN.contains x = false) (hlen : 1 < l.length) (h60 : ¬ l.take 2 = [60, 60]) (h62 : ¬ l.take 2 = [62, 62]) (h_C5 : markN.contains c = false) :
    Calls Tryd.prog 74 #[.string (B l)] w (RetTok (tokR l) w) := by
  have HV := Lib.hid (show tokR l = (tok0, 0, 2) from by unfold tokR; rw [hc, hr, if_neg (by rw [h_C1]; simp), if_neg (by rw [h_C2]; simp), if_neg hc39, if_neg hc34, hK, ht, if_neg (fun h => absurd h.1 (by rw [hc92]; decide)), if_neg (fun h => by have := h.2.2; rw [List.getD_eq_getElem?_getD, hx] at this; rw [show (some x).getD 0 = x from rfl, h_C4] at this; exact absurd this (by simp)), if_neg (fun h => h.elim h60 h62), if_neg (by rw [h_C5]; simp)])
  generalize tokR l = V at *
  obtain ⟨p0, e0⟩ := byte_at l 0 c (by rw [getD_0 l h1, hc])
  have n0 : (0 : Int) < l.length := by omega
  have n1 : (1 : Int) ≤ l.length := by omega
  have er : (B l).extract 1 l.length = B r := by rw [← hr]; exact ext_drop l 1 h1
  have hrl : r.length + 1 = l.length := by rw [← hr, List.length_drop]; omega
  have C1 := Lib.hid (fun w => (show Calls Tryd.prog 73 #[.int .u8 c.toNat, .string (B (letN ++ [46]))] w fun e w' => e = .returned (.bool false) ∧ w = w' from by have h := in_any c (letN ++ [46]) w (by decide); rw [h_C1] at h; exact h))
  have C2 := Lib.hid (fun w => (show Calls Tryd.prog 73 #[.int .u8 c.toNat, .string (B (digN))] w fun e w' => e = .returned (.bool false) ∧ w = w' from by have h := in_any c (digN) w (by decide); rw [h_C2] at h; exact h))
  have b39 : ((c.toNat : Int) == 39) = false := u8n c 39 (by omega) false (beq_eq_false_iff_ne.2 hc39)
  have b34 : ((c.toNat : Int) == 34) = false := u8n c 34 (by omega) false (beq_eq_false_iff_ne.2 hc34)
  have CW := Lib.hid (fun w => (show Calls Tryd.prog 87 #[.string (B r), .string (B (letN ++ digN))] w fun e w' => e = .returned (.int .i64 (K : Nat)) ∧ w = w' from by have h := while_any r (letN ++ digN) w (by omega) (by decide); rw [hK] at h; exact h))
  have hKl : K ≤ r.length := by rw [← hK]; exact whileN_le (letN ++ digN) r
  have ek : (B r).extract 0 K = B t := by rw [← ht]; exact ext_take0 r K
  have hc37 : ¬ c = 37 := by rw [hc92]; decide
  have b37 : ((c.toNat : Int) == 37) = false := u8n c 37 (by omega) false (beq_eq_false_iff_ne.2 hc37)
  have b92 : ((c.toNat : Int) == 92) = true := u8n c 92 (by omega) true (by rw [hc92]; rfl)
  have hc64 : ¬ c = 64 := by rw [hc92]; decide
  have b64 : ((c.toNat : Int) == 64) = false := u8n c 64 (by omega) false (beq_eq_false_iff_ne.2 hc64)
  have C4 := Lib.hid (fun w => (show Calls Tryd.prog 73 #[.int .u8 x.toNat, .string (B (letN))] w fun e w' => e = .returned (.bool false) ∧ w = w' from by have h := in_any x (letN) w (by decide); rw [h_C4] at h; exact h))
  obtain ⟨p1, e1⟩ := byte_at r 0 x hx
  have hr0 : (0 : Int) < r.length := by have := (List.getElem?_eq_some_iff.1 hx).1; omega
  have k0 : (0 : Int) < (K : Int) := by omega
  clear hx ht
  have nL : (1 : Int) < l.length := by omega
  have q1 : (((B l).extract 0 2).toList == [60, 60]) = false := by rw [ext_take]; simpa using h60
  have q2 : (((B l).extract 0 2).toList == [62, 62]) = false := by rw [ext_take]; simpa using h62
  clear h60 h62
  have C5 := Lib.hid (fun w => (show Calls Tryd.prog 73 #[.int .u8 c.toNat, .string (B (markN))] w fun e w' => e = .returned (.bool false) ∧ w = w' from by have h := in_any c (markN) w (by decide); rw [h_C5] at h; exact h))
  clear hc92
  clear hc hr
  go_enter Tryd.func74, Tryd.ntmps74
  go_wp2_with fail
  refine (C1.out _).mono ?_
  rintro e w2 ⟨rfl, rfl⟩
  go_wp2_with fail
  refine (C2.out _).mono ?_
  rintro e w2 ⟨rfl, rfl⟩
  go_wp2_with fail
  refine (CW.out _).mono ?_
  rintro e w2 ⟨rfl, rfl⟩
  go_wp2_with fail
  refine (C4.out _).mono ?_
  rintro e w2 ⟨rfl, rfl⟩
  go_wp2_with fail
  refine (C5.out _).mono ?_
  rintro e w2 ⟨rfl, rfl⟩
  go_wp2
  refine bodyPost_ret (v := .tuple #[.agg #[.int .i64 0, .int .i64 0, .int .i64 0, .string (B []), .int .u32 0, .int .i64 0], .int .i64 0, .int .i64 2]) (by simp [results, Tryd.results74, go_sem]) rfl ⟨ret_tok (by rw [HV.out]; rfl) (by rw [HV.out]; rfl) (by rw [HV.out]; rfl), ?_⟩
  repeat (with_reducible first | exact Nx.refl _ | assumption | exact HNQ.out | refine Nx.setCell ?_ (Nat.le_refl _) _ | refine Nx.alloc ?_ _)

set_option maxHeartbeats 2000000 in
set_option maxRecDepth 100000 in
theorem token_oth_two_lt (l r : List UInt8) (c : UInt8) (K : Nat) (t : List UInt8) (w : World) (h1 : 1 ≤ l.length) (hl : l.length ≤ 1000000) (hc : l.getD 0 0 = c) (hr : l.drop 1 = r) (h_C1 : (letN ++ [46]).contains c = false) (h_C2 : digN.contains c = false) (hc39 : ¬ c = 39) (hc34 : ¬ c = 34) (hK : whileN (letN ++ digN) r = K) (ht : r.take K = t) (hc37 : ¬ c = 37) (hc64 : ¬ c = 64) (hc92 : ¬ c = 92) (h2 : l.take 2 = [60, 60]) :
    Calls Tryd.prog 74 #[.string (B l)] w (RetTok (tokR l) w) := by
  have HV := Lib.hid (show tokR l = (tokN 7 (l.take 2), 2, 0) from by unfold tokR; rw [hc, hr, if_neg (by rw [h_C1]; simp), if_neg (by rw [h_C2]; simp), if_neg hc39, if_neg hc34, hK, ht, if_neg (fun h => hc37 h.1), if_neg (fun h => h.1.elim hc64 hc92), if_pos (Or.inl h2)])
  generalize tokR l = V at *
  obtain ⟨p0, e0⟩ := byte_at l 0 c (by rw [getD_0 l h1, hc])
  have n0 : (0 : Int) < l.length := by omega
  have n1 : (1 : Int) ≤ l.length := by omega
  have er : (B l).extract 1 l.length = B r := by rw [← hr]; exact ext_drop l 1 h1
  have hrl : r.length + 1 = l.length := by rw [← hr, List.length_drop]; omega
  have C1 := Lib.hid (fun w => (show Calls Tryd.prog 73 #[.int .u8 c.toNat, .string (B (letN ++ [46]))] w fun e w' => e = .returned (.bool false) ∧ w = w' from by have h := in_any c (letN ++ [46]) w (by decide); rw [h_C1] at h; exact h))
  have C2 := Lib.hid (fun w => (show Calls Tryd.prog 73 #[.int .u8 c.toNat, .string (B (digN))] w fun e w' => e = .returned (.bool false) ∧ w = w' from by have h := in_any c (digN) w (by decide); rw [h_C2] at h; exact h))
  have b39 : ((c.toNat : Int) == 39) = false := u8n c 39 (by omega) false (beq_eq_false_iff_ne.2 hc39)
  have b34 : ((c.toNat : Int) == 34) = false := u8n c 34 (by omega) false (beq_eq_false_iff_ne.2 hc34)
  have CW := Lib.hid (fun w => (show Calls Tryd.prog 87 #[.string (B r), .string (B (letN ++ digN))] w fun e w' => e = .returned (.int .i64 (K : Nat)) ∧ w = w' from by have h := while_any r (letN ++ digN) w (by omega) (by decide); rw [hK] at h; exact h))
  have hKl : K ≤ r.length := by rw [← hK]; exact whileN_le (letN ++ digN) r
  have ek : (B r).extract 0 K = B t := by rw [← ht]; exact ext_take0 r K
  have b37 : ((c.toNat : Int) == 37) = false := u8n c 37 (by omega) false (beq_eq_false_iff_ne.2 hc37)
  have b64 : ((c.toNat : Int) == 64) = false := u8n c 64 (by omega) false (beq_eq_false_iff_ne.2 hc64)
  have b92 : ((c.toNat : Int) == 92) = false := u8n c 92 (by omega) false (beq_eq_false_iff_ne.2 hc92)
  clear ht
  have hlen : 1 < l.length := by have := congrArg List.length h2; simp at this; omega
  have nL : (1 : Int) < l.length := by omega
  have q1 : (((B l).extract 0 2).toList == [60, 60]) = true := by rw [ext_take, h2]; rfl
  clear h2
  clear hc hr
  go_enter Tryd.func74, Tryd.ntmps74
  go_wp2_with fail
  refine (C1.out _).mono ?_
  rintro e w2 ⟨rfl, rfl⟩
  go_wp2_with fail
  refine (C2.out _).mono ?_
  rintro e w2 ⟨rfl, rfl⟩
  go_wp2_with fail
  refine (CW.out _).mono ?_
  rintro e w2 ⟨rfl, rfl⟩
  go_wp2
  refine bodyPost_ret (v := .tuple #[.agg #[.int .i64 7, .int .i64 0, .int .i64 0, .string ((B l).extract 0 2), .int .u32 0, .int .i64 0], .int .i64 2, .int .i64 0]) (by simp [results, Tryd.results74, go_sem]) rfl ⟨ret_tok (by rw [HV.out, ext_take0]; rfl) (by rw [HV.out]; rfl) (by rw [HV.out]; rfl), ?_⟩
  repeat (with_reducible first | exact Nx.refl _ | assumption | exact HNQ.out | refine Nx.setCell ?_ (Nat.le_refl _) _ | refine Nx.alloc ?_ _)

set_option maxHeartbeats 2000000 in
set_option maxRecDepth 100000 in
theorem token_oth_two_gt (l r : List UInt8) (c : UInt8) (K : Nat) (t : List UInt8) (w : World) (h1 : 1 ≤ l.length) (hl : l.length ≤ 1000000) (hc : l.getD 0 0 = c) (hr : l.drop 1 = r) (h_C1 : (letN ++ [46]).contains c = false) (h_C2 : digN.contains c = false) (hc39 : ¬ c = 39) (hc34 : ¬ c = 34) (hK : whileN (letN ++ digN) r = K) (ht : r.take K = t) (hc37 : ¬ c = 37) (hc64 : ¬ c = 64) (hc92 : ¬ c = 92) (h2 : l.take 2 = [62, 62]) :
    Calls Tryd.prog 74 #[.string (B l)] w (RetTok (tokR l) w) := by
  have HV := Lib.hid (show tokR l = (tokN 7 (l.take 2), 2, 0) from by unfold tokR; rw [hc, hr, if_neg (by rw [h_C1]; simp), if_neg (by rw [h_C2]; simp), if_neg hc39, if_neg hc34, hK, ht, if_neg (fun h => hc37 h.1), if_neg (fun h => h.1.elim hc64 hc92), if_pos (Or.inr h2)])
  generalize tokR l = V at *
  obtain ⟨p0, e0⟩ := byte_at l 0 c (by rw [getD_0 l h1, hc])
  have n0 : (0 : Int) < l.length := by omega
  have n1 : (1 : Int) ≤ l.length := by omega
  have er : (B l).extract 1 l.length = B r := by rw [← hr]; exact ext_drop l 1 h1
  have hrl : r.length + 1 = l.length := by rw [← hr, List.length_drop]; omega
  have C1 := Lib.hid (fun w => (show Calls Tryd.prog 73 #[.int .u8 c.toNat, .string (B (letN ++ [46]))] w fun e w' => e = .returned (.bool false) ∧ w = w' from by have h := in_any c (letN ++ [46]) w (by decide); rw [h_C1] at h; exact h))
  have C2 := Lib.hid (fun w => (show Calls Tryd.prog 73 #[.int .u8 c.toNat, .string (B (digN))] w fun e w' => e = .returned (.bool false) ∧ w = w' from by have h := in_any c (digN) w (by decide); rw [h_C2] at h; exact h))
  have b39 : ((c.toNat : Int) == 39) = false := u8n c 39 (by omega) false (beq_eq_false_iff_ne.2 hc39)
  have b34 : ((c.toNat : Int) == 34) = false := u8n c 34 (by omega) false (beq_eq_false_iff_ne.2 hc34)
  have CW := Lib.hid (fun w => (show Calls Tryd.prog 87 #[.string (B r), .string (B (letN ++ digN))] w fun e w' => e = .returned (.int .i64 (K : Nat)) ∧ w = w' from by have h := while_any r (letN ++ digN) w (by omega) (by decide); rw [hK] at h; exact h))
  have hKl : K ≤ r.length := by rw [← hK]; exact whileN_le (letN ++ digN) r
  have ek : (B r).extract 0 K = B t := by rw [← ht]; exact ext_take0 r K
  have b37 : ((c.toNat : Int) == 37) = false := u8n c 37 (by omega) false (beq_eq_false_iff_ne.2 hc37)
  have b64 : ((c.toNat : Int) == 64) = false := u8n c 64 (by omega) false (beq_eq_false_iff_ne.2 hc64)
  have b92 : ((c.toNat : Int) == 92) = false := u8n c 92 (by omega) false (beq_eq_false_iff_ne.2 hc92)
  clear ht
  have hlen : 1 < l.length := by have := congrArg List.length h2; simp at this; omega
  have nL : (1 : Int) < l.length := by omega
  have q1 : (((B l).extract 0 2).toList == [60, 60]) = false := by rw [ext_take, h2]; rfl
  have q2 : (((B l).extract 0 2).toList == [62, 62]) = true := by rw [ext_take, h2]; rfl
  clear h2
  clear hc hr
  go_enter Tryd.func74, Tryd.ntmps74
  go_wp2_with fail
  refine (C1.out _).mono ?_
  rintro e w2 ⟨rfl, rfl⟩
  go_wp2_with fail
  refine (C2.out _).mono ?_
  rintro e w2 ⟨rfl, rfl⟩
  go_wp2_with fail
  refine (CW.out _).mono ?_
  rintro e w2 ⟨rfl, rfl⟩
  go_wp2
  refine bodyPost_ret (v := .tuple #[.agg #[.int .i64 7, .int .i64 0, .int .i64 0, .string ((B l).extract 0 2), .int .u32 0, .int .i64 0], .int .i64 2, .int .i64 0]) (by simp [results, Tryd.results74, go_sem]) rfl ⟨ret_tok (by rw [HV.out, ext_take0]; rfl) (by rw [HV.out]; rfl) (by rw [HV.out]; rfl), ?_⟩
  repeat (with_reducible first | exact Nx.refl _ | assumption | exact HNQ.out | refine Nx.setCell ?_ (Nat.le_refl _) _ | refine Nx.alloc ?_ _)

set_option maxHeartbeats 2000000 in
set_option maxRecDepth 100000 in
theorem token_oth_mark_short (l r : List UInt8) (c : UInt8) (K : Nat) (t : List UInt8) (w : World) (h1 : 1 ≤ l.length) (hl : l.length ≤ 1000000) (hc : l.getD 0 0 = c) (hr : l.drop 1 = r) (h_C1 : (letN ++ [46]).contains c = false) (h_C2 : digN.contains c = false) (hc39 : ¬ c = 39) (hc34 : ¬ c = 34) (hK : whileN (letN ++ digN) r = K) (ht : r.take K = t) (hc37 : ¬ c = 37) (hc64 : ¬ c = 64) (hc92 : ¬ c = 92) (hlen : l.length ≤ 1) (h_C5 : markN.contains c = true) :
    Calls Tryd.prog 74 #[.string (B l)] w (RetTok (tokR l) w) := by
  have HV := Lib.hid (show tokR l = (tokN 7 (l.take 1), 1, 0) from by unfold tokR; rw [hc, hr, if_neg (by rw [h_C1]; simp), if_neg (by rw [h_C2]; simp), if_neg hc39, if_neg hc34, hK, ht, if_neg (fun h => hc37 h.1), if_neg (fun h => h.1.elim hc64 hc92), if_neg (fun h => h.elim (take2_short l 60 60 hlen) (take2_short l 62 62 hlen)), if_pos h_C5])
  generalize tokR l = V at *
  obtain ⟨p0, e0⟩ := byte_at l 0 c (by rw [getD_0 l h1, hc])
  have n0 : (0 : Int) < l.length := by omega
  have n1 : (1 : Int) ≤ l.length := by omega
  have er : (B l).extract 1 l.length = B r := by rw [← hr]; exact ext_drop l 1 h1
  have hrl : r.length + 1 = l.length := by rw [← hr, List.length_drop]; omega
  have C1 := Lib.hid (fun w => (show Calls Tryd.prog 73 #[.int .u8 c.toNat, .string (B (letN ++ [46]))] w fun e w' => e = .returned (.bool false) ∧ w = w' from by have h := in_any c (letN ++ [46]) w (by decide); rw [h_C1] at h; exact h))
  have C2 := Lib.hid (fun w => (show Calls Tryd.prog 73 #[.int .u8 c.toNat, .string (B (digN))] w fun e w' => e = .returned (.bool false) ∧ w = w' from by have h := in_any c (digN) w (by decide); rw [h_C2] at h; exact h))
  have b39 : ((c.toNat : Int) == 39) = false := u8n c 39 (by omega) false (beq_eq_false_iff_ne.2 hc39)
  have b34 : ((c.toNat : Int) == 34) = false := u8n c 34 (by omega) false (beq_eq_false_iff_ne.2 hc34)
  have CW := Lib.hid (fun w => (show Calls Tryd.prog 87 #[.string (B r), .string (B (letN ++ digN))] w fun e w' => e = .returned (.int .i64 (K : Nat)) ∧ w = w' from by have h := while_any r (letN ++ digN) w (by omega) (by decide); rw [hK] at h; exact h))
  have hKl : K ≤ r.length := by rw [← hK]; exact whileN_le (letN ++ digN) r
  have ek : (B r).extract 0 K = B t := by rw [← ht]; exact ext_take0 r K
  have b37 : ((c.toNat : Int) == 37) = false := u8n c 37 (by omega) false (beq_eq_false_iff_ne.2 hc37)
  have b64 : ((c.toNat : Int) == 64) = false := u8n c 64 (by omega) false (beq_eq_false_iff_ne.2 hc64)
  have b92 : ((c.toNat : Int) == 92) = false := u8n c 92 (by omega) false (beq_eq_false_iff_ne.2 hc92)
  clear ht
  have nL : decide ((1 : Int) < (l.length : Int)) = false := decide_eq_false (by omega)
  have C5 := Lib.hid (fun w => (show Calls Tryd.prog 73 #[.int .u8 c.toNat, .string (B (markN))] w fun e w' => e = .returned (.bool true) ∧ w = w' from by have h := in_any c (markN) w (by decide); rw [h_C5] at h; exact h))
  clear hc hr
  go_enter Tryd.func74, Tryd.ntmps74
  go_wp2_with fail
  refine (C1.out _).mono ?_
  rintro e w2 ⟨rfl, rfl⟩
  go_wp2_with fail
  refine (C2.out _).mono ?_
  rintro e w2 ⟨rfl, rfl⟩
  go_wp2_with fail
  refine (CW.out _).mono ?_
  rintro e w2 ⟨rfl, rfl⟩
  go_wp2_with fail
  refine (C5.out _).mono ?_
  rintro e w2 ⟨rfl, rfl⟩
  go_wp2
  refine bodyPost_ret (v := .tuple #[.agg #[.int .i64 7, .int .i64 0, .int .i64 0, .string ((B l).extract 0 1), .int .u32 0, .int .i64 0], .int .i64 1, .int .i64 0]) (by simp [results, Tryd.results74, go_sem]) rfl ⟨ret_tok (by rw [HV.out, ext_take0]; rfl) (by rw [HV.out]; rfl) (by rw [HV.out]; rfl), ?_⟩
  repeat (with_reducible first | exact Nx.refl _ | assumption | exact HNQ.out | refine Nx.setCell ?_ (Nat.le_refl _) _ | refine Nx.alloc ?_ _)

set_option maxHeartbeats 2000000 in
set_option maxRecDepth 100000 in
theorem token_oth_mark_long (l r : List UInt8) (c : UInt8) (K : Nat) (t : List UInt8) (w : World) (h1 : 1 ≤ l.length) (hl : l.length ≤ 1000000) (hc : l.getD 0 0 = c) (hr : l.drop 1 = r) (h_C1 : (letN ++ [46]).contains c = false) (h_C2 : digN.contains c = false) (hc39 : ¬ c = 39) (hc34 : ¬ c = 34) (hK : whileN (letN ++ digN) r = K) (ht : r.take K = t) (hc37 : ¬ c = 37) (hc64 : ¬ c = 64) (hc92 : ¬ c = 92) (hlen : 1 < l.length) (h60 : ¬ l.take 2 = [60, 60]) (h62 : ¬ l.take 2 = [62, 62]) (h_C5 : markN.contains c = true) :
    Calls Tryd.prog 74 #[.string (B l)] w (RetTok (tokR l) w) := by
  have HV := Lib.hid (show tokR l = (tokN 7 (l.take 1), 1, 0) from by unfold tokR; rw [hc, hr, if_neg (by rw [h_C1]; simp), if_neg (by rw [h_C2]; simp), if_neg hc39, if_neg hc34, hK, ht, if_neg (fun h => hc37 h.1), if_neg (fun h => h.1.elim hc64 hc92), if_neg (fun h => h.elim h60 h62), if_pos h_C5])
  generalize tokR l = V at *
  obtain ⟨p0, e0⟩ := byte_at l 0 c (by rw [getD_0 l h1, hc])
  have n0 : (0 : Int) < l.length := by omega
  have n1 : (1 : Int) ≤ l.length := by omega
  have er : (B l).extract 1 l.length = B r := by rw [← hr]; exact ext_drop l 1 h1
  have hrl : r.length + 1 = l.length := by rw [← hr, List.length_drop]; omega
  have C1 := Lib.hid (fun w => (show Calls Tryd.prog 73 #[.int .u8 c.toNat, .string (B (letN ++ [46]))] w fun e w' => e = .returned (.bool false) ∧ w = w' from by have h := in_any c (letN ++ [46]) w (by decide); rw [h_C1] at h; exact h))
  have C2 := Lib.hid (fun w => (show Calls Tryd.prog 73 #[.int .u8 c.toNat, .string (B (digN))] w fun e w' => e = .returned (.bool false) ∧ w = w' from by have h := in_any c (digN) w (by decide); rw [h_C2] at h; exact h))
  have b39 : ((c.toNat : Int) == 39) = false := u8n c 39 (by omega) false (beq_eq_false_iff_ne.2 hc39)
  have b34 : ((c.toNat : Int) == 34) = false := u8n c 34 (by omega) false (beq_eq_false_iff_ne.2 hc34)
  have CW := Lib.hid (fun w => (show Calls Tryd.prog 87 #[.string (B r), .string (B (letN ++ digN))] w fun e w' => e = .returned (.int .i64 (K : Nat)) ∧ w = w' from by have h := while_any r (letN ++ digN) w (by omega) (by decide); rw [hK] at h; exact h))
  have hKl : K ≤ r.length := by rw [← hK]; exact whileN_le (letN ++ digN) r
  have ek : (B r).extract 0 K = B t := by rw [← ht]; exact ext_take0 r K
  have b37 : ((c.toNat : Int) == 37) = false := u8n c 37 (by omega) false (beq_eq_false_iff_ne.2 hc37)
  have b64 : ((c.toNat : Int) == 64) = false := u8n c 64 (by omega) false (beq_eq_false_iff_ne.2 hc64)
  have b92 : ((c.toNat : Int) == 92) = false := u8n c 92 (by omega) false (beq_eq_false_iff_ne.2 hc92)
  clear ht
  have nL : (1 : Int) < l.length := by omega
  have q1 : (((B l).extract 0 2).toList == [60, 60]) = false := by rw [ext_take]; simpa using h60
  have q2 : (((B l).extract 0 2).toList == [62, 62]) = false := by rw [ext_take]; simpa using h62
  clear h60 h62
  have C5 := Lib.hid (fun w => (show Calls Tryd.prog 73 #[.int .u8 c.toNat, .string (B (markN))] w fun e w' => e = .returned (.bool true) ∧ w = w' from by have h := in_any c (markN) w (by decide); rw [h_C5] at h; exact h))
  clear hc hr
  go_enter Tryd.func74, Tryd.ntmps74
  go_wp2_with fail
  refine (C1.out _).mono ?_
  rintro e w2 ⟨rfl, rfl⟩
  go_wp2_with fail
  refine (C2.out _).mono ?_
  rintro e w2 ⟨rfl, rfl⟩
  go_wp2_with fail
  refine (CW.out _).mono ?_
  rintro e w2 ⟨rfl, rfl⟩
  go_wp2_with fail
  refine (C5.out _).mono ?_
  rintro e w2 ⟨rfl, rfl⟩
  go_wp2
  refine bodyPost_ret (v := .tuple #[.agg #[.int .i64 7, .int .i64 0, .int .i64 0, .string ((B l).extract 0 1), .int .u32 0, .int .i64 0], .int .i64 1, .int .i64 0]) (by simp [results, Tryd.results74, go_sem]) rfl ⟨ret_tok (by rw [HV.out, ext_take0]; rfl) (by rw [HV.out]; rfl) (by rw [HV.out]; rfl), ?_⟩
  repeat (with_reducible first | exact Nx.refl _ | assumption | exact HNQ.out | refine Nx.setCell ?_ (Nat.le_refl _) _ | refine Nx.alloc ?_ _)

set_option maxHeartbeats 2000000 in
set_option maxRecDepth 100000 in
theorem token_oth_none_short (l r : List UInt8) (c : UInt8) (K : Nat) (t : List UInt8) (w : World) (h1 : 1 ≤ l.length) (hl : l.length ≤ 1000000) (hc : l.getD 0 0 = c) (hr : l.drop 1 = r) (h_C1 : (letN ++ [46]).contains c = false) (h_C2 : digN.contains c = false) (hc39 : ¬ c = 39) (hc34 : ¬ c = 34) (hK : whileN (letN ++ digN) r = K) (ht : r.take K = t) (hc37 : ¬ c = 37) (hc64 : ¬ c = 64) (hc92 : ¬ c = 92) (hlen : l.length ≤ 1) (h_C5 : markN.contains c = false) :
    Calls Tryd.prog 74 #[.string (B l)] w (RetTok (tokR l) w) := by
  have HV := Lib.hid (show tokR l = (tok0, 0, 2) from by unfold tokR; rw [hc, hr, if_neg (by rw [h_C1]; simp), if_neg (by rw [h_C2]; simp), if_neg hc39, if_neg hc34, hK, ht, if_neg (fun h => hc37 h.1), if_neg (fun h => h.1.elim hc64 hc92), if_neg (fun h => h.elim (take2_short l 60 60 hlen) (take2_short l 62 62 hlen)), if_neg (by rw [h_C5]; simp)])
  generalize tokR l = V at *
  obtain ⟨p0, e0⟩ := byte_at l 0 c (by rw [getD_0 l h1, hc])
  have n0 : (0 : Int) < l.length := by omega
  have n1 : (1 : Int) ≤ l.length := by omega
  have er : (B l).extract 1 l.length = B r := by rw [← hr]; exact ext_drop l 1 h1
  have hrl : r.length + 1 = l.length := by rw [← hr, List.length_drop]; omega
  have C1 := Lib.hid (fun w => (show Calls Tryd.prog 73 #[.int .u8 c.toNat, .string (B (letN ++ [46]))] w fun e w' => e = .returned (.bool false) ∧ w = w' from by have h := in_any c (letN ++ [46]) w (by decide); rw [h_C1] at h; exact h))
  have C2 := Lib.hid (fun w => (show Calls Tryd.prog 73 #[.int .u8 c.toNat, .string (B (digN))] w fun e w' => e = .returned (.bool false) ∧ w = w' from by have h := in_any c (digN) w (by decide); rw [h_C2] at h; exact h))
  have b39 : ((c.toNat : Int) == 39) = false := u8n c 39 (by omega) false (beq_eq_false_iff_ne.2 hc39)
  have b34 : ((c.toNat : Int) == 34) = false := u8n c 34 (by omega) false (beq_eq_false_iff_ne.2 hc34)
  have CW := Lib.hid (fun w => (show Calls Tryd.prog 87 #[.string (B r), .string (B (letN ++ digN))] w fun e w' => e = .returned (.int .i64 (K : Nat)) ∧ w = w' from by have h := while_any r (letN ++ digN) w (by omega) (by decide); rw [hK] at h; exact h))
  have hKl : K ≤ r.length := by rw [← hK]; exact whileN_le (letN ++ digN) r
  have ek : (B r).extract 0 K = B t := by rw [← ht]; exact ext_take0 r K
  have b37 : ((c.toNat : Int) == 37) = false := u8n c 37 (by omega) false (beq_eq_false_iff_ne.2 hc37)
  have b64 : ((c.toNat : Int) == 64) = false := u8n c 64 (by omega) false (beq_eq_false_iff_ne.2 hc64)
  have b92 : ((c.toNat : Int) == 92) = false := u8n c 92 (by omega) false (beq_eq_false_iff_ne.2 hc92)
  clear ht
  have nL : decide ((1 : Int) < (l.length : Int)) = false := decide_eq_false (by omega)
  have C5 := Lib.hid (fun w => (show Calls Tryd.prog 73 #[.int .u8 c.toNat, .string (B (markN))] w fun e w' => e = .returned (.bool false) ∧ w = w' from by have h := in_any c (markN) w (by decide); rw [h_C5] at h; exact h))
  clear hc hr
  go_enter Tryd.func74, Tryd.ntmps74
  go_wp2_with fail
  refine (C1.out _).mono ?_
  rintro e w2 ⟨rfl, rfl⟩
  go_wp2_with fail
  refine (C2.out _).mono ?_
  rintro e w2 ⟨rfl, rfl⟩
  go_wp2_with fail
  refine (CW.out _).mono ?_
  rintro e w2 ⟨rfl, rfl⟩
  go_wp2_with fail
  refine (C5.out _).mono ?_
  rintro e w2 ⟨rfl, rfl⟩
  go_wp2
  refine bodyPost_ret (v := .tuple #[.agg #[.int .i64 0, .int .i64 0, .int .i64 0, .string (B []), .int .u32 0, .int .i64 0], .int .i64 0, .int .i64 2]) (by simp [results, Tryd.results74, go_sem]) rfl ⟨ret_tok (by rw [HV.out]; rfl) (by rw [HV.out]; rfl) (by rw [HV.out]; rfl), ?_⟩
  repeat (with_reducible first | exact Nx.refl _ | assumption | exact HNQ.out | refine Nx.setCell ?_ (Nat.le_refl _) _ | refine Nx.alloc ?_ _)

set_option maxHeartbeats 2000000 in
set_option maxRecDepth 100000 in
theorem token_oth_none_long (l r : List UInt8) (c : UInt8) (K : Nat) (t : List UInt8) (w : World) (h1 : 1 ≤ l.length) (hl : l.length ≤ 1000000) (hc : l.getD 0 0 = c) (hr : l.drop 1 = r) (h_C1 : (letN ++ [46]).contains c = false) (h_C2 : digN.contains c = false) (hc39 : ¬ c = 39) (hc34 : ¬ c = 34) (hK : whileN (letN ++ digN) r = K) (ht : r.take K = t) (hc37 : ¬ c = 37) (hc64 : ¬ c = 64) (hc92 : ¬ c = 92) (hlen : 1 < l.length) (h60 : ¬ l.take 2 = [60, 60]) (h62 : ¬ l.take 2 = [62, 62]) (h_C5 : markN.contains c = false) :
    Calls Tryd.prog 74 #[.string (B l)] w (RetTok (tokR l) w) := by
  have HV := Lib.hid (show tokR l = (tok0, 0, 2) from by unfold tokR; rw [hc, hr, if_neg (by rw [h_C1]; simp), if_neg (by rw [h_C2]; simp), if_neg hc39, if_neg hc34, hK, ht, if_neg (fun h => hc37 h.1), if_neg (fun h => h.1.elim hc64 hc92), if_neg (fun h => h.elim h60 h62), if_neg (by rw [h_C5]; simp)])
  generalize tokR l = V at *
  obtain ⟨p0, e0⟩ := byte_at l 0 c (by rw [getD_0 l h1, hc])
  have n0 : (0 : Int) < l.length := by omega
  have n1 : (1 : Int) ≤ l.length := by omega
  have er : (B l).extract 1 l.length = B r := by rw [← hr]; exact ext_drop l 1 h1
  have hrl : r.length + 1 = l.length := by rw [← hr, List.length_drop]; omega
  have C1 := Lib.hid (fun w => (show Calls Tryd.prog 73 #[.int .u8 c.toNat, .string (B (letN ++ [46]))] w fun e w' => e = .returned (.bool false) ∧ w = w' from by have h := in_any c (letN ++ [46]) w (by decide); rw [h_C1] at h; exact h))
  have C2 := Lib.hid (fun w => (show Calls Tryd.prog 73 #[.int .u8 c.toNat, .string (B (digN))] w fun e w' => e = .returned (.bool false) ∧ w = w' from by have h := in_any c (digN) w (by decide); rw [h_C2] at h; exact h))
  have b39 : ((c.toNat : Int) == 39) = false := u8n c 39 (by omega) false (beq_eq_false_iff_ne.2 hc39)
  have b34 : ((c.toNat : Int) == 34) = false := u8n c 34 (by omega) false (beq_eq_false_iff_ne.2 hc34)
  have CW := Lib.hid (fun w => (show Calls Tryd.prog 87 #[.string (B r), .string (B (letN ++ digN))] w fun e w' => e = .returned (.int .i64 (K : Nat)) ∧ w = w' from by have h := while_any r (letN ++ digN) w (by omega) (by decide); rw [hK] at h; exact h))
  have hKl : K ≤ r.length := by rw [← hK]; exact whileN_le (letN ++ digN) r
  have ek : (B r).extract 0 K = B t := by rw [← ht]; exact ext_take0 r K
  have b37 : ((c.toNat : Int) == 37) = false := u8n c 37 (by omega) false (beq_eq_false_iff_ne.2 hc37)
  have b64 : ((c.toNat : Int) == 64) = false := u8n c 64 (by omega) false (beq_eq_false_iff_ne.2 hc64)
  have b92 : ((c.toNat : Int) == 92) = false := u8n c 92 (by omega) false (beq_eq_false_iff_ne.2 hc92)
  clear ht
  have nL : (1 : Int) < l.length := by omega
  have q1 : (((B l).extract 0 2).toList == [60, 60]) = false := by rw [ext_take]; simpa using h60
  have q2 : (((B l).extract 0 2).toList == [62, 62]) = false := by rw [ext_take]; simpa using h62
  clear h60 h62
  have C5 := Lib.hid (fun w => (show Calls Tryd.prog 73 #[.int .u8 c.toNat, .string (B (markN))] w fun e w' => e = .returned (.bool false) ∧ w = w' from by have h := in_any c (markN) w (by decide); rw [h_C5] at h; exact h))
  clear hc hr
  go_enter Tryd.func74, Tryd.ntmps74
  go_wp2_with fail
  refine (C1.out _).mono ?_
  rintro e w2 ⟨rfl, rfl⟩
  go_wp2_with fail
  refine (C2.out _).mono ?_
  rintro e w2 ⟨rfl, rfl⟩
  go_wp2_with fail
  refine (CW.out _).mono ?_
  rintro e w2 ⟨rfl, rfl⟩
  go_wp2_with fail
  refine (C5.out _).mono ?_
  rintro e w2 ⟨rfl, rfl⟩
  go_wp2
  refine bodyPost_ret (v := .tuple #[.agg #[.int .i64 0, .int .i64 0, .int .i64 0, .string (B []), .int .u32 0, .int .i64 0], .int .i64 0, .int .i64 2]) (by simp [results, Tryd.results74, go_sem]) rfl ⟨ret_tok (by rw [HV.out]; rfl) (by rw [HV.out]; rfl) (by rw [HV.out]; rfl), ?_⟩
  repeat (with_reducible first | exact Nx.refl _ | assumption | exact HNQ.out | refine Nx.setCell ?_ (Nat.le_refl _) _ | refine Nx.alloc ?_ _)

theorem token_any (l : List UInt8) (w : World) (h1 : 1 ≤ l.length) (hl : l.length ≤ 1000000) : Calls Tryd.prog 74 #[.string (B l)] w (RetTok (tokR l) w) := by
  obtain ⟨c, hc⟩ : ∃ c, l.getD 0 0 = c := ⟨_, rfl⟩
  obtain ⟨r, hr⟩ : ∃ r, l.drop 1 = r := ⟨_, rfl⟩
  cases hC1 : (letN ++ [46]).contains c
  · cases hC2 : digN.contains c
    · by_cases hc39 : c = 39
      · by_cases q0 : (quoR 39 r).2 = 0
        · exact token_noa l r c 0 [] w h1 hl hc hr hC1 hC2 hc39 q0
        · by_cases q1 : r.length ≤ (quoR 39 r).2
          · exact token_nob l r c 0 [] w h1 hl hc hr hC1 hC2 hc39 (by omega) q1
          · obtain ⟨x, hx⟩ : ∃ x, r[(quoR 39 r).2]? = some x := ⟨_, List.getElem?_eq_getElem (by omega)⟩
            by_cases hx2 : x = 39
            · exact token_char l r c 0 [] w h1 hl hc hr hC1 hC2 hc39 ⟨by omega, by omega, by rw [List.getD_eq_getElem?_getD, hx]; exact hx2⟩
            · exact token_noc l r c 0 [] w h1 hl hc hr hC1 hC2 hc39 x (by omega) hx hx2
      · by_cases hc34 : c = 34
        · exact token_text l r c 0 [] w h1 hl hc hr hC1 hC2 hc39 hc34
        · obtain ⟨K, hK⟩ : ∃ K, whileN (letN ++ digN) r = K := ⟨_, rfl⟩
          obtain ⟨t, ht⟩ : ∃ t, r.take K = t := ⟨_, rfl⟩
          have hKl : K ≤ r.length := by rw [← hK]; exact whileN_le _ _
          have t2 : ∀ a b : UInt8, ¬ c = a → ¬ l.take 2 = [a, b] := fun a b hca h => hca (by rw [← hc]; exact take2_head l a b h)
          have nomark : c = 37 ∨ c = 64 ∨ c = 92 → markN.contains c = false ∧ ¬ c = 60 ∧ ¬ c = 62 := fun h => by rcases h with rfl | rfl | rfl <;> decide
          by_cases hc37 : c = 37
          · by_cases ta : t = [104, 105]
            · exact token_fn_hi l r c K t w h1 hl hc hr hC1 hC2 hc39 hc34 hK ht hc37 ta
            · by_cases tb : t = [108, 111]
              · exact token_fn_lo l r c K t w h1 hl hc hr hC1 hC2 hc39 hc34 hK ht hc37 tb
              · by_cases tc : t = [112, 99, 114, 101, 108]
                · exact token_fn_pc l r c K t w h1 hl hc hr hC1 hC2 hc39 hc34 hK ht hc37 tc
                · obtain ⟨m1, m2, m3⟩ := nomark (Or.inl hc37)
                  by_cases hlen : l.length ≤ 1
                  · exact token_pc_short l r c K t w h1 hl hc hr hC1 hC2 hc39 hc34 hK ht hc37 ta tb tc hlen m1
                  · exact token_pc_long l r c K t w h1 hl hc hr hC1 hC2 hc39 hc34 hK ht hc37 ta tb tc (by omega) (t2 60 60 m2) (t2 62 62 m3) m1
          · by_cases hc64 : c = 64
            · obtain ⟨m1, m2, m3⟩ := nomark (Or.inr (Or.inl hc64))
              by_cases hK0 : K = 0
              · by_cases hlen : l.length ≤ 1
                · exact token_own64_no_short l r c K t w h1 hl hc hr hC1 hC2 hc39 hc34 hK ht hc64 hK0 hlen m1
                · exact token_own64_no_long l r c K t w h1 hl hc hr hC1 hC2 hc39 hc34 hK ht hc64 hK0 (by omega) (t2 60 60 m2) (t2 62 62 m3) m1
              · obtain ⟨x, hx⟩ : ∃ x, r[0]? = some x := ⟨_, List.getElem?_eq_getElem (by omega)⟩
                cases h4 : letN.contains x
                · exact token_own64_bad_long l r c K t w h1 hl hc hr hC1 hC2 hc39 hc34 hK ht hc64 x hx (by omega) h4 (by rw [← hr, List.length_drop] at hKl; omega) (t2 60 60 m2) (t2 62 62 m3) m1
                · exact token_local l r c K t w h1 hl hc hr hC1 hC2 hc39 hc34 hK ht hc64 x hx (by omega) h4
            · by_cases hc92 : c = 92
              · obtain ⟨m1, m2, m3⟩ := nomark (Or.inr (Or.inr hc92))
                by_cases hK0 : K = 0
                · by_cases hlen : l.length ≤ 1
                  · exact token_own92_no_short l r c K t w h1 hl hc hr hC1 hC2 hc39 hc34 hK ht hc92 hK0 hlen m1
                  · exact token_own92_no_long l r c K t w h1 hl hc hr hC1 hC2 hc39 hc34 hK ht hc92 hK0 (by omega) (t2 60 60 m2) (t2 62 62 m3) m1
                · obtain ⟨x, hx⟩ : ∃ x, r[0]? = some x := ⟨_, List.getElem?_eq_getElem (by omega)⟩
                  cases h4 : letN.contains x
                  · exact token_own92_bad_long l r c K t w h1 hl hc hr hC1 hC2 hc39 hc34 hK ht hc92 x hx (by omega) h4 (by rw [← hr, List.length_drop] at hKl; omega) (t2 60 60 m2) (t2 62 62 m3) m1
                  · exact token_param l r c K t w h1 hl hc hr hC1 hC2 hc39 hc34 hK ht hc92 x hx (by omega) h4
              · by_cases h60 : l.take 2 = [60, 60]
                · exact token_oth_two_lt l r c K t w h1 hl hc hr hC1 hC2 hc39 hc34 hK ht hc37 hc64 hc92 h60
                · by_cases h62 : l.take 2 = [62, 62]
                  · exact token_oth_two_gt l r c K t w h1 hl hc hr hC1 hC2 hc39 hc34 hK ht hc37 hc64 hc92 h62
                  · cases hm : markN.contains c
                    · by_cases hlen : l.length ≤ 1
                      · exact token_oth_none_short l r c K t w h1 hl hc hr hC1 hC2 hc39 hc34 hK ht hc37 hc64 hc92 hlen hm
                      · exact token_oth_none_long l r c K t w h1 hl hc hr hC1 hC2 hc39 hc34 hK ht hc37 hc64 hc92 (by omega) h60 h62 hm
                    · by_cases hlen : l.length ≤ 1
                      · exact token_oth_mark_short l r c K t w h1 hl hc hr hC1 hC2 hc39 hc34 hK ht hc37 hc64 hc92 hlen hm
                      · exact token_oth_mark_long l r c K t w h1 hl hc hr hC1 hC2 hc39 hc34 hK ht hc37 hc64 hc92 (by omega) h60 h62 hm
    · exact token_number l r c 0 [] w h1 hl hc hr hC1 hC2
  · exact token_name l r c (whileN goN l) [] w h1 hl hc hr hC1 rfl

end Go.Proofs.YtbkgdepblaibkaaDoor
