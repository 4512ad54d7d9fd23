/- Parts of the proof, one behind the other. -/
import Derived.Test.YtdgmdkkockbkjaaGreatDoorHas
import Derived.OwnWalk
import Derived.ProofKit
import Derived.OpenShut
import Derived.Deep.Slices
import Derived.Deep.Fields
import Derived.ChangeSame
import Derived.Deep.Strs
import Derived.Test.YtdgmdkkockbkjaaGreatDoorZkaa
import Derived.Test.YtdgmdkkockbkjaaGreatDoorZkab
import Derived.Test.YtdgmdkkockbkjaaGreatDoorZkac
import Derived.Test.YtdgmdkkockbkjaaGreatDoorZkae
/- Contracts of typecaseref10: a token, the last branches. -/
namespace Go.Proofs.YtdgmdkkockbkjaaGreatDoor
open Go.RowKit
set_option linter.unusedVariables false
set_option linter.unusedSimpArgs false

theorem take2_head (l : List UInt8) (a b : UInt8) (h : l.take 2 = [a, b]) : l.getD 0 0 = a := by
  cases l with
  | nil => cases h
  | cons x l => cases l with
    | nil => cases h
    | cons y l => injection h

theorem take2_short (l : List UInt8) (a b : UInt8) (hl : l.length ≤ 1) : ¬ l.take 2 = [a, b] := by
  intro h
  have := congrArg List.length h
  simp at this
  omega

set_option maxHeartbeats 2000000 in
set_option maxRecDepth 100000 in
theorem token_pc_short (l r : List UInt8) (c : UInt8) (K : Nat) (t : List UInt8) (w : World) (h1 : 1 ≤ l.length) (hl : l.length ≤ 1000000) (hc : l.getD 0 0 = c) (hr : l.drop 1 = r) (h_C1 : (letN ++ [46]).contains c = false) (h_C2 : digN.contains c = false) (hc39 : ¬ c = 39) (hc34 : ¬ c = 34) (hK : whileN (letN ++ digN) r = K) (ht : r.take K = t) (hc37 : c = 37) (hta : ¬ t = [104, 105]) (htb : ¬ t = [108, 111]) (htc : ¬ t = [112, 99, 114, 101, 108]) (hlen : l.length ≤ 1) (h_C5 : markN.contains c = false) :
    Calls Tryz.prog 37 #[.string (B l)] w (RetTok (tokR l) w) := by
  have HV := Lib.hid (show tokR l = (tok0, 0, 2) from by unfold tokR; rw [hc, hr, if_neg (by rw [h_C1]; simp), if_neg (by rw [h_C2]; simp), if_neg hc39, if_neg hc34, hK, ht, if_neg (fun h => h.2.elim hta (fun h => h.elim htb htc)), if_neg (fun h => h.1.elim (by rw [hc37]; decide) (by rw [hc37]; decide)), if_neg (fun h => h.elim (take2_short l 60 60 hlen) (take2_short l 62 62 hlen)), if_neg (by rw [h_C5]; simp)])
  generalize tokR l = V at *
  obtain ⟨p0, e0⟩ := byte_at l 0 c (by rw [getD_0 l h1, hc])
  have n0 : (0 : Int) < l.length := by omega
  have n1 : (1 : Int) ≤ l.length := by omega
  have er : (B l).extract 1 l.length = B r := by rw [← hr]; exact ext_drop l 1 h1
  have hrl : r.length + 1 = l.length := by rw [← hr, List.length_drop]; omega
  have C1 := Lib.hid (fun w => (show Calls Tryz.prog 36 #[.int .u8 c.toNat, .string (B (letN ++ [46]))] w fun e w' => e = .returned (.bool false) ∧ w = w' from by have h := in_any c (letN ++ [46]) w (by decide); rw [h_C1] at h; exact h))
  have C2 := Lib.hid (fun w => (show Calls Tryz.prog 36 #[.int .u8 c.toNat, .string (B (digN))] w fun e w' => e = .returned (.bool false) ∧ w = w' from by have h := in_any c (digN) w (by decide); rw [h_C2] at h; exact h))
  have b39 : ((c.toNat : Int) == 39) = false := u8n c 39 (by omega) false (beq_eq_false_iff_ne.2 hc39)
  have b34 : ((c.toNat : Int) == 34) = false := u8n c 34 (by omega) false (beq_eq_false_iff_ne.2 hc34)
  have CW := Lib.hid (fun w => (show Calls Tryz.prog 57 #[.string (B r), .string (B (letN ++ digN))] w fun e w' => e = .returned (.int .i64 (K : Nat)) ∧ w = w' from by have h := while_any r (letN ++ digN) w (by omega) (by decide); rw [hK] at h; exact h))
  have hKl : K ≤ r.length := by rw [← hK]; exact whileN_le (letN ++ digN) r
  have ek : (B r).extract 0 K = B t := by rw [← ht]; exact ext_take0 r K
  have b37 : ((c.toNat : Int) == 37) = true := u8n c 37 (by omega) true (by rw [hc37]; rfl)
  have hc64 : ¬ c = 64 := by rw [hc37]; decide
  have hc92 : ¬ c = 92 := by rw [hc37]; decide
  have b64 : ((c.toNat : Int) == 64) = false := u8n c 64 (by omega) false (beq_eq_false_iff_ne.2 hc64)
  have b92 : ((c.toNat : Int) == 92) = false := u8n c 92 (by omega) false (beq_eq_false_iff_ne.2 hc92)
  have ta : (t == [104, 105]) = false := by simpa using hta
  have tb : (t == [108, 111]) = false := by simpa using htb
  have tc : (t == [112, 99, 114, 101, 108]) = false := by simpa using htc
  clear ht hta htb htc
  have nL : decide ((1 : Int) < (l.length : Int)) = false := decide_eq_false (by omega)
  have C5 := Lib.hid (fun w => (show Calls Tryz.prog 36 #[.int .u8 c.toNat, .string (B (markN))] w fun e w' => e = .returned (.bool false) ∧ w = w' from by have h := in_any c (markN) w (by decide); rw [h_C5] at h; exact h))
  clear hc37
  clear hc hr
  go_enter Tryz.func37, Tryz.ntmps37
  go_wp2_with fail
  refine (C1.out _).mono ?_
  rintro e w2 ⟨rfl, rfl⟩
  go_wp2_with fail
  refine (C2.out _).mono ?_
  rintro e w2 ⟨rfl, rfl⟩
  go_wp2_with fail
  refine (CW.out _).mono ?_
  rintro e w2 ⟨rfl, rfl⟩
  go_wp2_with fail
  refine (C5.out _).mono ?_
  rintro e w2 ⟨rfl, rfl⟩
  go_wp2
  refine bodyPost_ret (v := .tuple #[.agg #[.int .i64 0, .int .i64 0, .int .i64 0, .string (B []), .int .u32 0, .int .i64 0], .int .i64 0, .int .i64 2]) (by simp [results, Tryz.results37, go_sem]) rfl ⟨ret_tok (by rw [HV.out]; rfl) (by rw [HV.out]; rfl) (by rw [HV.out]; rfl), ?_⟩
  repeat (with_reducible first | exact Nx.refl _ | assumption | exact HNQ.out | refine Nx.setCell ?_ (Nat.le_refl _) _ | refine Nx.alloc ?_ _)

set_option maxHeartbeats 2000000 in
set_option maxRecDepth 100000 in
theorem token_own64_no_short (l r : List UInt8) (c : UInt8) (K : Nat) (t : List UInt8) (w : World) (h1 : 1 ≤ l.length) (hl : l.length ≤ 1000000) (hc : l.getD 0 0 = c) (hr : l.drop 1 = r) (h_C1 : (letN ++ [46]).contains c = false) (h_C2 : digN.contains c = false) (hc39 : ¬ c = 39) (hc34 : ¬ c = 34) (hK : whileN (letN ++ digN) r = K) (ht : r.take K = t) (hc64 : c = 64) (hK0 : K = 0) (hlen : l.length ≤ 1) (h_C5 : markN.contains c = false) :
    Calls Tryz.prog 37 #[.string (B l)] w (RetTok (tokR l) w) := by
  have HV := Lib.hid (show tokR l = (tok0, 0, 2) from by unfold tokR; rw [hc, hr, if_neg (by rw [h_C1]; simp), if_neg (by rw [h_C2]; simp), if_neg hc39, if_neg hc34, hK, ht, if_neg (fun h => absurd h.1 (by rw [hc64]; decide)), if_neg (fun h => absurd h.2.1 (by omega)), if_neg (fun h => h.elim (take2_short l 60 60 hlen) (take2_short l 62 62 hlen)), if_neg (by rw [h_C5]; simp)])
  generalize tokR l = V at *
  obtain ⟨p0, e0⟩ := byte_at l 0 c (by rw [getD_0 l h1, hc])
  have n0 : (0 : Int) < l.length := by omega
  have n1 : (1 : Int) ≤ l.length := by omega
  have er : (B l).extract 1 l.length = B r := by rw [← hr]; exact ext_drop l 1 h1
  have hrl : r.length + 1 = l.length := by rw [← hr, List.length_drop]; omega
  have C1 := Lib.hid (fun w => (show Calls Tryz.prog 36 #[.int .u8 c.toNat, .string (B (letN ++ [46]))] w fun e w' => e = .returned (.bool false) ∧ w = w' from by have h := in_any c (letN ++ [46]) w (by decide); rw [h_C1] at h; exact h))
  have C2 := Lib.hid (fun w => (show Calls Tryz.prog 36 #[.int .u8 c.toNat, .string (B (digN))] w fun e w' => e = .returned (.bool false) ∧ w = w' from by have h := in_any c (digN) w (by decide); rw [h_C2] at h; exact h))
  have b39 : ((c.toNat : Int) == 39) = false := u8n c 39 (by omega) false (beq_eq_false_iff_ne.2 hc39)
  have b34 : ((c.toNat : Int) == 34) = false := u8n c 34 (by omega) false (beq_eq_false_iff_ne.2 hc34)
  have CW := Lib.hid (fun w => (show Calls Tryz.prog 57 #[.string (B r), .string (B (letN ++ digN))] w fun e w' => e = .returned (.int .i64 (K : Nat)) ∧ w = w' from by have h := while_any r (letN ++ digN) w (by omega) (by decide); rw [hK] at h; exact h))
  have hKl : K ≤ r.length := by rw [← hK]; exact whileN_le (letN ++ digN) r
  have ek : (B r).extract 0 K = B t := by rw [← ht]; exact ext_take0 r K
  have hc37 : ¬ c = 37 := by rw [hc64]; decide
  have b37 : ((c.toNat : Int) == 37) = false := u8n c 37 (by omega) false (beq_eq_false_iff_ne.2 hc37)
  have b64 : ((c.toNat : Int) == 64) = true := u8n c 64 (by omega) true (by rw [hc64]; rfl)
  have hc92 : ¬ c = 92 := by rw [hc64]; decide
  have b92 : ((c.toNat : Int) == 92) = false := u8n c 92 (by omega) false (beq_eq_false_iff_ne.2 hc92)
  have k0 : decide (0 < K) = false := decide_eq_false (by omega)
  clear ht hK0
  have nL : decide ((1 : Int) < (l.length : Int)) = false := decide_eq_false (by omega)
  have C5 := Lib.hid (fun w => (show Calls Tryz.prog 36 #[.int .u8 c.toNat, .string (B (markN))] w fun e w' => e = .returned (.bool false) ∧ w = w' from by have h := in_any c (markN) w (by decide); rw [h_C5] at h; exact h))
  clear hc64
  clear hc hr
  go_enter Tryz.func37, Tryz.ntmps37
  go_wp2_with fail
  refine (C1.out _).mono ?_
  rintro e w2 ⟨rfl, rfl⟩
  go_wp2_with fail
  refine (C2.out _).mono ?_
  rintro e w2 ⟨rfl, rfl⟩
  go_wp2_with fail
  refine (CW.out _).mono ?_
  rintro e w2 ⟨rfl, rfl⟩
  go_wp2_with fail
  refine (C5.out _).mono ?_
  rintro e w2 ⟨rfl, rfl⟩
  go_wp2
  refine bodyPost_ret (v := .tuple #[.agg #[.int .i64 0, .int .i64 0, .int .i64 0, .string (B []), .int .u32 0, .int .i64 0], .int .i64 0, .int .i64 2]) (by simp [results, Tryz.results37, go_sem]) rfl ⟨ret_tok (by rw [HV.out]; rfl) (by rw [HV.out]; rfl) (by rw [HV.out]; rfl), ?_⟩
  repeat (with_reducible first | exact Nx.refl _ | assumption | exact HNQ.out | refine Nx.setCell ?_ (Nat.le_refl _) _ | refine Nx.alloc ?_ _)

set_option maxHeartbeats 2000000 in
set_option maxRecDepth 100000 in
theorem token_own92_no_short (l r : List UInt8) (c : UInt8) (K : Nat) (t : List UInt8) (w : World) (h1 : 1 ≤ l.length) (hl : l.length ≤ 1000000) (hc : l.getD 0 0 = c) (hr : l.drop 1 = r) (h_C1 : (letN ++ [46]).contains c = false) (h_C2 : digN.contains c = false) (hc39 : ¬ c = 39) (hc34 : ¬ c = 34) (hK : whileN (letN ++ digN) r = K) (ht : r.take K = t) (hc92 : c = 92) (hK0 : K = 0) (hlen : l.length ≤ 1) (h_C5 : markN.contains c = false) :
    Calls Tryz.prog 37 #[.string (B l)] w (RetTok (tokR l) w) := by
  have HV := Lib.hid (show tokR l = (tok0, 0, 2) from by unfold tokR; rw [hc, hr, if_neg (by rw [h_C1]; simp), if_neg (by rw [h_C2]; simp), if_neg hc39, if_neg hc34, hK, ht, if_neg (fun h => absurd h.1 (by rw [hc92]; decide)), if_neg (fun h => absurd h.2.1 (by omega)), if_neg (fun h => h.elim (take2_short l 60 60 hlen) (take2_short l 62 62 hlen)), if_neg (by rw [h_C5]; simp)])
  generalize tokR l = V at *
  obtain ⟨p0, e0⟩ := byte_at l 0 c (by rw [getD_0 l h1, hc])
  have n0 : (0 : Int) < l.length := by omega
  have n1 : (1 : Int) ≤ l.length := by omega
  have er : (B l).extract 1 l.length = B r := by rw [← hr]; exact ext_drop l 1 h1
  have hrl : r.length + 1 = l.length := by rw [← hr, List.length_drop]; omega
  have C1 := Lib.hid (fun w => (show Calls Tryz.prog 36 #[.int .u8 c.toNat, .string (B (letN ++ [46]))] w fun e w' => e = .returned (.bool false) ∧ w = w' from by have h := in_any c (letN ++ [46]) w (by decide); rw [h_C1] at h; exact h))
  have C2 := Lib.hid (fun w => (show Calls Tryz.prog 36 #[.int .u8 c.toNat, .string (B (digN))] w fun e w' => e = .returned (.bool false) ∧ w = w' from by have h := in_any c (digN) w (by decide); rw [h_C2] at h; exact h))
  have b39 : ((c.toNat : Int) == 39) = false := u8n c 39 (by omega) false (beq_eq_false_iff_ne.2 hc39)
  have b34 : ((c.toNat : Int) == 34) = false := u8n c 34 (by omega) false (beq_eq_false_iff_ne.2 hc34)
  have CW := Lib.hid (fun w => (show Calls Tryz.prog 57 #[.string (B r), .string (B (letN ++ digN))] w fun e w' => e = .returned (.int .i64 (K : Nat)) ∧ w = w' from by have h := while_any r (letN ++ digN) w (by omega) (by decide); rw [hK] at h; exact h))
  have hKl : K ≤ r.length := by rw [← hK]; exact whileN_le (letN ++ digN) r
  have ek : (B r).extract 0 K = B t := by rw [← ht]; exact ext_take0 r K
  have hc37 : ¬ c = 37 := by rw [hc92]; decide
  have b37 : ((c.toNat : Int) == 37) = false := u8n c 37 (by omega) false (beq_eq_false_iff_ne.2 hc37)
  have b92 : ((c.toNat : Int) == 92) = true := u8n c 92 (by omega) true (by rw [hc92]; rfl)
  have hc64 : ¬ c = 64 := by rw [hc92]; decide
  have b64 : ((c.toNat : Int) == 64) = false := u8n c 64 (by omega) false (beq_eq_false_iff_ne.2 hc64)
  have k0 : decide (0 < K) = false := decide_eq_false (by omega)
  clear ht hK0
  have nL : decide ((1 : Int) < (l.length : Int)) = false := decide_eq_false (by omega)
  have C5 := Lib.hid (fun w => (show Calls Tryz.prog 36 #[.int .u8 c.toNat, .string (B (markN))] w fun e w' => e = .returned (.bool false) ∧ w = w' from by have h := in_any c (markN) w (by decide); rw [h_C5] at h; exact h))
  clear hc92
  clear hc hr
  go_enter Tryz.func37, Tryz.ntmps37
  go_wp2_with fail
  refine (C1.out _).mono ?_
  rintro e w2 ⟨rfl, rfl⟩
  go_wp2_with fail
  refine (C2.out _).mono ?_
  rintro e w2 ⟨rfl, rfl⟩
  go_wp2_with fail
  refine (CW.out _).mono ?_
  rintro e w2 ⟨rfl, rfl⟩
  go_wp2_with fail
  refine (C5.out _).mono ?_
  rintro e w2 ⟨rfl, rfl⟩
  go_wp2
  refine bodyPost_ret (v := .tuple #[.agg #[.int .i64 0, .int .i64 0, .int .i64 0, .string (B []), .int .u32 0, .int .i64 0], .int .i64 0, .int .i64 2]) (by simp [results, Tryz.results37, go_sem]) rfl ⟨ret_tok (by rw [HV.out]; rfl) (by rw [HV.out]; rfl) (by rw [HV.out]; rfl), ?_⟩
  repeat (with_reducible first | exact Nx.refl _ | assumption | exact HNQ.out | refine Nx.setCell ?_ (Nat.le_refl _) _ | refine Nx.alloc ?_ _)

set_option maxHeartbeats 2000000 in
set_option maxRecDepth 100000 in
theorem token_pc_long (l r : List UInt8) (c : UInt8) (K : Nat) (t : List UInt8) (w : World) (h1 : 1 ≤ l.length) (hl : l.length ≤ 1000000) (hc : l.getD 0 0 = c) (hr : l.drop 1 = r) (h_C1 : (letN ++ [46]).contains c = false) (h_C2 : digN.contains c = false) (hc39 : ¬ c = 39) (hc34 : ¬ c = 34) (hK : whileN (letN ++ digN) r = K) (ht : r.take K = t) (hc37 : c = 37) (hta : ¬ t = [104, 105]) (htb : ¬ t = [108, 111]) (htc : ¬ t = [112, 99, 114, 101, 108]) (hlen : 1 < l.length) (h60 : ¬ l.take 2 = [60, 60]) (h62 : ¬ l.take 2 = [62, 62]) (h_C5 : markN.contains c = false) :
    Calls Tryz.prog 37 #[.string (B l)] w (RetTok (tokR l) w) := by
  have HV := Lib.hid (show tokR l = (tok0, 0, 2) from by unfold tokR; rw [hc, hr, if_neg (by rw [h_C1]; simp), if_neg (by rw [h_C2]; simp), if_neg hc39, if_neg hc34, hK, ht, if_neg (fun h => h.2.elim hta (fun h => h.elim htb htc)), if_neg (fun h => h.1.elim (by rw [hc37]; decide) (by rw [hc37]; decide)), if_neg (fun h => h.elim h60 h62), if_neg (by rw [h_C5]; simp)])
  generalize tokR l = V at *
  obtain ⟨p0, e0⟩ := byte_at l 0 c (by rw [getD_0 l h1, hc])
  have n0 : (0 : Int) < l.length := by omega
  have n1 : (1 : Int) ≤ l.length := by omega
  have er : (B l).extract 1 l.length = B r := by rw [← hr]; exact ext_drop l 1 h1
  have hrl : r.length + 1 = l.length := by rw [← hr, List.length_drop]; omega
  have C1 := Lib.hid (fun w => (show Calls Tryz.prog 36 #[.int .u8 c.toNat, .string (B (letN ++ [46]))] w fun e w' => e = .returned (.bool false) ∧ w = w' from by have h := in_any c (letN ++ [46]) w (by decide); rw [h_C1] at h; exact h))
  have C2 := Lib.hid (fun w => (show Calls Tryz.prog 36 #[.int .u8 c.toNat, .string (B (digN))] w fun e w' => e = .returned (.bool false) ∧ w = w' from by have h := in_any c (digN) w (by decide); rw [h_C2] at h; exact h))
  have b39 : ((c.toNat : Int) == 39) = false := u8n c 39 (by omega) false (beq_eq_false_iff_ne.2 hc39)
  have b34 : ((c.toNat : Int) == 34) = false := u8n c 34 (by omega) false (beq_eq_false_iff_ne.2 hc34)
  have CW := Lib.hid (fun w => (show Calls Tryz.prog 57 #[.string (B r), .string (B (letN ++ digN))] w fun e w' => e = .returned (.int .i64 (K : Nat)) ∧ w = w' from by have h := while_any r (letN ++ digN) w (by omega) (by decide); rw [hK] at h; exact h))
  have hKl : K ≤ r.length := by rw [← hK]; exact whileN_le (letN ++ digN) r
  have ek : (B r).extract 0 K = B t := by rw [← ht]; exact ext_take0 r K
  have b37 : ((c.toNat : Int) == 37) = true := u8n c 37 (by omega) true (by rw [hc37]; rfl)
  have hc64 : ¬ c = 64 := by rw [hc37]; decide
  have hc92 : ¬ c = 92 := by rw [hc37]; decide
  have b64 : ((c.toNat : Int) == 64) = false := u8n c 64 (by omega) false (beq_eq_false_iff_ne.2 hc64)
  have b92 : ((c.toNat : Int) == 92) = false := u8n c 92 (by omega) false (beq_eq_false_iff_ne.2 hc92)
  have ta : (t == [104, 105]) = false := by simpa using hta
  have tb : (t == [108, 111]) = false := by simpa using htb
  have tc : (t == [112, 99, 114, 101, 108]) = false := by simpa using htc
  clear ht hta htb htc
  have nL : (1 : Int) < l.length := by omega
  have q1 : (((B l).extract 0 2).toList == [60, 60]) = false := by rw [ext_take]; simpa using h60
  have q2 : (((B l).extract 0 2).toList == [62, 62]) = false := by rw [ext_take]; simpa using h62
  clear h60 h62
  have C5 := Lib.hid (fun w => (show Calls Tryz.prog 36 #[.int .u8 c.toNat, .string (B (markN))] w fun e w' => e = .returned (.bool false) ∧ w = w' from by have h := in_any c (markN) w (by decide); rw [h_C5] at h; exact h))
  clear hc37
  clear hc hr
  go_enter Tryz.func37, Tryz.ntmps37
  go_wp2_with fail
  refine (C1.out _).mono ?_
  rintro e w2 ⟨rfl, rfl⟩
  go_wp2_with fail
  refine (C2.out _).mono ?_
  rintro e w2 ⟨rfl, rfl⟩
  go_wp2_with fail
  refine (CW.out _).mono ?_
  rintro e w2 ⟨rfl, rfl⟩
  go_wp2_with fail
  refine (C5.out _).mono ?_
  rintro e w2 ⟨rfl, rfl⟩
  go_wp2
  refine bodyPost_ret (v := .tuple #[.agg #[.int .i64 0, .int .i64 0, .int .i64 0, .string (B []), .int .u32 0, .int .i64 0], .int .i64 0, .int .i64 2]) (by simp [results, Tryz.results37, go_sem]) rfl ⟨ret_tok (by rw [HV.out]; rfl) (by rw [HV.out]; rfl) (by rw [HV.out]; rfl), ?_⟩
  repeat (with_reducible first | exact Nx.refl _ | assumption | exact HNQ.out | refine Nx.setCell ?_ (Nat.le_refl _) _ | refine Nx.alloc ?_ _)

set_option maxHeartbeats 2000000 in
set_option maxRecDepth 100000 in
theorem token_own64_no_long (l r : List UInt8) (c : UInt8) (K : Nat) (t : List UInt8) (w : World) (h1 : 1 ≤ l.length) (hl : l.length ≤ 1000000) (hc : l.getD 0 0 = c) (hr : l.drop 1 = r) (h_C1 : (letN ++ [46]).contains c = false) (h_C2 : digN.contains c = false) (hc39 : ¬ c = 39) (hc34 : ¬ c = 34) (hK : whileN (letN ++ digN) r = K) (ht : r.take K = t) (hc64 : c = 64) (hK0 : K = 0) (hlen : 1 < l.length) (h60 : ¬ l.take 2 = [60, 60]) (h62 : ¬ l.take 2 = [62, 62]) (h_C5 : markN.contains c = false) :
    Calls Tryz.prog 37 #[.string (B l)] w (RetTok (tokR l) w) := by
  have HV := Lib.hid (show tokR l = (tok0, 0, 2) from by unfold tokR; rw [hc, hr, if_neg (by rw [h_C1]; simp), if_neg (by rw [h_C2]; simp), if_neg hc39, if_neg hc34, hK, ht, if_neg (fun h => absurd h.1 (by rw [hc64]; decide)), if_neg (fun h => absurd h.2.1 (by omega)), if_neg (fun h => h.elim h60 h62), if_neg (by rw [h_C5]; simp)])
  generalize tokR l = V at *
  obtain ⟨p0, e0⟩ := byte_at l 0 c (by rw [getD_0 l h1, hc])
  have n0 : (0 : Int) < l.length := by omega
  have n1 : (1 : Int) ≤ l.length := by omega
  have er : (B l).extract 1 l.length = B r := by rw [← hr]; exact ext_drop l 1 h1
  have hrl : r.length + 1 = l.length := by rw [← hr, List.length_drop]; omega
  have C1 := Lib.hid (fun w => (show Calls Tryz.prog 36 #[.int .u8 c.toNat, .string (B (letN ++ [46]))] w fun e w' => e = .returned (.bool false) ∧ w = w' from by have h := in_any c (letN ++ [46]) w (by decide); rw [h_C1] at h; exact h))
  have C2 := Lib.hid (fun w => (show Calls Tryz.prog 36 #[.int .u8 c.toNat, .string (B (digN))] w fun e w' => e = .returned (.bool false) ∧ w = w' from by have h := in_any c (digN) w (by decide); rw [h_C2] at h; exact h))
  have b39 : ((c.toNat : Int) == 39) = false := u8n c 39 (by omega) false (beq_eq_false_iff_ne.2 hc39)
  have b34 : ((c.toNat : Int) == 34) = false := u8n c 34 (by omega) false (beq_eq_false_iff_ne.2 hc34)
  have CW := Lib.hid (fun w => (show Calls Tryz.prog 57 #[.string (B r), .string (B (letN ++ digN))] w fun e w' => e = .returned (.int .i64 (K : Nat)) ∧ w = w' from by have h := while_any r (letN ++ digN) w (by omega) (by decide); rw [hK] at h; exact h))
  have hKl : K ≤ r.length := by rw [← hK]; exact whileN_le (letN ++ digN) r
  have ek : (B r).extract 0 K = B t := by rw [← ht]; exact ext_take0 r K
  have hc37 : ¬ c = 37 := by rw [hc64]; decide
  have b37 : ((c.toNat : Int) == 37) = false := u8n c 37 (by omega) false (beq_eq_false_iff_ne.2 hc37)
  have b64 : ((c.toNat : Int) == 64) = true := u8n c 64 (by omega) true (by rw [hc64]; rfl)
  have hc92 : ¬ c = 92 := by rw [hc64]; decide
  have b92 : ((c.toNat : Int) == 92) = false := u8n c 92 (by omega) false (beq_eq_false_iff_ne.2 hc92)
  have k0 : decide (0 < K) = false := decide_eq_false (by omega)
  clear ht hK0
  have nL : (1 : Int) < l.length := by omega
  have q1 : (((B l).extract 0 2).toList == [60, 60]) = false := by rw [ext_take]; simpa using h60
  have q2 : (((B l).extract 0 2).toList == [62, 62]) = false := by rw [ext_take]; simpa using h62
  clear h60 h62
  have C5 := Lib.hid (fun w => (show Calls Tryz.prog 36 #[.int .u8 c.toNat, .string (B (markN))] w fun e w' => e = .returned (.bool false) ∧ w = w' from by have h := in_any c (markN) w (by decide); rw [h_C5] at h; exact h))
  clear hc64
  clear hc hr
  go_enter Tryz.func37, Tryz.ntmps37
  go_wp2_with fail
  refine (C1.out _).mono ?_
  rintro e w2 ⟨rfl, rfl⟩
  go_wp2_with fail
  refine (C2.out _).mono ?_
  rintro e w2 ⟨rfl, rfl⟩
  go_wp2_with fail
  refine (CW.out _).mono ?_
  rintro e w2 ⟨rfl, rfl⟩
  go_wp2_with fail
  refine (C5.out _).mono ?_
  rintro e w2 ⟨rfl, rfl⟩
  go_wp2
  refine bodyPost_ret (v := .tuple #[.agg #[.int .i64 0, .int .i64 0, .int .i64 0, .string (B []), .int .u32 0, .int .i64 0], .int .i64 0, .int .i64 2]) (by simp [results, Tryz.results37, go_sem]) rfl ⟨ret_tok (by rw [HV.out]; rfl) (by rw [HV.out]; rfl) (by rw [HV.out]; rfl), ?_⟩
  repeat (with_reducible first | exact Nx.refl _ | assumption | exact HNQ.out | refine Nx.setCell ?_ (Nat.le_refl _) _ | refine Nx.alloc ?_ _)

set_option maxHeartbeats 2000000 in
set_option maxRecDepth 100000 in
theorem token_own64_bad_long (l r : List UInt8) (c : UInt8) (K : Nat) (t : List UInt8) (w : World) (h1 : 1 ≤ l.length) (hl : l.length ≤ 1000000) (hc : l.getD 0 0 = c) (hr : l.drop 1 = r) (h_C1 : (letN ++ [46]).contains c = false) (h_C2 : digN.contains c = false) (hc39 : ¬ c = 39) (hc34 : ¬ c = 34) (hK : whileN (letN ++ digN) r = K) (ht : r.take K = t) (hc64 : c = 64) (x : UInt8) (hx : r[0]? = some x) (hKp : 0 < K) (h_C4 : letN.contains x = false) (hlen : 1 < l.length) (h60 : ¬ l.take 2 = [60, 60]) (h62 : ¬ l.take 2 = [62, 62]) (h_C5 : markN.contains c = false) :
    Calls Tryz.prog 37 #[.string (B l)] w (RetTok (tokR l) w) := by
  have HV := Lib.hid (show tokR l = (tok0, 0, 2) from by unfold tokR; rw [hc, hr, if_neg (by rw [h_C1]; simp), if_neg (by rw [h_C2]; simp), if_neg hc39, if_neg hc34, hK, ht, if_neg (fun h => absurd h.1 (by rw [hc64]; decide)), if_neg (fun h => by have := h.2.2; rw [List.getD_eq_getElem?_getD, hx] at this; rw [show (some x).getD 0 = x from rfl, h_C4] at this; exact absurd this (by simp)), if_neg (fun h => h.elim h60 h62), if_neg (by rw [h_C5]; simp)])
  generalize tokR l = V at *
  obtain ⟨p0, e0⟩ := byte_at l 0 c (by rw [getD_0 l h1, hc])
  have n0 : (0 : Int) < l.length := by omega
  have n1 : (1 : Int) ≤ l.length := by omega
  have er : (B l).extract 1 l.length = B r := by rw [← hr]; exact ext_drop l 1 h1
  have hrl : r.length + 1 = l.length := by rw [← hr, List.length_drop]; omega
  have C1 := Lib.hid (fun w => (show Calls Tryz.prog 36 #[.int .u8 c.toNat, .string (B (letN ++ [46]))] w fun e w' => e = .returned (.bool false) ∧ w = w' from by have h := in_any c (letN ++ [46]) w (by decide); rw [h_C1] at h; exact h))
  have C2 := Lib.hid (fun w => (show Calls Tryz.prog 36 #[.int .u8 c.toNat, .string (B (digN))] w fun e w' => e = .returned (.bool false) ∧ w = w' from by have h := in_any c (digN) w (by decide); rw [h_C2] at h; exact h))
  have b39 : ((c.toNat : Int) == 39) = false := u8n c 39 (by omega) false (beq_eq_false_iff_ne.2 hc39)
  have b34 : ((c.toNat : Int) == 34) = false := u8n c 34 (by omega) false (beq_eq_false_iff_ne.2 hc34)
  have CW := Lib.hid (fun w => (show Calls Tryz.prog 57 #[.string (B r), .string (B (letN ++ digN))] w fun e w' => e = .returned (.int .i64 (K : Nat)) ∧ w = w' from by have h := while_any r (letN ++ digN) w (by omega) (by decide); rw [hK] at h; exact h))
  have hKl : K ≤ r.length := by rw [← hK]; exact whileN_le (letN ++ digN) r
  have ek : (B r).extract 0 K = B t := by rw [← ht]; exact ext_take0 r K
  have hc37 : ¬ c = 37 := by rw [hc64]; decide
  have b37 : ((c.toNat : Int) == 37) = false := u8n c 37 (by omega) false (beq_eq_false_iff_ne.2 hc37)
  have b64 : ((c.toNat : Int) == 64) = true := u8n c 64 (by omega) true (by rw [hc64]; rfl)
  have hc92 : ¬ c = 92 := by rw [hc64]; decide
  have b92 : ((c.toNat : Int) == 92) = false := u8n c 92 (by omega) false (beq_eq_false_iff_ne.2 hc92)
  have C4 := Lib.hid (fun w => (show Calls Tryz.prog 36 #[.int .u8 x.toNat, .string (B (letN))] w fun e w' => e = .returned (.bool false) ∧ w = w' from by have h := in_any x (letN) w (by decide); rw [h_C4] at h; exact h))
  obtain ⟨p1, e1⟩ := byte_at r 0 x hx
  have hr0 : (0 : Int) < r.length := by have := (List.getElem?_eq_some_iff.1 hx).1; omega
  have k0 : (0 : Int) < (K : Int) := by omega
  clear hx ht
  have nL : (1 : Int) < l.length := by omega
  have q1 : (((B l).extract 0 2).toList == [60, 60]) = false := by rw [ext_take]; simpa using h60
  have q2 : (((B l).extract 0 2).toList == [62, 62]) = false := by rw [ext_take]; simpa using h62
  clear h60 h62
  have C5 := Lib.hid (fun w => (show Calls Tryz.prog 36 #[.int .u8 c.toNat, .string (B (markN))] w fun e w' => e = .returned (.bool false) ∧ w = w' from by have h := in_any c (markN) w (by decide); rw [h_C5] at h; exact h))
  clear hc64
  clear hc hr
  go_enter Tryz.func37, Tryz.ntmps37
  go_wp2_with fail
  refine (C1.out _).mono ?_
  rintro e w2 ⟨rfl, rfl⟩
  go_wp2_with fail
  refine (C2.out _).mono ?_
  rintro e w2 ⟨rfl, rfl⟩
  go_wp2_with fail
  refine (CW.out _).mono ?_
  rintro e w2 ⟨rfl, rfl⟩
  go_wp2_with fail
  refine (C4.out _).mono ?_
  rintro e w2 ⟨rfl, rfl⟩
  go_wp2_with fail
  refine (C5.out _).mono ?_
  rintro e w2 ⟨rfl, rfl⟩
  go_wp2
  refine bodyPost_ret (v := .tuple #[.agg #[.int .i64 0, .int .i64 0, .int .i64 0, .string (B []), .int .u32 0, .int .i64 0], .int .i64 0, .int .i64 2]) (by simp [results, Tryz.results37, go_sem]) rfl ⟨ret_tok (by rw [HV.out]; rfl) (by rw [HV.out]; rfl) (by rw [HV.out]; rfl), ?_⟩
  repeat (with_reducible first | exact Nx.refl _ | assumption | exact HNQ.out | refine Nx.setCell ?_ (Nat.le_refl _) _ | refine Nx.alloc ?_ _)

set_option maxHeartbeats 2000000 in
set_option maxRecDepth 100000 in
theorem token_own92_no_long (l r : List UInt8) (c : UInt8) (K : Nat) (t : List UInt8) (w : World) (h1 : 1 ≤ l.length) (hl : l.length ≤ 1000000) (hc : l.getD 0 0 = c) (hr : l.drop 1 = r) (h_C1 : (letN ++ [46]).contains c = false) (h_C2 : digN.contains c = false) (hc39 : ¬ c = 39) (hc34 : ¬ c = 34) (hK : whileN (letN ++ digN) r = K) (ht : r.take K = t) (hc92 : c = 92) (hK0 : K = 0) (hlen : 1 < l.length) (h60 : ¬ l.take 2 = [60, 60]) (h62 : ¬ l.take 2 = [62, 62]) (h_C5 : markN.contains c = false) :
    Calls Tryz.prog 37 #[.string (B l)] w (RetTok (tokR l) w) := by
  have HV := Lib.hid (show tokR l = (tok0, 0, 2) from by unfold tokR; rw [hc, hr, if_neg (by rw [h_C1]; simp), if_neg (by rw [h_C2]; simp), if_neg hc39, if_neg hc34, hK, ht, if_neg (fun h => absurd h.1 (by rw [hc92]; decide)), if_neg (fun h => absurd h.2.1 (by omega)), if_neg (fun h => h.elim h60 h62), if_neg (by rw [h_C5]; simp)])
  generalize tokR l = V at *
  obtain ⟨p0, e0⟩ := byte_at l 0 c (by rw [getD_0 l h1, hc])
  have n0 : (0 : Int) < l.length := by omega
  have n1 : (1 : Int) ≤ l.length := by omega
  have er : (B l).extract 1 l.length = B r := by rw [← hr]; exact ext_drop l 1 h1
  have hrl : r.length + 1 = l.length := by rw [← hr, List.length_drop]; omega
  have C1 := Lib.hid (fun w => (show Calls Tryz.prog 36 #[.int .u8 c.toNat, .string (B (letN ++ [46]))] w fun e w' => e = .returned (.bool false) ∧ w = w' from by have h := in_any c (letN ++ [46]) w (by decide); rw [h_C1] at h; exact h))
  have C2 := Lib.hid (fun w => (show Calls Tryz.prog 36 #[.int .u8 c.toNat, .string (B (digN))] w fun e w' => e = .returned (.bool false) ∧ w = w' from by have h := in_any c (digN) w (by decide); rw [h_C2] at h; exact h))
  have b39 : ((c.toNat : Int) == 39) = false := u8n c 39 (by omega) false (beq_eq_false_iff_ne.2 hc39)
  have b34 : ((c.toNat : Int) == 34) = false := u8n c 34 (by omega) false (beq_eq_false_iff_ne.2 hc34)
  have CW := Lib.hid (fun w => (show Calls Tryz.prog 57 #[.string (B r), .string (B (letN ++ digN))] w fun e w' => e = .returned (.int .i64 (K : Nat)) ∧ w = w' from by have h := while_any r (letN ++ digN) w (by omega) (by decide); rw [hK] at h; exact h))
  have hKl : K ≤ r.length := by rw [← hK]; exact whileN_le (letN ++ digN) r
  have ek : (B r).extract 0 K = B t := by rw [← ht]; exact ext_take0 r K
  have hc37 : ¬ c = 37 := by rw [hc92]; decide
  have b37 : ((c.toNat : Int) == 37) = false := u8n c 37 (by omega) false (beq_eq_false_iff_ne.2 hc37)
  have b92 : ((c.toNat : Int) == 92) = true := u8n c 92 (by omega) true (by rw [hc92]; rfl)
  have hc64 : ¬ c = 64 := by rw [hc92]; decide
  have b64 : ((c.toNat : Int) == 64) = false := u8n c 64 (by omega) false (beq_eq_false_iff_ne.2 hc64)
  have k0 : decide (0 < K) = false := decide_eq_false (by omega)
  clear ht hK0
  have nL : (1 : Int) < l.length := by omega
  have q1 : (((B l).extract 0 2).toList == [60, 60]) = false := by rw [ext_take]; simpa using h60
  have q2 : (((B l).extract 0 2).toList == [62, 62]) = false := by rw [ext_take]; simpa using h62
  clear h60 h62
  have C5 := Lib.hid (fun w => (show Calls Tryz.prog 36 #[.int .u8 c.toNat, .string (B (markN))] w fun e w' => e = .returned (.bool false) ∧ w = w' from by have h := in_any c (markN) w (by decide); rw [h_C5] at h; exact h))
  clear hc92
  clear hc hr
  go_enter Tryz.func37, Tryz.ntmps37
  go_wp2_with fail
  refine (C1.out _).mono ?_
  rintro e w2 ⟨rfl, rfl⟩
  go_wp2_with fail
  refine (C2.out _).mono ?_
  rintro e w2 ⟨rfl, rfl⟩
  go_wp2_with fail
  refine (CW.out _).mono ?_
  rintro e w2 ⟨rfl, rfl⟩
  go_wp2_with fail
  refine (C5.out _).mono ?_
  rintro e w2 ⟨rfl, rfl⟩
  go_wp2
  refine bodyPost_ret (v := .tuple #[.agg #[.int .i64 0, .int .i64 0, .int .i64 0, .string (B []), .int .u32 0, .int .i64 0], .int .i64 0, .int .i64 2]) (by simp [results, Tryz.results37, go_sem]) rfl ⟨ret_tok (by rw [HV.out]; rfl) (by rw [HV.out]; rfl) (by rw [HV.out]; rfl), ?_⟩
  repeat (with_reducible first | exact Nx.refl _ | assumption | exact HNQ.out | refine Nx.setCell ?_ (Nat.le_refl _) _ | refine Nx.alloc ?_ _)

set_option maxHeartbeats 2000000 in
set_option maxRecDepth 100000 in
theorem token_own92_bad_long (l r : List UInt8) (c : UInt8) (K : Nat) (t : List UInt8) (w : World) (h1 : 1 ≤ l.length) (hl : l.length ≤ 1000000) (hc : l.getD 0 0 = c) (hr : l.drop 1 = r) (h_C1 : (letN ++ [46]).contains c = false) (h_C2 : digN.contains c = false) (hc39 : ¬ c = 39) (hc34 : ¬ c = 34) (hK : whileN (letN ++ digN) r = K) (ht : r.take K = t) (hc92 : c = 92) (x : UInt8) (hx : r[0]? = some x) (hKp : 0 < K) (h_C4 : letN.contains x = false) (hlen : 1 < l.length) (h60 : ¬ l.take 2 = [60, 60]) (h62 : ¬ l.take 2 = [62, 62]) (h_C5 : markN.contains c = false) :
    Calls Tryz.prog 37 #[.string (B l)] w (RetTok (tokR l) w) := by
  have HV := Lib.hid (show tokR l = (tok0, 0, 2) from by unfold tokR; rw [hc, hr, if_neg (by rw [h_C1]; simp), if_neg (by rw [h_C2]; simp), if_neg hc39, if_neg hc34, hK, ht, if_neg (fun h => absurd h.1 (by rw [hc92]; decide)), if_neg (fun h => by have := h.2.2; rw [List.getD_eq_getElem?_getD, hx] at this; rw [show (some x).getD 0 = x from rfl, h_C4] at this; exact absurd this (by simp)), if_neg (fun h => h.elim h60 h62), if_neg (by rw [h_C5]; simp)])
  generalize tokR l = V at *
  obtain ⟨p0, e0⟩ := byte_at l 0 c (by rw [getD_0 l h1, hc])
  have n0 : (0 : Int) < l.length := by omega
  have n1 : (1 : Int) ≤ l.length := by omega
  have er : (B l).extract 1 l.length = B r := by rw [← hr]; exact ext_drop l 1 h1
  have hrl : r.length + 1 = l.length := by rw [← hr, List.length_drop]; omega
  have C1 := Lib.hid (fun w => (show Calls Tryz.prog 36 #[.int .u8 c.toNat, .string (B (letN ++ [46]))] w fun e w' => e = .returned (.bool false) ∧ w = w' from by have h := in_any c (letN ++ [46]) w (by decide); rw [h_C1] at h; exact h))
  have C2 := Lib.hid (fun w => (show Calls Tryz.prog 36 #[.int .u8 c.toNat, .string (B (digN))] w fun e w' => e = .returned (.bool false) ∧ w = w' from by have h := in_any c (digN) w (by decide); rw [h_C2] at h; exact h))
  have b39 : ((c.toNat : Int) == 39) = false := u8n c 39 (by omega) false (beq_eq_false_iff_ne.2 hc39)
  have b34 : ((c.toNat : Int) == 34) = false := u8n c 34 (by omega) false (beq_eq_false_iff_ne.2 hc34)
  have CW := Lib.hid (fun w => (show Calls Tryz.prog 57 #[.string (B r), .string (B (letN ++ digN))] w fun e w' => e = .returned (.int .i64 (K : Nat)) ∧ w = w' from by have h := while_any r (letN ++ digN) w (by omega) (by decide); rw [hK] at h; exact h))
  have hKl : K ≤ r.length := by rw [← hK]; exact whileN_le (letN ++ digN) r
  have ek : (B r).extract 0 K = B t := by rw [← ht]; exact ext_take0 r K
  have hc37 : ¬ c = 37 := by rw [hc92]; decide
  have b37 : ((c.toNat : Int) == 37) = false := u8n c 37 (by omega) false (beq_eq_false_iff_ne.2 hc37)
  have b92 : ((c.toNat : Int) == 92) = true := u8n c 92 (by omega) true (by rw [hc92]; rfl)
  have hc64 : ¬ c = 64 := by rw [hc92]; decide
  have b64 : ((c.toNat : Int) == 64) = false := u8n c 64 (by omega) false (beq_eq_false_iff_ne.2 hc64)
  have C4 := Lib.hid (fun w => (show Calls Tryz.prog 36 #[.int .u8 x.toNat, .string (B (letN))] w fun e w' => e = .returned (.bool false) ∧ w = w' from by have h := in_any x (letN) w (by decide); rw [h_C4] at h; exact h))
  obtain ⟨p1, e1⟩ := byte_at r 0 x hx
  have hr0 : (0 : Int) < r.length := by have := (List.getElem?_eq_some_iff.1 hx).1; omega
  have k0 : (0 : Int) < (K : Int) := by omega
  clear hx ht
  have nL : (1 : Int) < l.length := by omega
  have q1 : (((B l).extract 0 2).toList == [60, 60]) = false := by rw [ext_take]; simpa using h60
  have q2 : (((B l).extract 0 2).toList == [62, 62]) = false := by rw [ext_take]; simpa using h62
  clear h60 h62
  have C5 := Lib.hid (fun w => (show Calls Tryz.prog 36 #[.int .u8 c.toNat, .string (B (markN))] w fun e w' => e = .returned (.bool false) ∧ w = w' from by have h := in_any c (markN) w (by decide); rw [h_C5] at h; exact h))
  clear hc92
  clear hc hr
  go_enter Tryz.func37, Tryz.ntmps37
  go_wp2_with fail
  refine (C1.out _).mono ?_
  rintro e w2 ⟨rfl, rfl⟩
  go_wp2_with fail
  refine (C2.out _).mono ?_
  rintro e w2 ⟨rfl, rfl⟩
  go_wp2_with fail
  refine (CW.out _).mono ?_
  rintro e w2 ⟨rfl, rfl⟩
  go_wp2_with fail
  refine (C4.out _).mono ?_
  rintro e w2 ⟨rfl, rfl⟩
  go_wp2_with fail
  refine (C5.out _).mono ?_
  rintro e w2 ⟨rfl, rfl⟩
  go_wp2
  refine bodyPost_ret (v := .tuple #[.agg #[.int .i64 0, .int .i64 0, .int .i64 0, .string (B []), .int .u32 0, .int .i64 0], .int .i64 0, .int .i64 2]) (by simp [results, Tryz.results37, go_sem]) rfl ⟨ret_tok (by rw [HV.out]; rfl) (by rw [HV.out]; rfl) (by rw [HV.out]; rfl), ?_⟩
  repeat (with_reducible first | exact Nx.refl _ | assumption | exact HNQ.out | refine Nx.setCell ?_ (Nat.le_refl _) _ | refine Nx.alloc ?_ _)

set_option maxHeartbeats 2000000 in
set_option maxRecDepth 100000 in
theorem token_oth_two_lt (l r : List UInt8) (c : UInt8) (K : Nat) (t : List UInt8) (w : World) (h1 : 1 ≤ l.length) (hl : l.length ≤ 1000000) (hc : l.getD 0 0 = c) (hr : l.drop 1 = r) (h_C1 : (letN ++ [46]).contains c = false) (h_C2 : digN.contains c = false) (hc39 : ¬ c = 39) (hc34 : ¬ c = 34) (hK : whileN (letN ++ digN) r = K) (ht : r.take K = t) (hc37 : ¬ c = 37) (hc64 : ¬ c = 64) (hc92 : ¬ c = 92) (h2 : l.take 2 = [60, 60]) :
    Calls Tryz.prog 37 #[.string (B l)] w (RetTok (tokR l) w) := by
  have HV := Lib.hid (show tokR l = (tokN 7 (l.take 2), 2, 0) from by unfold tokR; rw [hc, hr, if_neg (by rw [h_C1]; simp), if_neg (by rw [h_C2]; simp), if_neg hc39, if_neg hc34, hK, ht, if_neg (fun h => hc37 h.1), if_neg (fun h => h.1.elim hc64 hc92), if_pos (Or.inl h2)])
  generalize tokR l = V at *
  obtain ⟨p0, e0⟩ := byte_at l 0 c (by rw [getD_0 l h1, hc])
  have n0 : (0 : Int) < l.length := by omega
  have n1 : (1 : Int) ≤ l.length := by omega
  have er : (B l).extract 1 l.length = B r := by rw [← hr]; exact ext_drop l 1 h1
  have hrl : r.length + 1 = l.length := by rw [← hr, List.length_drop]; omega
  have C1 := Lib.hid (fun w => (show Calls Tryz.prog 36 #[.int .u8 c.toNat, .string (B (letN ++ [46]))] w fun e w' => e = .returned (.bool false) ∧ w = w' from by have h := in_any c (letN ++ [46]) w (by decide); rw [h_C1] at h; exact h))
  have C2 := Lib.hid (fun w => (show Calls Tryz.prog 36 #[.int .u8 c.toNat, .string (B (digN))] w fun e w' => e = .returned (.bool false) ∧ w = w' from by have h := in_any c (digN) w (by decide); rw [h_C2] at h; exact h))
  have b39 : ((c.toNat : Int) == 39) = false := u8n c 39 (by omega) false (beq_eq_false_iff_ne.2 hc39)
  have b34 : ((c.toNat : Int) == 34) = false := u8n c 34 (by omega) false (beq_eq_false_iff_ne.2 hc34)
  have CW := Lib.hid (fun w => (show Calls Tryz.prog 57 #[.string (B r), .string (B (letN ++ digN))] w fun e w' => e = .returned (.int .i64 (K : Nat)) ∧ w = w' from by have h := while_any r (letN ++ digN) w (by omega) (by decide); rw [hK] at h; exact h))
  have hKl : K ≤ r.length := by rw [← hK]; exact whileN_le (letN ++ digN) r
  have ek : (B r).extract 0 K = B t := by rw [← ht]; exact ext_take0 r K
  have b37 : ((c.toNat : Int) == 37) = false := u8n c 37 (by omega) false (beq_eq_false_iff_ne.2 hc37)
  have b64 : ((c.toNat : Int) == 64) = false := u8n c 64 (by omega) false (beq_eq_false_iff_ne.2 hc64)
  have b92 : ((c.toNat : Int) == 92) = false := u8n c 92 (by omega) false (beq_eq_false_iff_ne.2 hc92)
  clear ht
  have hlen : 1 < l.length := by have := congrArg List.length h2; simp at this; omega
  have nL : (1 : Int) < l.length := by omega
  have q1 : (((B l).extract 0 2).toList == [60, 60]) = true := by rw [ext_take, h2]; rfl
  clear h2
  clear hc hr
  go_enter Tryz.func37, Tryz.ntmps37
  go_wp2_with fail
  refine (C1.out _).mono ?_
  rintro e w2 ⟨rfl, rfl⟩
  go_wp2_with fail
  refine (C2.out _).mono ?_
  rintro e w2 ⟨rfl, rfl⟩
  go_wp2_with fail
  refine (CW.out _).mono ?_
  rintro e w2 ⟨rfl, rfl⟩
  go_wp2
  refine bodyPost_ret (v := .tuple #[.agg #[.int .i64 7, .int .i64 0, .int .i64 0, .string ((B l).extract 0 2), .int .u32 0, .int .i64 0], .int .i64 2, .int .i64 0]) (by simp [results, Tryz.results37, go_sem]) rfl ⟨ret_tok (by rw [HV.out, ext_take0]; rfl) (by rw [HV.out]; rfl) (by rw [HV.out]; rfl), ?_⟩
  repeat (with_reducible first | exact Nx.refl _ | assumption | exact HNQ.out | refine Nx.setCell ?_ (Nat.le_refl _) _ | refine Nx.alloc ?_ _)

set_option maxHeartbeats 2000000 in
set_option maxRecDepth 100000 in
theorem token_oth_two_gt (l r : List UInt8) (c : UInt8) (K : Nat) (t : List UInt8) (w : World) (h1 : 1 ≤ l.length) (hl : l.length ≤ 1000000) (hc : l.getD 0 0 = c) (hr : l.drop 1 = r) (h_C1 : (letN ++ [46]).contains c = false) (h_C2 : digN.contains c = false) (hc39 : ¬ c = 39) (hc34 : ¬ c = 34) (hK : whileN (letN ++ digN) r = K) (ht : r.take K = t) (hc37 : ¬ c = 37) (hc64 : ¬ c = 64) (hc92 : ¬ c = 92) (h2 : l.take 2 = [62, 62]) :
    Calls Tryz.prog 37 #[.string (B l)] w (RetTok (tokR l) w) := by
  have HV := Lib.hid (show tokR l = (tokN 7 (l.take 2), 2, 0) from by unfold tokR; rw [hc, hr, if_neg (by rw [h_C1]; simp), if_neg (by rw [h_C2]; simp), if_neg hc39, if_neg hc34, hK, ht, if_neg (fun h => hc37 h.1), if_neg (fun h => h.1.elim hc64 hc92), if_pos (Or.inr h2)])
  generalize tokR l = V at *
  obtain ⟨p0, e0⟩ := byte_at l 0 c (by rw [getD_0 l h1, hc])
  have n0 : (0 : Int) < l.length := by omega
  have n1 : (1 : Int) ≤ l.length := by omega
  have er : (B l).extract 1 l.length = B r := by rw [← hr]; exact ext_drop l 1 h1
  have hrl : r.length + 1 = l.length := by rw [← hr, List.length_drop]; omega
  have C1 := Lib.hid (fun w => (show Calls Tryz.prog 36 #[.int .u8 c.toNat, .string (B (letN ++ [46]))] w fun e w' => e = .returned (.bool false) ∧ w = w' from by have h := in_any c (letN ++ [46]) w (by decide); rw [h_C1] at h; exact h))
  have C2 := Lib.hid (fun w => (show Calls Tryz.prog 36 #[.int .u8 c.toNat, .string (B (digN))] w fun e w' => e = .returned (.bool false) ∧ w = w' from by have h := in_any c (digN) w (by decide); rw [h_C2] at h; exact h))
  have b39 : ((c.toNat : Int) == 39) = false := u8n c 39 (by omega) false (beq_eq_false_iff_ne.2 hc39)
  have b34 : ((c.toNat : Int) == 34) = false := u8n c 34 (by omega) false (beq_eq_false_iff_ne.2 hc34)
  have CW := Lib.hid (fun w => (show Calls Tryz.prog 57 #[.string (B r), .string (B (letN ++ digN))] w fun e w' => e = .returned (.int .i64 (K : Nat)) ∧ w = w' from by have h := while_any r (letN ++ digN) w (by omega) (by decide); rw [hK] at h; exact h))
  have hKl : K ≤ r.length := by rw [← hK]; exact whileN_le (letN ++ digN) r
  have ek : (B r).extract 0 K = B t := by rw [← ht]; exact ext_take0 r K
  have b37 : ((c.toNat : Int) == 37) = false := u8n c 37 (by omega) false (beq_eq_false_iff_ne.2 hc37)
  have b64 : ((c.toNat : Int) == 64) = false := u8n c 64 (by omega) false (beq_eq_false_iff_ne.2 hc64)
  have b92 : ((c.toNat : Int) == 92) = false := u8n c 92 (by omega) false (beq_eq_false_iff_ne.2 hc92)
  clear ht
  have hlen : 1 < l.length := by have := congrArg List.length h2; simp at this; omega
  have nL : (1 : Int) < l.length := by omega
  have q1 : (((B l).extract 0 2).toList == [60, 60]) = false := by rw [ext_take, h2]; rfl
  have q2 : (((B l).extract 0 2).toList == [62, 62]) = true := by rw [ext_take, h2]; rfl
  clear h2
  clear hc hr
  go_enter Tryz.func37, Tryz.ntmps37
  go_wp2_with fail
  refine (C1.out _).mono ?_
  rintro e w2 ⟨rfl, rfl⟩
  go_wp2_with fail
  refine (C2.out _).mono ?_
  rintro e w2 ⟨rfl, rfl⟩
  go_wp2_with fail
  refine (CW.out _).mono ?_
  rintro e w2 ⟨rfl, rfl⟩
  go_wp2
  refine bodyPost_ret (v := .tuple #[.agg #[.int .i64 7, .int .i64 0, .int .i64 0, .string ((B l).extract 0 2), .int .u32 0, .int .i64 0], .int .i64 2, .int .i64 0]) (by simp [results, Tryz.results37, go_sem]) rfl ⟨ret_tok (by rw [HV.out, ext_take0]; rfl) (by rw [HV.out]; rfl) (by rw [HV.out]; rfl), ?_⟩
  repeat (with_reducible first | exact Nx.refl _ | assumption | exact HNQ.out | refine Nx.setCell ?_ (Nat.le_refl _) _ | refine Nx.alloc ?_ _)

set_option maxHeartbeats 2000000 in
set_option maxRecDepth 100000 in
theorem token_oth_mark_short (l r : List UInt8) (c : UInt8) (K : Nat) (t : List UInt8) (w : World) (h1 : 1 ≤ l.length) (hl : l.length ≤ 1000000) (hc : l.getD 0 0 = c) (hr : l.drop 1 = r) (h_C1 : (letN ++ [46]).contains c = false) (h_C2 : digN.contains c = false) (hc39 : ¬ c = 39) (hc34 : ¬ c = 34) (hK : whileN (letN ++ digN) r = K) (ht : r.take K = t) (hc37 : ¬ c = 37) (hc64 : ¬ c = 64) (hc92 : ¬ c = 92) (hlen : l.length ≤ 1) (h_C5 : markN.contains c = true) :
    Calls Tryz.prog 37 #[.string (B l)] w (RetTok (tokR l) w) := by
  have HV := Lib.hid (show tokR l = (tokN 7 (l.take 1), 1, 0) from by unfold tokR; rw [hc, hr, if_neg (by rw [h_C1]; simp), if_neg (by rw [h_C2]; simp), if_neg hc39, if_neg hc34, hK, ht, if_neg (fun h => hc37 h.1), if_neg (fun h => h.1.elim hc64 hc92), if_neg (fun h => h.elim (take2_short l 60 60 hlen) (take2_short l 62 62 hlen)), if_pos h_C5])
  generalize tokR l = V at *
  obtain ⟨p0, e0⟩ := byte_at l 0 c (by rw [getD_0 l h1, hc])
  have n0 : (0 : Int) < l.length := by omega
  have n1 : (1 : Int) ≤ l.length := by omega
  have er : (B l).extract 1 l.length = B r := by rw [← hr]; exact ext_drop l 1 h1
  have hrl : r.length + 1 = l.length := by rw [← hr, List.length_drop]; omega
  have C1 := Lib.hid (fun w => (show Calls Tryz.prog 36 #[.int .u8 c.toNat, .string (B (letN ++ [46]))] w fun e w' => e = .returned (.bool false) ∧ w = w' from by have h := in_any c (letN ++ [46]) w (by decide); rw [h_C1] at h; exact h))
  have C2 := Lib.hid (fun w => (show Calls Tryz.prog 36 #[.int .u8 c.toNat, .string (B (digN))] w fun e w' => e = .returned (.bool false) ∧ w = w' from by have h := in_any c (digN) w (by decide); rw [h_C2] at h; exact h))
  have b39 : ((c.toNat : Int) == 39) = false := u8n c 39 (by omega) false (beq_eq_false_iff_ne.2 hc39)
  have b34 : ((c.toNat : Int) == 34) = false := u8n c 34 (by omega) false (beq_eq_false_iff_ne.2 hc34)
  have CW := Lib.hid (fun w => (show Calls Tryz.prog 57 #[.string (B r), .string (B (letN ++ digN))] w fun e w' => e = .returned (.int .i64 (K : Nat)) ∧ w = w' from by have h := while_any r (letN ++ digN) w (by omega) (by decide); rw [hK] at h; exact h))
  have hKl : K ≤ r.length := by rw [← hK]; exact whileN_le (letN ++ digN) r
  have ek : (B r).extract 0 K = B t := by rw [← ht]; exact ext_take0 r K
  have b37 : ((c.toNat : Int) == 37) = false := u8n c 37 (by omega) false (beq_eq_false_iff_ne.2 hc37)
  have b64 : ((c.toNat : Int) == 64) = false := u8n c 64 (by omega) false (beq_eq_false_iff_ne.2 hc64)
  have b92 : ((c.toNat : Int) == 92) = false := u8n c 92 (by omega) false (beq_eq_false_iff_ne.2 hc92)
  clear ht
  have nL : decide ((1 : Int) < (l.length : Int)) = false := decide_eq_false (by omega)
  have C5 := Lib.hid (fun w => (show Calls Tryz.prog 36 #[.int .u8 c.toNat, .string (B (markN))] w fun e w' => e = .returned (.bool true) ∧ w = w' from by have h := in_any c (markN) w (by decide); rw [h_C5] at h; exact h))
  clear hc hr
  go_enter Tryz.func37, Tryz.ntmps37
  go_wp2_with fail
  refine (C1.out _).mono ?_
  rintro e w2 ⟨rfl, rfl⟩
  go_wp2_with fail
  refine (C2.out _).mono ?_
  rintro e w2 ⟨rfl, rfl⟩
  go_wp2_with fail
  refine (CW.out _).mono ?_
  rintro e w2 ⟨rfl, rfl⟩
  go_wp2_with fail
  refine (C5.out _).mono ?_
  rintro e w2 ⟨rfl, rfl⟩
  go_wp2
  refine bodyPost_ret (v := .tuple #[.agg #[.int .i64 7, .int .i64 0, .int .i64 0, .string ((B l).extract 0 1), .int .u32 0, .int .i64 0], .int .i64 1, .int .i64 0]) (by simp [results, Tryz.results37, go_sem]) rfl ⟨ret_tok (by rw [HV.out, ext_take0]; rfl) (by rw [HV.out]; rfl) (by rw [HV.out]; rfl), ?_⟩
  repeat (with_reducible first | exact Nx.refl _ | assumption | exact HNQ.out | refine Nx.setCell ?_ (Nat.le_refl _) _ | refine Nx.alloc ?_ _)

set_option maxHeartbeats 2000000 in
set_option maxRecDepth 100000 in
theorem token_oth_mark_long (l r : List UInt8) (c : UInt8) (K : Nat) (t : List UInt8) (w : World) (h1 : 1 ≤ l.length) (hl : l.length ≤ 1000000) (hc : l.getD 0 0 = c) (hr : l.drop 1 = r) (h_C1 : (letN ++ [46]).contains c = false) (h_C2 : digN.contains c = false) (hc39 : ¬ c = 39) (hc34 : ¬ c = 34) (hK : whileN (letN ++ digN) r = K) (ht : r.take K = t) (hc37 : ¬ c = 37) (hc64 : ¬ c = 64) (hc92 : ¬ c = 92) (hlen : 1 < l.length) (h60 : ¬ l.take 2 = [60, 60]) (h62 : ¬ l.take 2 = [62, 62]) (h_C5 : markN.contains c = true) :
    Calls Tryz.prog 37 #[.string (B l)] w (RetTok (tokR l) w) := by
  have HV := Lib.hid (show tokR l = (tokN 7 (l.take 1), 1, 0) from by unfold tokR; rw [hc, hr, if_neg (by rw [h_C1]; simp), if_neg (by rw [h_C2]; simp), if_neg hc39, if_neg hc34, hK, ht, if_neg (fun h => hc37 h.1), if_neg (fun h => h.1.elim hc64 hc92), if_neg (fun h => h.elim h60 h62), if_pos h_C5])
  generalize tokR l = V at *
  obtain ⟨p0, e0⟩ := byte_at l 0 c (by rw [getD_0 l h1, hc])
  have n0 : (0 : Int) < l.length := by omega
  have n1 : (1 : Int) ≤ l.length := by omega
  have er : (B l).extract 1 l.length = B r := by rw [← hr]; exact ext_drop l 1 h1
  have hrl : r.length + 1 = l.length := by rw [← hr, List.length_drop]; omega
  have C1 := Lib.hid (fun w => (show Calls Tryz.prog 36 #[.int .u8 c.toNat, .string (B (letN ++ [46]))] w fun e w' => e = .returned (.bool false) ∧ w = w' from by have h := in_any c (letN ++ [46]) w (by decide); rw [h_C1] at h; exact h))
  have C2 := Lib.hid (fun w => (show Calls Tryz.prog 36 #[.int .u8 c.toNat, .string (B (digN))] w fun e w' => e = .returned (.bool false) ∧ w = w' from by have h := in_any c (digN) w (by decide); rw [h_C2] at h; exact h))
  have b39 : ((c.toNat : Int) == 39) = false := u8n c 39 (by omega) false (beq_eq_false_iff_ne.2 hc39)
  have b34 : ((c.toNat : Int) == 34) = false := u8n c 34 (by omega) false (beq_eq_false_iff_ne.2 hc34)
  have CW := Lib.hid (fun w => (show Calls Tryz.prog 57 #[.string (B r), .string (B (letN ++ digN))] w fun e w' => e = .returned (.int .i64 (K : Nat)) ∧ w = w' from by have h := while_any r (letN ++ digN) w (by omega) (by decide); rw [hK] at h; exact h))
  have hKl : K ≤ r.length := by rw [← hK]; exact whileN_le (letN ++ digN) r
  have ek : (B r).extract 0 K = B t := by rw [← ht]; exact ext_take0 r K
  have b37 : ((c.toNat : Int) == 37) = false := u8n c 37 (by omega) false (beq_eq_false_iff_ne.2 hc37)
  have b64 : ((c.toNat : Int) == 64) = false := u8n c 64 (by omega) false (beq_eq_false_iff_ne.2 hc64)
  have b92 : ((c.toNat : Int) == 92) = false := u8n c 92 (by omega) false (beq_eq_false_iff_ne.2 hc92)
  clear ht
  have nL : (1 : Int) < l.length := by omega
  have q1 : (((B l).extract 0 2).toList == [60, 60]) = false := by rw [ext_take]; simpa using h60
  have q2 : (((B l).extract 0 2).toList == [62, 62]) = false := by rw [ext_take]; simpa using h62
  clear h60 h62
  have C5 := Lib.hid (fun w => (show Calls Tryz.prog 36 #[.int .u8 c.toNat, .string (B (markN))] w fun e w' => e = .returned (.bool true) ∧ w = w' from by have h := in_any c (markN) w (by decide); rw [h_C5] at h; exact h))
  clear hc hr
  go_enter Tryz.func37, Tryz.ntmps37
  go_wp2_with fail
  refine (C1.out _).mono ?_
  rintro e w2 ⟨rfl, rfl⟩
  go_wp2_with fail
  refine (C2.out _).mono ?_
  rintro e w2 ⟨rfl, rfl⟩
  go_wp2_with fail
  refine (CW.out _).mono ?_
  rintro e w2 ⟨rfl, rfl⟩
  go_wp2_with fail
  refine (C5.out _).mono ?_
  rintro e w2 ⟨rfl, rfl⟩
  go_wp2
  refine bodyPost_ret (v := .tuple #[.agg #[.int .i64 7, .int .i64 0, .int .i64 0, .string ((B l).extract 0 1), .int .u32 0, .int .i64 0], .int .i64 1, .int .i64 0]) (by simp [results, Tryz.results37, go_sem]) rfl ⟨ret_tok (by rw [HV.out, ext_take0]; rfl) (by rw [HV.out]; rfl) (by rw [HV.out]; rfl), ?_⟩
  repeat (with_reducible first | exact Nx.refl _ | assumption | exact HNQ.out | refine Nx.setCell ?_ (Nat.le_refl _) _ | refine Nx.alloc ?_ _)

set_option maxHeartbeats 2000000 in
set_option maxRecDepth 100000 in
theorem token_oth_none_short (l r : List UInt8) (c : UInt8) (K : Nat) (t : List UInt8) (w : World) (h1 : 1 ≤ l.length) (hl : l.length ≤ 1000000) (hc : l.getD 0 0 = c) (hr : l.drop 1 = r) (h_C1 : (letN ++ [46]).contains c = false) (h_C2 : digN.contains c = false) (hc39 : ¬ c = 39) (hc34 : ¬ c = 34) (hK : whileN (letN ++ digN) r = K) (ht : r.take K = t) (hc37 : ¬ c = 37) (hc64 : ¬ c = 64) (hc92 : ¬ c = 92) (hlen : l.length ≤ 1) (h_C5 : markN.contains c = false) :
    Calls Tryz.prog 37 #[.string (B l)] w (RetTok (tokR l) w) := by
  have HV := Lib.hid (show tokR l = (tok0, 0, 2) from by unfold tokR; rw [hc, hr, if_neg (by rw [h_C1]; simp), if_neg (by rw [h_C2]; simp), if_neg hc39, if_neg hc34, hK, ht, if_neg (fun h => hc37 h.1), if_neg (fun h => h.1.elim hc64 hc92), if_neg (fun h => h.elim (take2_short l 60 60 hlen) (take2_short l 62 62 hlen)), if_neg (by rw [h_C5]; simp)])
  generalize tokR l = V at *
  obtain ⟨p0, e0⟩ := byte_at l 0 c (by rw [getD_0 l h1, hc])
  have n0 : (0 : Int) < l.length := by omega
  have n1 : (1 : Int) ≤ l.length := by omega
  have er : (B l).extract 1 l.length = B r := by rw [← hr]; exact ext_drop l 1 h1
  have hrl : r.length + 1 = l.length := by rw [← hr, List.length_drop]; omega
  have C1 := Lib.hid (fun w => (show Calls Tryz.prog 36 #[.int .u8 c.toNat, .string (B (letN ++ [46]))] w fun e w' => e = .returned (.bool false) ∧ w = w' from by have h := in_any c (letN ++ [46]) w (by decide); rw [h_C1] at h; exact h))
  have C2 := Lib.hid (fun w => (show Calls Tryz.prog 36 #[.int .u8 c.toNat, .string (B (digN))] w fun e w' => e = .returned (.bool false) ∧ w = w' from by have h := in_any c (digN) w (by decide); rw [h_C2] at h; exact h))
  have b39 : ((c.toNat : Int) == 39) = false := u8n c 39 (by omega) false (beq_eq_false_iff_ne.2 hc39)
  have b34 : ((c.toNat : Int) == 34) = false := u8n c 34 (by omega) false (beq_eq_false_iff_ne.2 hc34)
  have CW := Lib.hid (fun w => (show Calls Tryz.prog 57 #[.string (B r), .string (B (letN ++ digN))] w fun e w' => e = .returned (.int .i64 (K : Nat)) ∧ w = w' from by have h := while_any r (letN ++ digN) w (by omega) (by decide); rw [hK] at h; exact h))
  have hKl : K ≤ r.length := by rw [← hK]; exact whileN_le (letN ++ digN) r
  have ek : (B r).extract 0 K = B t := by rw [← ht]; exact ext_take0 r K
  have b37 : ((c.toNat : Int) == 37) = false := u8n c 37 (by omega) false (beq_eq_false_iff_ne.2 hc37)
  have b64 : ((c.toNat : Int) == 64) = false := u8n c 64 (by omega) false (beq_eq_false_iff_ne.2 hc64)
  have b92 : ((c.toNat : Int) == 92) = false := u8n c 92 (by omega) false (beq_eq_false_iff_ne.2 hc92)
  clear ht
  have nL : decide ((1 : Int) < (l.length : Int)) = false := decide_eq_false (by omega)
  have C5 := Lib.hid (fun w => (show Calls Tryz.prog 36 #[.int .u8 c.toNat, .string (B (markN))] w fun e w' => e = .returned (.bool false) ∧ w = w' from by have h := in_any c (markN) w (by decide); rw [h_C5] at h; exact h))
  clear hc hr
  go_enter Tryz.func37, Tryz.ntmps37
  go_wp2_with fail
  refine (C1.out _).mono ?_
  rintro e w2 ⟨rfl, rfl⟩
  go_wp2_with fail
  refine (C2.out _).mono ?_
  rintro e w2 ⟨rfl, rfl⟩
  go_wp2_with fail
  refine (CW.out _).mono ?_
  rintro e w2 ⟨rfl, rfl⟩
  go_wp2_with fail
  refine (C5.out _).mono ?_
  rintro e w2 ⟨rfl, rfl⟩
  go_wp2
  refine bodyPost_ret (v := .tuple #[.agg #[.int .i64 0, .int .i64 0, .int .i64 0, .string (B []), .int .u32 0, .int .i64 0], .int .i64 0, .int .i64 2]) (by simp [results, Tryz.results37, go_sem]) rfl ⟨ret_tok (by rw [HV.out]; rfl) (by rw [HV.out]; rfl) (by rw [HV.out]; rfl), ?_⟩
  repeat (with_reducible first | exact Nx.refl _ | assumption | exact HNQ.out | refine Nx.setCell ?_ (Nat.le_refl _) _ | refine Nx.alloc ?_ _)

set_option maxHeartbeats 2000000 in
set_option maxRecDepth 100000 in
theorem token_oth_none_long (l r : List UInt8) (c : UInt8) (K : Nat) (t : List UInt8) (w : World) (h1 : 1 ≤ l.length) (hl : l.length ≤ 1000000) (hc : l.getD 0 0 = c) (hr : l.drop 1 = r) (h_C1 : (letN ++ [46]).contains c = false) (h_C2 : digN.contains c = false) (hc39 : ¬ c = 39) (hc34 : ¬ c = 34) (hK : whileN (letN ++ digN) r = K) (ht : r.take K = t) (hc37 : ¬ c = 37) (hc64 : ¬ c = 64) (hc92 : ¬ c = 92) (hlen : 1 < l.length) (h60 : ¬ l.take 2 = [60, 60]) (h62 : ¬ l.take 2 = [62, 62]) (h_C5 : markN.contains c = false) :
    Calls Tryz.prog 37 #[.string (B l)] w (RetTok (tokR l) w) := by
  have HV := Lib.hid (show tokR l = (tok0, 0, 2) from by unfold tokR; rw [hc, hr, if_neg (by rw [h_C1]; simp), if_neg (by rw [h_C2]; simp), if_neg hc39, if_neg hc34, hK, ht, if_neg (fun h => hc37 h.1), if_neg (fun h => h.1.elim hc64 hc92), if_neg (fun h => h.elim h60 h62), if_neg (by rw [h_C5]; simp)])
  generalize tokR l = V at *
  obtain ⟨p0, e0⟩ := byte_at l 0 c (by rw [getD_0 l h1, hc])
  have n0 : (0 : Int) < l.length := by omega
  have n1 : (1 : Int) ≤ l.length := by omega
  have er : (B l).extract 1 l.length = B r := by rw [← hr]; exact ext_drop l 1 h1
  have hrl : r.length + 1 = l.length := by rw [← hr, List.length_drop]; omega
  have C1 := Lib.hid (fun w => (show Calls Tryz.prog 36 #[.int .u8 c.toNat, .string (B (letN ++ [46]))] w fun e w' => e = .returned (.bool false) ∧ w = w' from by have h := in_any c (letN ++ [46]) w (by decide); rw [h_C1] at h; exact h))
  have C2 := Lib.hid (fun w => (show Calls Tryz.prog 36 #[.int .u8 c.toNat, .string (B (digN))] w fun e w' => e = .returned (.bool false) ∧ w = w' from by have h := in_any c (digN) w (by decide); rw [h_C2] at h; exact h))
  have b39 : ((c.toNat : Int) == 39) = false := u8n c 39 (by omega) false (beq_eq_false_iff_ne.2 hc39)
  have b34 : ((c.toNat : Int) == 34) = false := u8n c 34 (by omega) false (beq_eq_false_iff_ne.2 hc34)
  have CW := Lib.hid (fun w => (show Calls Tryz.prog 57 #[.string (B r), .string (B (letN ++ digN))] w fun e w' => e = .returned (.int .i64 (K : Nat)) ∧ w = w' from by have h := while_any r (letN ++ digN) w (by omega) (by decide); rw [hK] at h; exact h))
  have hKl : K ≤ r.length := by rw [← hK]; exact whileN_le (letN ++ digN) r
  have ek : (B r).extract 0 K = B t := by rw [← ht]; exact ext_take0 r K
  have b37 : ((c.toNat : Int) == 37) = false := u8n c 37 (by omega) false (beq_eq_false_iff_ne.2 hc37)
  have b64 : ((c.toNat : Int) == 64) = false := u8n c 64 (by omega) false (beq_eq_false_iff_ne.2 hc64)
  have b92 : ((c.toNat : Int) == 92) = false := u8n c 92 (by omega) false (beq_eq_false_iff_ne.2 hc92)
  clear ht
  have nL : (1 : Int) < l.length := by omega
  have q1 : (((B l).extract 0 2).toList == [60, 60]) = false := by rw [ext_take]; simpa using h60
  have q2 : (((B l).extract 0 2).toList == [62, 62]) = false := by rw [ext_take]; simpa using h62
  clear h60 h62
  have C5 := Lib.hid (fun w => (show Calls Tryz.prog 36 #[.int .u8 c.toNat, .string (B (markN))] w fun e w' => e = .returned (.bool false) ∧ w = w' from by have h := in_any c (markN) w (by decide); rw [h_C5] at h; exact h))
  clear hc hr
  go_enter Tryz.func37, Tryz.ntmps37
  go_wp2_with fail
  refine (C1.out _).mono ?_
  rintro e w2 ⟨rfl, rfl⟩
  go_wp2_with fail
  refine (C2.out _).mono ?_
  rintro e w2 ⟨rfl, rfl⟩
  go_wp2_with fail
  refine (CW.out _).mono ?_
  rintro e w2 ⟨rfl, rfl⟩
  go_wp2_with fail
  refine (C5.out _).mono ?_
  rintro e w2 ⟨rfl, rfl⟩
  go_wp2
  refine bodyPost_ret (v := .tuple #[.agg #[.int .i64 0, .int .i64 0, .int .i64 0, .string (B []), .int .u32 0, .int .i64 0], .int .i64 0, .int .i64 2]) (by simp [results, Tryz.results37, go_sem]) rfl ⟨ret_tok (by rw [HV.out]; rfl) (by rw [HV.out]; rfl) (by rw [HV.out]; rfl), ?_⟩
  repeat (with_reducible first | exact Nx.refl _ | assumption | exact HNQ.out | refine Nx.setCell ?_ (Nat.le_refl _) _ | refine Nx.alloc ?_ _)

theorem token_any (l : List UInt8) (w : World) (h1 : 1 ≤ l.length) (hl : l.length ≤ 1000000) : Calls Tryz.prog 37 #[.string (B l)] w (RetTok (tokR l) w) := by
  obtain ⟨c, hc⟩ : ∃ c, l.getD 0 0 = c := ⟨_, rfl⟩
  obtain ⟨r, hr⟩ : ∃ r, l.drop 1 = r := ⟨_, rfl⟩
  cases hC1 : (letN ++ [46]).contains c
  · cases hC2 : digN.contains c
    · by_cases hc39 : c = 39
      · by_cases q0 : (quoR 39 r).2 = 0
        · exact token_noa l r c 0 [] w h1 hl hc hr hC1 hC2 hc39 q0
        · by_cases q1 : r.length ≤ (quoR 39 r).2
          · exact token_nob l r c 0 [] w h1 hl hc hr hC1 hC2 hc39 (by omega) q1
          · obtain ⟨x, hx⟩ : ∃ x, r[(quoR 39 r).2]? = some x := ⟨_, List.getElem?_eq_getElem (by omega)⟩
            by_cases hx2 : x = 39
            · exact token_char l r c 0 [] w h1 hl hc hr hC1 hC2 hc39 ⟨by omega, by omega, by rw [List.getD_eq_getElem?_getD, hx]; exact hx2⟩
            · exact token_noc l r c 0 [] w h1 hl hc hr hC1 hC2 hc39 x (by omega) hx hx2
      · by_cases hc34 : c = 34
        · exact token_text l r c 0 [] w h1 hl hc hr hC1 hC2 hc39 hc34
        · obtain ⟨K, hK⟩ : ∃ K, whileN (letN ++ digN) r = K := ⟨_, rfl⟩
          obtain ⟨t, ht⟩ : ∃ t, r.take K = t := ⟨_, rfl⟩
          have hKl : K ≤ r.length := by rw [← hK]; exact whileN_le _ _
          have t2 : ∀ a b : UInt8, ¬ c = a → ¬ l.take 2 = [a, b] := fun a b hca h => hca (by rw [← hc]; exact take2_head l a b h)
          have nomark : c = 37 ∨ c = 64 ∨ c = 92 → markN.contains c = false ∧ ¬ c = 60 ∧ ¬ c = 62 := fun h => by rcases h with rfl | rfl | rfl <;> decide
          by_cases hc37 : c = 37
          · by_cases ta : t = [104, 105]
            · exact token_fn_hi l r c K t w h1 hl hc hr hC1 hC2 hc39 hc34 hK ht hc37 ta
            · by_cases tb : t = [108, 111]
              · exact token_fn_lo l r c K t w h1 hl hc hr hC1 hC2 hc39 hc34 hK ht hc37 tb
              · by_cases tc : t = [112, 99, 114, 101, 108]
                · exact token_fn_pc l r c K t w h1 hl hc hr hC1 hC2 hc39 hc34 hK ht hc37 tc
                · obtain ⟨m1, m2, m3⟩ := nomark (Or.inl hc37)
                  by_cases hlen : l.length ≤ 1
                  · exact token_pc_short l r c K t w h1 hl hc hr hC1 hC2 hc39 hc34 hK ht hc37 ta tb tc hlen m1
                  · exact token_pc_long l r c K t w h1 hl hc hr hC1 hC2 hc39 hc34 hK ht hc37 ta tb tc (by omega) (t2 60 60 m2) (t2 62 62 m3) m1
          · by_cases hc64 : c = 64
            · obtain ⟨m1, m2, m3⟩ := nomark (Or.inr (Or.inl hc64))
              by_cases hK0 : K = 0
              · by_cases hlen : l.length ≤ 1
                · exact token_own64_no_short l r c K t w h1 hl hc hr hC1 hC2 hc39 hc34 hK ht hc64 hK0 hlen m1
                · exact token_own64_no_long l r c K t w h1 hl hc hr hC1 hC2 hc39 hc34 hK ht hc64 hK0 (by omega) (t2 60 60 m2) (t2 62 62 m3) m1
              · obtain ⟨x, hx⟩ : ∃ x, r[0]? = some x := ⟨_, List.getElem?_eq_getElem (by omega)⟩
                cases h4 : letN.contains x
                · exact token_own64_bad_long l r c K t w h1 hl hc hr hC1 hC2 hc39 hc34 hK ht hc64 x hx (by omega) h4 (by rw [← hr, List.length_drop] at hKl; omega) (t2 60 60 m2) (t2 62 62 m3) m1
                · exact token_local l r c K t w h1 hl hc hr hC1 hC2 hc39 hc34 hK ht hc64 x hx (by omega) h4
            · by_cases hc92 : c = 92
              · obtain ⟨m1, m2, m3⟩ := nomark (Or.inr (Or.inr hc92))
                by_cases hK0 : K = 0
                · by_cases hlen : l.length ≤ 1
                  · exact token_own92_no_short l r c K t w h1 hl hc hr hC1 hC2 hc39 hc34 hK ht hc92 hK0 hlen m1
                  · exact token_own92_no_long l r c K t w h1 hl hc hr hC1 hC2 hc39 hc34 hK ht hc92 hK0 (by omega) (t2 60 60 m2) (t2 62 62 m3) m1
                · obtain ⟨x, hx⟩ : ∃ x, r[0]? = some x := ⟨_, List.getElem?_eq_getElem (by omega)⟩
                  cases h4 : letN.contains x
                  · exact token_own92_bad_long l r c K t w h1 hl hc hr hC1 hC2 hc39 hc34 hK ht hc92 x hx (by omega) h4 (by rw [← hr, List.length_drop] at hKl; omega) (t2 60 60 m2) (t2 62 62 m3) m1
                  · exact token_param l r c K t w h1 hl hc hr hC1 hC2 hc39 hc34 hK ht hc92 x hx (by omega) h4
              · by_cases h60 : l.take 2 = [60, 60]
                · exact token_oth_two_lt l r c K t w h1 hl hc hr hC1 hC2 hc39 hc34 hK ht hc37 hc64 hc92 h60
                · by_cases h62 : l.take 2 = [62, 62]
                  · exact token_oth_two_gt l r c K t w h1 hl hc hr hC1 hC2 hc39 hc34 hK ht hc37 hc64 hc92 h62
                  · cases hm : markN.contains c
                    · by_cases hlen : l.length ≤ 1
                      · exact token_oth_none_short l r c K t w h1 hl hc hr hC1 hC2 hc39 hc34 hK ht hc37 hc64 hc92 hlen hm
                      · exact token_oth_none_long l r c K t w h1 hl hc hr hC1 hC2 hc39 hc34 hK ht hc37 hc64 hc92 (by omega) h60 h62 hm
                    · by_cases hlen : l.length ≤ 1
                      · exact token_oth_mark_short l r c K t w h1 hl hc hr hC1 hC2 hc39 hc34 hK ht hc37 hc64 hc92 hlen hm
                      · exact token_oth_mark_long l r c K t w h1 hl hc hr hC1 hC2 hc39 hc34 hK ht hc37 hc64 hc92 (by omega) h60 h62 hm
    · exact token_number l r c 0 [] w h1 hl hc hr hC1 hC2
  · exact token_name l r c (whileN goN l) [] w h1 hl hc hr hC1 rfl

end Go.Proofs.YtdgmdkkockbkjaaGreatDoor

/- Contracts of typecaseref10: a line. -/
namespace Go.Proofs.YtdgmdkkockbkjaaGreatDoor
open Go.RowKit
set_option linter.unusedVariables false
set_option linter.unusedSimpArgs false

/-- Tokens' cells. -/
def toksC (ts : List Tok) : List Value := ts.flatMap tokC

theorem toksC_len (ts : List Tok) : (toksC ts).length = ts.length * 6 := by
  induction ts with
  | nil => rfl
  | cons t ts ih => show (tokC t ++ toksC ts).length = _; rw [List.length_append, ih]; simp [tokC]; omega

theorem toksC_snoc (ts : List Tok) (t : Tok) : toksC (ts ++ [t]) = toksC ts ++ tokC t := by unfold toksC; simp

theorem toksC_at (ts : List Tok) : ∀ (k : Nat) (t : Tok), ts[k]? = some t → ∀ j v, (tokC t)[j]? = some v → (toksC ts)[k * 6 + j]? = some v := by
  induction ts with
  | nil => intro k t h; cases h
  | cons a ts ih =>
    intro k t h j v hj
    show (tokC a ++ toksC ts)[k * 6 + j]? = some v
    cases k with
    | zero =>
      cases h
      rw [List.getElem?_append_left (by have := (List.getElem?_eq_some_iff.1 hj).1; omega), Nat.zero_mul, Nat.zero_add]
      exact hj
    | succ k =>
      rw [List.getElem?_append_right (by simp [tokC]; omega), show (k + 1) * 6 + j - (tokC a).length = k * 6 + j by simp [tokC]; omega]
      exact ih k t h j v hj

theorem own_toks {w : World} {base : Nat} {v : Value} {ts : List Tok} (h : OwnC w base 65 6 v ts.length (toksC ts)) : Toks w v ts := by
  rcases h.2 with ⟨hv, h0⟩ | ⟨g, cap, cur, hv, hb, hg, h1, h2, h3, h4⟩
  · exact Or.inl ⟨⟨none, by rw [hv]⟩, List.eq_nil_of_length_eq_zero h0⟩
  · refine Or.inr ⟨g, 0, cap, hv, h1, h2, fun k t hk j u hu => ?_⟩
    have := h.cells (g := g) (by rw [hv]; rfl) (k * 6 + j) u (toksC_at ts k t hk j u hu)
    rw [show 0 + k * 6 + j = k * 6 + j by omega]
    exact this

theorem own_fresh {w : World} {base m : Nat} {v : Value} {ts : List Tok} (hm : m ≤ base) (h : OwnC w base 65 6 v ts.length (toksC ts)) : Toks w v ts ∧ ∀ g, v.ownBlock = some g → m ≤ g ∧ g < w.heap.size :=
  ⟨own_toks h, fun g hg => ⟨Nat.le_trans hm (h.lt g hg).1, (h.lt g hg).2⟩⟩

/-- What comes of a line: tokens in new memory, or a place and a code. -/
def RetLine (r : LRes (List Tok)) (w : World) (e : Ending) (w' : World) : Prop :=
  ∃ v a b c, e = .returned (.tuple #[v, .agg #[.int .i64 a, .int .i64 b, .int .i64 c]]) ∧ Nx w w' ∧ ((∃ ts, r = .ok ts ∧ (Toks w' v ts ∧ ∀ g, v.ownBlock = some g → w.heap.size ≤ g ∧ g < w'.heap.size) ∧ a = 0 ∧ b = 0 ∧ c = 0) ∨ (r = .bad a b c ∧ v = .slice none 0 0 ∧ 0 < c))

theorem tok_info : (Tryz.prog.info? 65).map (fun i => (i.zero, i.size, i.bytes)) = some (some (.agg #[.int .i64 0, .int .i64 0, .int .i64 0, .string (B []), .int .u32 0, .int .i64 0]), 6, 56) := by kernel_rfl

theorem Has.keep_grown {w w' : World} {g : Nat} {o : Obj} {row : Option Nat} (h : Has w g o) (hg : w.grownBy w' row) (hr : row ≠ some g) : Has w' g o := (hg.block g h.lt (fun e => hr e.symm)).trans h

theorem own_set {w : World} {base : Nat} {e : TypeId} {size : Nat} {v : Value} {n : Nat} {xs : List Value} (h : OwnC w base e size v n xs) {p : Addr} (hp : p.block < base) (u : Value) : OwnC (w.setCell p u) base e size v n xs :=
  h.kept fun k hk hv => Below.heap_setCell w p u k (fun e => by have := (h.lt k hv).1; omega)

theorem tokR_code (s : List UInt8) (hs : 1 ≤ s.length) (h : (tokR s).2.1 = 0) : 0 < (tokR s).2.2 := by
  obtain ⟨c, l, rfl⟩ : ∃ c l, s = c :: l := by cases s with | nil => simp at hs | cons c l => exact ⟨c, l, rfl⟩
  revert h
  unfold tokR
  split
  · rename_i hc
    intro h
    exfalso
    have h1 : goN.contains c = true := by
      have h2 : (letN ++ [46]).contains c = true := hc
      have := byte_all (fun c => !(letN ++ [46]).contains c || goN.contains c) (by decide +kernel) c
      rw [h2] at this
      simpa using this
    have h3 : whileN goN (c :: l) = 0 := h
    unfold whileN at h3
    rw [if_pos h1] at h3
    omega
  · split
    · intro _; exact (by decide : 0 < 3)
    · split
      · split
        · intro h; exact absurd h (by show ¬ (quoR 39 _).2 + 2 = 0; omega)
        · intro _; exact (by decide : 0 < 3)
      · split
        · intro _; exact (by decide : 0 < 4)
        · split
          · intro h; exact absurd h (by show ¬ whileN _ _ + 1 = 0; omega)
          · split
            · intro h; exact absurd h (by show ¬ whileN _ _ + 1 = 0; omega)
            · split
              · intro h; exact absurd h (by show ¬ 2 = 0; omega)
              · split
                · intro h; exact absurd h (by show ¬ 1 = 0; omega)
                · intro _; exact (by decide : 0 < 2)

theorem six_at (w : World) (cs : List Value) (T : TypeId) : ∀ (j : Nat) (v : Value), cs[j]? = some v → (w.alloc (.cells cs.toArray T)).cell? ((⟨w.heap.size, 0, none⟩ : Addr).add j) = some v := by
  intro j v hj
  rw [show (⟨w.heap.size, 0, none⟩ : Addr).add j = ⟨w.heap.size, j, none⟩ by unfold Addr.add; split <;> simp_all]
  exact (Has.new w (.cells cs.toArray T)).cell j v (by simpa using hj)

/-- A fault's cells, none. -/
def rf0 : Obj := .cells #[.int .i64 0, .int .i64 0, .int .i64 0] 29

/-- What holds at a round's head. -/
def LineRel (n : Int) (l : List UInt8) (w wr : World) (V : LRes (List Tok)) (ov iv : Value) : Prop :=
  ∃ (i : Nat) (ts : List Tok), i ≤ l.length ∧ iv = .int .i64 i ∧ ts.length ≤ i ∧ OwnC wr (w.heap.size + 1) 65 6 ov ts.length (toksC ts) ∧ Has wr w.heap.size rf0 ∧ Nx w wr ∧ LRes.pre ts (lineT n i (l.drop i)) = V

theorem line_take (l : List UInt8) (i : Nat) (x : UInt8) (hx : l[i]? = some x) : (l.drop i).getD 0 0 = x := by
  rw [List.getD_eq_getElem?_getD, List.getElem?_drop, Nat.add_zero, hx]; rfl

set_option maxHeartbeats 4000000 in
set_option maxRecDepth 100000 in
theorem line_any (l : List UInt8) (n : Int) (w : World) (hl : l.length ≤ 1000000) : Calls Tryz.prog 17 #[.string (B l), .int .i64 n] w (RetLine (lineT n 0 l) w) := by
  obtain ⟨i0, hi, hz0, hz1, hz2⟩ := info_parts tok_info
  have HI := Lib.hid (And.intro hi (And.intro hz0 (And.intro hz1 hz2)))
  clear hi hz0 hz1 hz2
  have HV := Lib.hid (show LRes.pre [] (lineT n 0 (l.drop 0)) = lineT n 0 l by rw [pre_nil, List.drop_zero])
  generalize lineT n 0 l = V at *
  go_enter Tryz.func17, Tryz.ntmps17
  go_wp2
  go_loopw [6, 7] (fun ov iv wr => LineRel n l w wr V ov iv) (fun _ iv _ => l.length - (intOf iv).toNat)
  case atStart => exact ⟨0, [], Nat.zero_le _, rfl, Nat.le_refl _, OwnC.nil _ _ _ _, Has.new w rf0, (Nx.refl w).alloc _, HV.out⟩
  case round =>
    obtain ⟨i, ts, hi1, rfl, hts, hown, hh, hnx, hV⟩ := hrel
    have HNX := Lib.hid hnx
    have HO := Lib.hid hown
    have HH := Lib.hid hh
    have zb := HH.out.lt
    clear hnx hown hh
    by_cases hlt : i < l.length
    · obtain ⟨x, hx⟩ : ∃ x, l[i]? = some x := ⟨_, List.getElem?_eq_getElem hlt⟩
      obtain ⟨p1, e1⟩ := byte_at l i x hx
      have hg0 := line_take l i x hx
      rw [lineT_cons n i (l.drop i) (by rw [List.length_drop]; omega), hg0, List.drop_drop] at hV
      have hiI : (i : Int) ≤ l.length := by omega
      have CI := in_any x blankN wr (by decide)
      cases hb : blankN.contains x
      · rw [hb] at CI
        rw [if_neg (by rw [hb]; simp)] at hV
        have CI := Lib.hid CI
        by_cases h35 : x = 35
        · rw [if_pos h35] at hV
          have b35 : ((x.toNat : Int) == 35) = true := u8n x 35 (by omega) true (by rw [h35]; rfl)
          have HV2 := Lib.hid hV
          have hh := HH.out
          unfold rf0 at hh
          have r0 := hh.cell 0 _ rfl
          have r1 := hh.cell 1 _ rfl
          have r2 := hh.cell 2 _ rfl
          have f0 := hh.free 0
          have f1 := hh.free 1
          have f2 := hh.free 2
          clear hV hh h35 hg0 hx hb HV
          go_wp2_with fail
          refine CI.out.mono ?_
          rintro e w2 ⟨rfl, rfl⟩
          go_wp2
          refine bodyPost_ret (v := .tuple #[u6, .agg #[.int .i64 0, .int .i64 0, .int .i64 0]]) (by simp [results, Tryz.results17, go_sem, r0, r1, r2, f0, f1, f2]) rfl ?_
          exact ⟨_, 0, 0, 0, rfl, by repeat (with_reducible first | exact HNX.out | refine Nx.drew ?_ | refine Nx.setCell ?_ (Nat.le_refl _) _ | refine Nx.alloc ?_ _), Or.inl ⟨ts, by rw [← HV2.out]; show LRes.ok (ts ++ []) = _; rw [List.append_nil], by refine own_fresh (base := w.heap.size + 1) (Nat.le_succ _) ?_; repeat (with_reducible first | exact HO.out | refine own_set ?_ (Nat.lt_succ_self _) _ | refine OwnC.alloc ?_ _), rfl, rfl, rfl⟩⟩
        · rw [if_neg h35] at hV
          have b35 : ((x.toNat : Int) == 35) = false := u8n x 35 (by omega) false (beq_eq_false_iff_ne.2 h35)
          have CT := token_any (l.drop i) wr (by rw [List.length_drop]; omega) (by rw [List.length_drop]; omega)
          rw [← ext_drop l i hi1] at CT
          have hle := tokR_le (l.drop i) (by rw [List.length_drop]; omega)
          rw [List.length_drop] at hle
          rcases hR : tokR (l.drop i) with ⟨⟨kd, ln, cl, tx, nm, sc⟩, m, code⟩
          rw [hR] at CT hle hV
          have CT := Lib.hid (show Calls Tryz.prog 37 #[.string ((B l).extract i l.length)] wr (fun e w' => e = .returned (.tuple #[.agg #[.int .i64 kd, .int .i64 ln, .int .i64 cl, .string (B tx), .int .u32 nm, .int .i64 sc], .int .i64 m, .int .i64 code]) ∧ Nx wr w') from CT)
          simp only at hle hV
          by_cases hm : m = 0
          · rw [if_pos hm] at hV
            have HV2 := Lib.hid hV
            have HC0 := Lib.hid (show (0 : Int) < (code : Int) by have := tokR_code (l.drop i) (by rw [List.length_drop]; omega) (by rw [hR]; exact hm); rw [hR] at this; simp only at this; omega)
            have bm : ((m : Int) == 0) = true := by rw [hm]; rfl
            clear hR h35 hg0 hx hb HV hV hm
            go_wp2_with fail
            refine CI.out.mono ?_
            rintro e w2 ⟨rfl, rfl⟩
            go_wp2_with fail
            refine CT.out.mono ?_
            rintro e w2 ⟨rfl, hn2⟩
            have hh := HH.out.nx hn2
            unfold rf0 at hh
            have r0 := hh.cell 0 _ rfl
            have r1 := hh.cell 1 _ rfl
            have r2 := hh.cell 2 _ rfl
            have f0 := hh.free 0
            have f1 := hh.free 1
            have f2 := hh.free 2
            have zr := hh.lt
            clear hh
            have HX2 := Lib.hid (HNX.out.trans hn2)
            clear hn2
            go_wp2
            refine bodyPost_ret (v := .tuple #[.slice none 0 0, .agg #[.int .i64 n, .int .i64 (i + 1), .int .i64 code]]) (by simp [results, Tryz.results17, go_sem, r0, r1, r2, f0, f1, f2, World.cell?_alloc_lt, zr]) rfl ?_
            exact ⟨_, _, _, _, rfl, by repeat (with_reducible first | exact HX2.out | refine Nx.drew ?_ | refine Nx.setCell ?_ (Nat.le_refl _) _ | refine Nx.alloc ?_ _), Or.inr ⟨by rw [← HV2.out]; rfl, rfl, HC0.out⟩⟩
          · rw [if_neg hm, List.drop_drop] at hV
            have HV2 := Lib.hid hV
            have bm : ((m : Int) == 0) = false := beq_eq_false_iff_ne.2 (by omega)
            have hm1 : 0 < m := by omega
            clear hR h35 hg0 hx hb HV hV hm
            go_wp2_with fail
            refine CI.out.mono ?_
            rintro e w2 ⟨rfl, rfl⟩
            go_wp2_with fail
            refine CT.out.mono ?_
            rintro e w2 ⟨rfl, hn2⟩
            have HX2 := Lib.hid (HNX.out.trans hn2)
            have HO2 := Lib.hid (HO.out.nx hn2)
            have HH2 := Lib.hid (HH.out.nx hn2)
            have hA := Lib.hid ((HO2.out.alloc (.cells #[.int .i64 kd, .int .i64 n, .int .i64 (i + 1), .string (B tx), .int .u32 nm, .int .i64 sc] 65)).alloc (.cells #[.int .i64 kd, .int .i64 n, .int .i64 (i + 1), .string (B tx), .int .u32 nm, .int .i64 sc] 65))
            obtain ⟨hi, hz0, hz1, hz2⟩ := HI.out
            clear hn2
            go_wp2_with (at_builtin; refine wpList_append_c _ rfl _ _ 39 rfl (w.heap.size + 1) 65 i0 (.agg #[.int .i64 0, .int .i64 0, .int .i64 0, .string (B []), .int .u32 0, .int .i64 0]) 6 56 Tryz.underlying39 hi hz0 hz1 hz2 rfl (by decide) _ _ _ rfl hA.out (some ⟨w2.heap.size + 1, 0, none⟩) 1 1 [.int .i64 kd, .int .i64 n, .int .i64 (i + 1), .string (B tx), .int .u32 nm, .int .i64 sc] rfl rfl (Or.inr ⟨_, rfl, ?c1⟩) ?c2 ?c3 ?c4 ?c5 ?_)
            case c1 =>
              have h6 := six_at (w2.alloc (.cells #[.int .i64 kd, .int .i64 n, .int .i64 (i + 1), .string (B tx), .int .u32 nm, .int .i64 sc] 65)) [.int .i64 kd, .int .i64 n, .int .i64 (i + 1), .string (B tx), .int .u32 nm, .int .i64 sc] 65
              rw [show (w2.alloc (.cells #[.int .i64 kd, .int .i64 n, .int .i64 (i + 1), .string (B tx), .int .u32 nm, .int .i64 sc] 65)).heap.size = w2.heap.size + 1 by simp] at h6
              exact h6
            case c2 => simp [Value.oneCell']
            case c3 => unfold maxLen; omega
            case c4 => omega
            case c5 => have := HH2.out.lt; simp; omega
            intro v3 w3 hown3 hgr3 hbl3
            have HX3 := Lib.hid (show Nx w w3 from Below.grown ((HX2.out.alloc _).alloc _) hgr3 (by have := HX2.out.size; simp; omega) (fun k hk => by have := (hA.out.lt k hk).1; omega))
            have HH3 := Lib.hid (((HH2.out.alloc (.cells #[.int .i64 kd, .int .i64 n, .int .i64 (i + 1), .string (B tx), .int .u32 nm, .int .i64 sc] 65)).alloc (.cells #[.int .i64 kd, .int .i64 n, .int .i64 (i + 1), .string (B tx), .int .u32 nm, .int .i64 sc] 65)).keep_grown hgr3 (fun e => by have := (hA.out.lt _ e).1; omega))
            have HO3 := Lib.hid hown3
            clear hown3 hgr3 hbl3
            go_wp2
            go_roundw
            case rel => exact ⟨i + m, ts ++ [placeT ⟨kd, ln, cl, tx, nm, sc⟩ n ((i + 1 : Nat) : Int)], by omega, by go_num, by simp; omega, by rw [toksC_snoc]; simp only [List.length_append, List.length_singleton]; exact HO3.out, HH3.out, HX3.out, by rw [← HV2.out, pre_pre]⟩
            case measure => simp [intOf]; omega
      · rw [hb] at CI
        rw [if_pos hb] at hV
        have CI := Lib.hid CI
        have HV2 := Lib.hid hV
        clear hV hb hg0 hx HV
        go_wp2_with fail
        refine CI.out.mono ?_
        rintro e w2 ⟨rfl, rfl⟩
        go_wp2
        go_roundw
        case rel => exact ⟨i + 1, ts, by omega, by go_num, by omega, HO.out, HH.out, HNX.out, HV2.out⟩
        case measure => simp [intOf]; omega
    · obtain rfl : i = l.length := by omega
      rw [List.drop_length, lineT_nil] at hV
      have HV2 := Lib.hid hV
      have hh := HH.out
      unfold rf0 at hh
      have r0 := hh.cell 0 _ rfl
      have r1 := hh.cell 1 _ rfl
      have r2 := hh.cell 2 _ rfl
      have f0 := hh.free 0
      have f1 := hh.free 1
      have f2 := hh.free 2
      clear hV hh HV
      go_wp2
      refine bodyPost_ret (v := .tuple #[u6, .agg #[.int .i64 0, .int .i64 0, .int .i64 0]]) (by simp [results, Tryz.results17, go_sem, r0, r1, r2, f0, f1, f2]) rfl ?_
      exact ⟨_, 0, 0, 0, rfl, by repeat (with_reducible first | exact HNX.out | refine Nx.drew ?_ | refine Nx.setCell ?_ (Nat.le_refl _) _ | refine Nx.alloc ?_ _), Or.inl ⟨ts, by rw [← HV2.out]; show LRes.ok (ts ++ []) = _; rw [List.append_nil], by refine own_fresh (base := w.heap.size + 1) (Nat.le_succ _) ?_; repeat (with_reducible first | exact HO.out | refine own_set ?_ (Nat.lt_succ_self _) _ | refine OwnC.alloc ?_ _), rfl, rfl, rfl⟩⟩

end Go.Proofs.YtdgmdkkockbkjaaGreatDoor

/- Contracts of typecaseref11: two, leaf, opens, deep, at the tokens of a text. -/
namespace Go.Proofs.YtdgmdkkockbkjaaGreatDoor
open Go.RowKit
set_option linter.unusedVariables false
set_option linter.unusedSimpArgs false

/-- A node. -/
structure Nod where
  kind : Int
  line : Int
  col : Int
  num : Int
  name : List UInt8

abbrev nodC (n : Nod) : List Value := [.int .i64 n.kind, .int .i64 n.line, .int .i64 n.col, .int .u32 n.num, .string (B n.name)]

abbrev nodV (n : Nod) : Value := .agg #[.int .i64 n.kind, .int .i64 n.line, .int .i64 n.col, .int .u32 n.num, .string (B n.name)]

/-- What comes of leaf: a node, and whether there is one. -/
def RetLeaf (n : Nod) (b : Bool) (w : World) (e : Ending) (w' : World) : Prop := e = .returned (.tuple #[nodV n, .bool b]) ∧ Nx w w'

theorem leaf_num (ln cl nm sc : Int) (s : List UInt8) (w : World) :
    Calls Tryz.prog 64 #[.agg #[.int .i64 5, .int .i64 ln, .int .i64 cl, .string (B s), .int .u32 nm, .int .i64 sc]] w (RetLeaf ⟨1, ln, cl, nm, []⟩ true w) := by
  go_enter Tryz.func64, Tryz.ntmps64
  go_wp2
  refine bodyPost_ret (v := .tuple #[nodV ⟨1, ln, cl, nm, []⟩, .bool true]) (by simp [results, Tryz.results64, go_sem]) rfl ⟨rfl, ?_⟩
  repeat (with_reducible first | exact Nx.refl _ | refine Nx.setCell ?_ (Nat.le_refl _) _ | refine Nx.setCell ?_ (by simp) _ | refine Nx.alloc ?_ _)

theorem leaf_dot (ln cl nm sc : Int) (w : World) :
    Calls Tryz.prog 64 #[.agg #[.int .i64 1, .int .i64 ln, .int .i64 cl, .string (B [46]), .int .u32 nm, .int .i64 sc]] w (RetLeaf ⟨3, ln, cl, 0, []⟩ true w) := by
  go_enter Tryz.func64, Tryz.ntmps64
  go_wp2
  refine bodyPost_ret (v := .tuple #[nodV ⟨3, ln, cl, 0, []⟩, .bool true]) (by simp [results, Tryz.results64, go_sem]) rfl ⟨rfl, ?_⟩
  repeat (with_reducible first | exact Nx.refl _ | refine Nx.setCell ?_ (Nat.le_refl _) _ | refine Nx.setCell ?_ (by simp) _ | refine Nx.alloc ?_ _)

theorem leaf_mark (ln cl nm sc : Int) (s : List UInt8) (w : World) :
    Calls Tryz.prog 64 #[.agg #[.int .i64 7, .int .i64 ln, .int .i64 cl, .string (B s), .int .u32 nm, .int .i64 sc]] w (RetLeaf ⟨0, ln, cl, 0, []⟩ false w) := by
  go_enter Tryz.func64, Tryz.ntmps64
  go_wp2
  refine bodyPost_ret (v := .tuple #[nodV ⟨0, ln, cl, 0, []⟩, .bool false]) (by simp [results, Tryz.results64, go_sem]) rfl ⟨rfl, ?_⟩
  repeat (with_reducible first | exact Nx.refl _ | refine Nx.setCell ?_ (Nat.le_refl _) _ | refine Nx.setCell ?_ (by simp) _ | refine Nx.alloc ?_ _)

/-- What waits, by its cells. -/
abbrev waitC (n : Nod) (how : Int) (b : Bool) : List Value := [.int .i64 n.kind, .int .i64 n.line, .int .i64 n.col, .int .u32 n.num, .string (B n.name), .int .i64 how, .bool b]

abbrev waitV (n : Nod) (how : Int) (b : Bool) : Value := .agg #[.int .i64 n.kind, .int .i64 n.line, .int .i64 n.col, .int .u32 n.num, .string (B n.name), .int .i64 how, .bool b]

def RetOpens (n : Nod) (how : Int) (k : Int) (w : World) (e : Ending) (w' : World) : Prop := e = .returned (.tuple #[waitV n how false, .int .i64 k]) ∧ Nx w w'

theorem opens_none (v : Value) (l : List Tok) (i : Nat) (t : Tok) (w : World) (hT : Toks w v l) (ht : l[i]? = some t) (hk : t.kind = 1 ∨ t.kind = 5) :
    Calls Tryz.prog 65 #[v, .int .i64 i] w (RetOpens ⟨0, 0, 0, 0, []⟩ 0 0 w) := by
  obtain ⟨A, c, rfl, hc1, hc2, hA⟩ := hT.form
  obtain ⟨g, o, rfl, hTA⟩ : ∃ g o, A = some ⟨g, o, none⟩ ∧ TokAt w g o l := by
    rcases hA with ⟨_, h, _⟩ | h
    · subst h; cases ht
    · exact h
  have hlt := (List.getElem?_eq_some_iff.1 ht).1
  have hi : (i : Int) < l.length := by omega
  obtain ⟨a0, a1, a2, a3, a4, a5⟩ := hTA.at_ i t ht
  have hg := block_lt a0
  obtain ⟨kd, ln, cl, tx, nm, sc⟩ := t
  dsimp only at a0 a1 a2 a3 a4 a5 hk
  clear hTA hA hT ht
  unfold maxLen at hc2
  rcases hk with rfl | rfl
  all_goals
    go_enter Tryz.func65, Tryz.ntmps65
    go_wp2
    refine bodyPost_ret (v := .tuple #[waitV ⟨0, 0, 0, 0, []⟩ 0 false, .int .i64 0]) (by simp [results, Tryz.results65, go_sem]) rfl ⟨rfl, ?_⟩
    repeat (with_reducible first | exact Nx.refl _ | refine Nx.setCell ?_ (Nat.le_refl _) _ | refine Nx.setCell ?_ (by simp) _ | refine Nx.alloc ?_ _)

theorem opens_neg (v : Value) (l : List Tok) (i : Nat) (t : Tok) (w : World) (hT : Toks w v l) (ht : l[i]? = some t) (hk : t.kind = 7) (hx : t.text = [45]) :
    Calls Tryz.prog 65 #[v, .int .i64 i] w (RetOpens ⟨4, t.line, t.col, 0, []⟩ 7 1 w) := by
  obtain ⟨A, c, rfl, hc1, hc2, hA⟩ := hT.form
  obtain ⟨g, o, rfl, hTA⟩ : ∃ g o, A = some ⟨g, o, none⟩ ∧ TokAt w g o l := by
    rcases hA with ⟨_, h, _⟩ | h
    · subst h; cases ht
    · exact h
  have hlt := (List.getElem?_eq_some_iff.1 ht).1
  have hi : (i : Int) < l.length := by omega
  obtain ⟨a0, a1, a2, a3, a4, a5⟩ := hTA.at_ i t ht
  have hg := block_lt a0
  obtain ⟨kd, ln, cl, tx, nm, sc⟩ := t
  dsimp only at a0 a1 a2 a3 a4 a5 hk hx ⊢
  subst hk hx
  clear hTA hA hT ht
  unfold maxLen at hc2
  go_enter Tryz.func65, Tryz.ntmps65
  go_wp2
  refine bodyPost_ret (v := .tuple #[waitV ⟨4, ln, cl, 0, []⟩ 7 false, .int .i64 1]) (by simp [results, Tryz.results65, go_sem]) rfl ⟨rfl, ?_⟩
  repeat (with_reducible first | exact Nx.refl _ | refine Nx.setCell ?_ (Nat.le_refl _) _ | refine Nx.setCell ?_ (by simp) _ | refine Nx.alloc ?_ _)

/-- None waits. -/
theorem deep_nil (A : Option Addr) (c : Nat) (w : World) : Calls Tryz.prog 66 #[.slice A 0 c] w fun e w' => e = .returned (.int .i64 0) ∧ w = w' := by
  go_enter Tryz.func66, Tryz.ntmps66
  go_wp2
  go_loop [3, 4] (fun n i => n = .int .i64 0 ∧ i = .int .i64 0) (fun n i => 1)
  case atStart => exact ⟨rfl, rfl⟩
  case round =>
    obtain ⟨rfl, rfl⟩ := hrel
    go_wp2
    go_ret
    exact ⟨rfl, rfl⟩

/-- The marks between two parts. -/
def mkL : List (List UInt8) := [[43], [45], [42], [47], [60, 60], [62, 62], [38], [94], [124]]

/-- How tightly they bind. -/
def howL : List Int := [5, 5, 6, 6, 4, 4, 3, 2, 1]

theorem mkL_at (j : Nat) (h : j < 9) : mkL[j]? = some (mkL.getD j []) := by
  rcases (by omega : j = 0 ∨ j = 1 ∨ j = 2 ∨ j = 3 ∨ j = 4 ∨ j = 5 ∨ j = 6 ∨ j = 7 ∨ j = 8) with rfl | rfl | rfl | rfl | rfl | rfl | rfl | rfl | rfl <;> rfl

theorem howL_at (j : Nat) (h : j < 9) : howL[j]? = some (howL.getD j 0) := by
  rcases (by omega : j = 0 ∨ j = 1 ∨ j = 2 ∨ j = 3 ∨ j = 4 ∨ j = 5 ∨ j = 6 ∨ j = 7 ∨ j = 8) with rfl | rfl | rfl | rfl | rfl | rfl | rfl | rfl | rfl <;> rfl

def RetTwo (a b : Int) (w : World) (e : Ending) (w' : World) : Prop := e = .returned (.tuple #[.int .i64 a, .int .i64 b]) ∧ Nx w w'

/-- What two's memory holds. -/
def TwoAt (w wr : World) (s : List UInt8) : Prop := Nx w wr ∧ wr.cell? ⟨w.heap.size, 0, none⟩ = some (.int .i64 7) ∧ wr.cell? ⟨w.heap.size, 3, none⟩ = some (.string (B s)) ∧ Strs wr (w.heap.size + 1) mkL ∧ ∀ (k : Nat) (x : Int), howL[k]? = some x → wr.cell? ⟨w.heap.size + 1 + 1, k, none⟩ = some (.int .i64 x)

theorem TwoAt.nx {w wr wr' : World} {s : List UInt8} (h : TwoAt w wr s) (hn : Nx wr wr') : TwoAt w wr' s :=
  ⟨h.1.trans hn, hn.cell h.2.1, hn.cell h.2.2.1, h.2.2.2.1.keep hn, fun k x hx => hn.cell (h.2.2.2.2 k x hx)⟩

theorem two_start (ln cl nm sc : Int) (s : List UInt8) (w : World) (T1 T2 T3 : TypeId) : TwoAt w (((w.alloc (.cells #[.int .i64 7, .int .i64 ln, .int .i64 cl, .string (B s), .int .u32 nm, .int .i64 sc] T1)).alloc (.cells (mkL.map fun s => Value.string (B s)).toArray T2)).alloc (.cells (howL.map fun x => Value.int .i64 x).toArray T3)) s := by
  have h0 := ((Has.new w (.cells #[.int .i64 7, .int .i64 ln, .int .i64 cl, .string (B s), .int .u32 nm, .int .i64 sc] T1)).alloc (.cells (mkL.map fun s => Value.string (B s)).toArray T2)).alloc (.cells (howL.map fun x => Value.int .i64 x).toArray T3)
  have h1 := Strs.new (w.alloc (.cells #[.int .i64 7, .int .i64 ln, .int .i64 cl, .string (B s), .int .u32 nm, .int .i64 sc] T1)) mkL T2
  rw [World.size_alloc] at h1
  have h2 := Has.new ((w.alloc (.cells #[.int .i64 7, .int .i64 ln, .int .i64 cl, .string (B s), .int .u32 nm, .int .i64 sc] T1)).alloc (.cells (mkL.map fun s => Value.string (B s)).toArray T2)) (.cells (howL.map fun x => Value.int .i64 x).toArray T3)
  rw [World.size_alloc, World.size_alloc] at h2
  exact ⟨(((Nx.refl w).alloc _).alloc _).alloc _, h0.cell 0 _ rfl, h0.cell 3 _ rfl, h1.keep ((Nx.refl _).alloc _), fun k x hx => h2.cell k _ (by simp [hx])⟩

/-- What stands at a mark's place. -/
theorem two_at (m : Nat) (hm : m ≤ 9) (ln cl nm sc : Int) (s : List UInt8) (hs : ∀ j, j < m → (s == mkL.getD j []) = false) (hx : m < 9 → (s == mkL.getD m []) = true) (a b : Int) (hab : (m < 9 ∧ howL.getD m 0 = a ∧ b = 9 + (m : Int)) ∨ (m = 9 ∧ a = 0 ∧ b = 0)) (w : World) :
    Calls Tryz.prog 67 #[.agg #[.int .i64 7, .int .i64 ln, .int .i64 cl, .string (B s), .int .u32 nm, .int .i64 sc]] w (RetTwo a b w) := by
  have HS := Lib.hid hs
  have HX := Lib.hid hx
  have HAB := Lib.hid hab
  clear hab
  have H0 := Lib.hid (two_start ln cl nm sc s w 65 9 3)
  clear hs hx
  go_enter Tryz.func67, Tryz.ntmps67
  go_wp2
  go_loopw [6] (fun i wr => ∃ k : Nat, k ≤ m ∧ i = .int .i64 k ∧ TwoAt w wr s) (fun i _ => 9 - (intOf i).toNat)
  case atStart => exact ⟨0, Nat.zero_le _, rfl, H0.out⟩
  case round =>
    obtain ⟨k, hk, rfl, hT⟩ := hrel
    have HT := Lib.hid hT
    by_cases hlt : k < 9
    · obtain ⟨hn, c0, c3, hS, hH⟩ := hT
      have hc := hS k _ (mkL_at k hlt)
      have hh := hH k _ (howL_at k hlt)
      have hkI : (k : Int) < 9 := by omega
      have z3 := block_lt c3
      have zc := block_lt hc
      have zh := block_lt hh
      by_cases hkm : k < m
      · have hs := HS.out k hkm
        generalize mkL.getD k [] = x at *
        clear hS hH hn hh HX HS H0
        go_wp2
        (refine wp_region_nx 11 (by kernel_rfl) (by kernel_rfl) ?_; simp only [List.take_succ_cons, List.take_zero, List.drop_succ_cons, List.drop_zero]; (repeat (refine wpQuiet_step (fun K hK => ?_); go_simp; first | (refine hK _ ?_; clear hK K) | (apply Exists.intro; refine ⟨fun w' hw' => ?_, hK _ ?_⟩; (first | (with_reducible rfl) | (obtain ⟨hc, hf⟩ := nx_cells hw'; go_simp; with_reducible rfl) | (obtain ⟨hc, hf⟩ := nx_cells hw'; go_simp; rfl)); clear hK K))); refine wpQuiet_nil ?_; intro w9 hn9)
        have H9 := Lib.hid (HT.out.nx hn9)
        go_wp2
        go_roundw
        case rel => exact ⟨k + 1, by omega, by go_num, H9.out⟩
        case measure => simp [intOf]; omega
      · obtain rfl : k = m := by omega
        have hs := HX.out hlt
        obtain ⟨_, ha, hb⟩ := HAB.out.resolve_right (by omega)
        rw [ha] at hh
        have HB := Lib.hid hb
        generalize mkL.getD k [] = x at *
        clear ha hb HAB
        clear hS hH hn HX HS H0
        go_wp2
        (refine wp_region_nx 11 (by kernel_rfl) (by kernel_rfl) ?_; simp only [List.take_succ_cons, List.take_zero, List.drop_succ_cons, List.drop_zero]; (repeat (refine wpQuiet_step (fun K hK => ?_); go_simp; first | (refine hK _ ?_; clear hK K) | (apply Exists.intro; refine ⟨fun w' hw' => ?_, hK _ ?_⟩; (first | (with_reducible rfl) | (obtain ⟨hc, hf⟩ := nx_cells hw'; go_simp; with_reducible rfl) | (obtain ⟨hc, hf⟩ := nx_cells hw'; go_simp; rfl)); clear hK K))); refine wpQuiet_nil ?_; intro w9 hn9)
        have H9 := Lib.hid (HT.out.nx hn9)
        replace hh := hn9.cell hh
        go_wp2
        go_ret2
        exact ⟨by rw [HB.out]; rfl, H9.out.1⟩
    · have d9 : decide ((k : Int) < 9) = false := decide_eq_false (by omega)
      obtain ⟨_, ha, hb⟩ := HAB.out.resolve_left (by omega)
      have HA := Lib.hid ha
      have HB := Lib.hid hb
      clear ha hb HAB
      go_wp2
      go_ret2
      exact ⟨by rw [HA.out, HB.out]; rfl, HT.out.1⟩

end Go.Proofs.YtdgmdkkockbkjaaGreatDoor

/- Arguments: slices of tokens, slices of those, slices of bytes, opened. -/
namespace Go.Proofs.YtdgmdkkockbkjaaGreatDoor
open Go.RowKit Go.ChangeShapes Go.WideShapes Go.Deep
set_option linter.unusedVariables false
set_option linter.unusedSimpArgs false
set_option maxRecDepth 100000

/-- A token's parts are in their bounds. -/
def TokBd (t : Tok) : Prop := (-9223372036854775808 ≤ t.kind ∧ t.kind ≤ 9223372036854775807) ∧ (-9223372036854775808 ≤ t.line ∧ t.line ≤ 9223372036854775807) ∧ (-9223372036854775808 ≤ t.col ∧ t.col ≤ 9223372036854775807) ∧ t.text.length ≤ maxLen ∧ (0 ≤ t.num ∧ t.num ≤ 4294967295) ∧ (-9223372036854775808 ≤ t.scope ∧ t.scope ≤ 9223372036854775807)

/-- The slice v holds these bytes. -/
def Bys (w : World) (v : Value) (l : List UInt8) : Prop :=
  ((∃ A, v = .slice A 0 0) ∧ l = []) ∨ ∃ g o c, v = .slice (some ⟨g, o, none⟩) l.length c ∧ l.length ≤ c ∧ c ≤ maxLen ∧ ∀ (k : Nat) (b : UInt8), l[k]? = some b → w.cell? ⟨g, o + k, none⟩ = some (.int .u8 b.toNat)

theorem Bys.nx {w w' : World} {v : Value} {l : List UInt8} (h : Bys w v l) (hn : Nx w w') : Bys w' v l := by
  rcases h with h | ⟨g, o, c, h1, h2, h3, h4⟩
  · exact Or.inl h
  · exact Or.inr ⟨g, o, c, h1, h2, h3, fun k b hk => hn.cell (h4 k b hk)⟩

theorem Bys.form {w : World} {v : Value} {l : List UInt8} (h : Bys w v l) : ∃ A c, v = .slice A l.length c ∧ l.length ≤ c ∧ c ≤ maxLen ∧ ((l = [] ∧ c = 0) ∨ ∃ g o, A = some ⟨g, o, none⟩ ∧ ∀ (k : Nat) (b : UInt8), l[k]? = some b → w.cell? ⟨g, o + k, none⟩ = some (.int .u8 b.toNat)) := by
  rcases h with ⟨⟨A, rfl⟩, rfl⟩ | ⟨g, o, c, h1, h2, h3, h4⟩
  · exact ⟨A, 0, rfl, Nat.le_refl _, Nat.zero_le _, Or.inl ⟨rfl, rfl⟩⟩
  · exact ⟨_, c, h1, h2, h3, Or.inr ⟨g, o, rfl, h4⟩⟩

/-- How many elements a datum has. -/
def lenD {H : Type} : DataW H → Nat
  | .slice e _ => e.length
  | _ => 0

def elemsD {H : Type} : DataW H → List (DataW H)
  | .slice e _ => e
  | _ => []

theorem list_of {α : Type} {n : Nat} {p : Nat → α → Prop} (h : ∀ i, i < n → ∃ x, p i x) : ∃ l : List α, l.length = n ∧ ∀ i x, l[i]? = some x → p i x := by
  induction n with
  | zero => exact ⟨[], rfl, fun i x hx => by cases hx⟩
  | succ n ih =>
    obtain ⟨l, hl, hp⟩ := ih (fun i hi => h i (by omega))
    obtain ⟨x, hx⟩ := h n (by omega)
    refine ⟨l ++ [x], by simp [hl], fun i y hy => ?_⟩
    rw [List.getElem?_append] at hy
    split at hy
    · exact hp i y hy
    · rename_i hn
      have : i = n := by
        have := (List.getElem?_eq_some_iff.1 hy).1
        simp at this
        omega
      subst this
      rw [hl] at hy
      simp at hy
      subst hy
      exact hx

section
variable {H : Type} {enc : TypeId × Value → H} {w : World} {base : Nat} {held : Bool}

theorem add_flat (b o k : Nat) : (⟨b, o, none⟩ : Addr).add k = ⟨b, o + k, none⟩ := by unfold Addr.add; split <;> simp_all

theorem text_B (s : ByteArray) : s = B s.data.toList := rfl

theorem field_at {P : Program} {sp : Nat → Bool} {t : TypeId} {fs : Array Field} {fuel : Nat} {cs : List Value} {x : DataW H × List MemPlace} (ht : P.underlying t = some (.struct fs)) (hone : oneCellFields P fs = true) (h : DataW.trod enc P w base sp held fuel t cs = some x) :
    cs.length = P.cellsOf t ∧ ∀ (i : Nat) (f : Field), fs[i]? = some f → ∃ y n, DataW.trod enc P w base sp held n f.type ((cs.drop i).take 1) = some y := by
  obtain ⟨xs, n, _, rfl, hl, hlen, hf⟩ := DataW.trod_struct ht h
  refine ⟨hl, fun i f hi => ?_⟩
  obtain ⟨o, k⟩ := hone_of hone i f hi
  have g := hf i f hi
  rw [o, k, List.getElem?_eq_getElem (by rw [hlen]; exact (Array.getElem?_eq_some_iff.1 hi).1)] at g
  exact ⟨_, n, g⟩

theorem open_tok {fuel : Nat} {cs : List Value} {x : DataW H × List MemPlace} (h : DataW.trod enc Tryz.prog w base (fun _ => true) held fuel 65 cs = some x) : ∃ t : Tok, cs = tokC t ∧ TokBd t := by
  obtain ⟨hl, hf⟩ := field_at Tryz.underlying65 (by kernel_rfl) h
  have h6 : cs.length = 6 := hl.trans (by kernel_rfl)
  match cs, h6 with
  | [c0, c1, c2, c3, c4, c5], _ =>
    obtain ⟨y0, m0, g0⟩ := hf 0 _ rfl
    obtain ⟨y1, m1, g1⟩ := hf 1 _ rfl
    obtain ⟨y2, m2, g2⟩ := hf 2 _ rfl
    obtain ⟨y3, m3, g3⟩ := hf 3 _ rfl
    obtain ⟨y4, m4, g4⟩ := hf 4 _ rfl
    obtain ⟨y5, m5, g5⟩ := hf 5 _ rfl
    obtain ⟨n0, e0, _, b0⟩ := DataW.trod_int (k := .i64) Tryz.underlying3 g0
    obtain ⟨n1, e1, _, b1⟩ := DataW.trod_int (k := .i64) Tryz.underlying3 g1
    obtain ⟨n2, e2, _, b2⟩ := DataW.trod_int (k := .i64) Tryz.underlying3 g2
    obtain ⟨s3, e3, _, b3⟩ := DataW.trod_string Tryz.underlying9 g3
    obtain ⟨n4, e4, _, b4⟩ := DataW.trod_int (k := .u32) Tryz.underlying24 g4
    obtain ⟨n5, e5, _, b5⟩ := DataW.trod_int (k := .i64) Tryz.underlying3 g5
    simp at e0 e1 e2 e3 e4 e5
    subst e0 e1 e2 e3 e4 e5
    have q0 := bounds_i64 b0
    have q1 := bounds_i64 b1
    have q2 := bounds_i64 b2
    have q4 := bounds_u32 b4
    have q5 := bounds_i64 b5
    exact ⟨⟨n0, n1, n2, s3.data.toList, n4, n5⟩, rfl, q0, q1, q2, (by show s3.data.toList.length ≤ maxLen; rw [Array.length_toList]; exact b3), q4, q5⟩

theorem c_tok : Tryz.prog.cellsOf 65 = 6 := by kernel_rfl

theorem c_toks : Tryz.prog.cellsOf 39 = 1 := by kernel_rfl

theorem c_byte : Tryz.prog.cellsOf 5 = 1 := by kernel_rfl

theorem open_toks1 {fuel : Nat} {v : Value} {x : DataW H × List MemPlace} (h : DataW.trod enc Tryz.prog w base (fun _ => true) held fuel 39 [v] = some x) : ∃ l, Toks w v l ∧ (∀ t ∈ l, TokBd t) ∧ lenD x.1 = l.length := by
  rcases open_slice Tryz.underlying39 h with ⟨hv, rfl⟩ | ⟨a, len, cap, m, n, D, Pl, hv, hb, hl, hm, hmm, rfl, hi⟩
  · simp at hv
    subst hv
    exact ⟨[], Toks.nil w, by simp, rfl⟩
  · simp at hv
    subst hv
    simp only [if_true] at hmm
    have hmm' := hmm.symm
    subst hmm'
    clear hmm
    rw [c_tok] at hi
    have each : ∀ i, i < len → ∃ t : Tok, TokBd t ∧ ∀ j u, (tokC t)[j]? = some u → w.cell? ((a.add (i * 6)).add j) = some u := by
      intro i hil
      obtain ⟨cs', hc, ht⟩ := hi i (by omega)
      obtain ⟨t, rfl, hbd⟩ := open_tok ht
      obtain ⟨_, _, hat⟩ := World.cells?_some hc
      exact ⟨t, hbd, fun j u hj => by rw [hat j (List.getElem?_eq_some_iff.1 hj).1]; exact hj⟩
    obtain ⟨l, hlen, hp⟩ := list_of each
    refine ⟨l, ?_, fun t ht => ?_, ?_⟩
    · rcases Nat.eq_zero_or_pos len with h0 | h0
      · subst h0
        have hnil : l = [] := List.eq_nil_of_length_eq_zero hlen
        subst hnil
        rcases Nat.eq_zero_or_pos cap with hc0 | hc0
        · subst hc0; exact Or.inl ⟨⟨_, rfl⟩, rfl⟩
        · obtain ⟨cs', hc, _⟩ := hi 0 hc0
          obtain ⟨_, hcl, hat⟩ := World.cells?_some hc
          have h0 := hat 0 (by omega)
          rw [List.getElem?_eq_getElem (by omega)] at h0
          obtain ⟨b, o, spot⟩ := a
          have hs : spot = none := by simpa [Addr.add] using World.cell?_spot h0
          subst hs
          exact Or.inr ⟨b, o, cap, rfl, Nat.zero_le _, hm, fun k t hk => by cases hk⟩
      · obtain ⟨t0, ht0⟩ : ∃ t, l[0]? = some t := ⟨_, List.getElem?_eq_getElem (by omega)⟩
        have h0 := (hp 0 t0 ht0).2 0 _ rfl
        obtain ⟨b, o, spot⟩ := a
        have hs : spot = none := by simpa [Addr.add] using World.cell?_spot h0
        subst hs
        refine Or.inr ⟨b, o, cap, by rw [hlen], by omega, hm, fun k t hk j u hu => ?_⟩
        have := (hp k t hk).2 j u hu
        rw [add_flat, add_flat] at this
        exact this
    · obtain ⟨k, hk⟩ := List.getElem?_of_mem ht
      exact (hp k t hk).1
    · simp [lenD, hlen]

theorem open_toks {r : Reach} {b0 : Nat} {v : Value} {d : DataW H} {p : List MemPlace} (hv : Value.okWide Tryz.prog w r b0 39 v) (h : DataW.Trod enc Tryz.prog w base (fun _ => true) held 39 v d p) : ∃ l, Toks w v l ∧ (∀ t ∈ l, TokBd t) ∧ lenD d = l.length := by
  obtain ⟨a0, len, cap, rfl⟩ := okWide_slice Tryz.underlying39 hv
  obtain ⟨fuel, hf⟩ := h
  exact open_toks1 hf

/-- Each element of a datum is as long as its list. -/
def LensD (d : DataW H) (ls : List (List Tok)) : Prop := lenD d = ls.length ∧ ∀ (i : Nat) (l : List Tok), ls[i]? = some l → ∃ e, (elemsD d)[i]? = some e ∧ lenD e = l.length

theorem open_lins1 {fuel : Nat} {v : Value} {x : DataW H × List MemPlace} (h : DataW.trod enc Tryz.prog w base (fun _ => true) held fuel 27 [v] = some x) : ∃ ls, Lins w v ls ∧ (∀ l ∈ ls, ∀ t ∈ l, TokBd t) ∧ LensD x.1 ls := by
  rcases open_slice Tryz.underlying27 h with ⟨hv, rfl⟩ | ⟨a, len, cap, m, n, D, Pl, hv, hb, hl, hm, hmm, rfl, hi⟩
  · simp at hv
    subst hv
    exact ⟨[], Or.inl ⟨⟨none, rfl⟩, rfl⟩, by simp, rfl, by simp⟩
  · simp at hv
    subst hv
    simp only [if_true] at hmm
    have hmm' := hmm.symm
    subst hmm'
    clear hmm
    rw [c_toks] at hi
    have each : ∀ i, i < len → ∃ l : List Tok, (∀ t ∈ l, TokBd t) ∧ lenD (D i) = l.length ∧ ∃ u, w.cell? (a.add i) = some u ∧ Toks w u l := by
      intro i hil
      obtain ⟨cs', hc, ht⟩ := hi i (by omega)
      obtain ⟨_, hcl, hat⟩ := World.cells?_some hc
      match cs', hcl with
      | [u], _ =>
        obtain ⟨l, h1, h2, h3⟩ := open_toks1 ht
        refine ⟨l, h2, h3, u, ?_, h1⟩
        have := hat 0 (by omega)
        rw [Go.Deep.add_add, Nat.mul_one, Nat.add_zero] at this
        exact this
    obtain ⟨ls, hlen, hp⟩ := list_of each
    refine ⟨ls, ?_, fun l hl t ht => ?_, ?_, fun i l hil => ?_⟩
    · rcases Nat.eq_zero_or_pos len with h0 | h0
      · subst h0
        have hnil : ls = [] := List.eq_nil_of_length_eq_zero hlen
        subst hnil
        rcases Nat.eq_zero_or_pos cap with hc0 | hc0
        · subst hc0; exact Or.inl ⟨⟨_, rfl⟩, rfl⟩
        · obtain ⟨cs', hc, _⟩ := hi 0 hc0
          obtain ⟨_, hcl, hat⟩ := World.cells?_some hc
          have h0 := hat 0 (by omega)
          rw [List.getElem?_eq_getElem (by omega)] at h0
          obtain ⟨b, o, spot⟩ := a
          have hs : spot = none := by simpa [Addr.add] using World.cell?_spot h0
          subst hs
          exact Or.inr ⟨b, o, cap, rfl, Nat.zero_le _, hm, fun k t hk => by cases hk⟩
      · obtain ⟨l0, hl0⟩ : ∃ l, ls[0]? = some l := ⟨_, List.getElem?_eq_getElem (by omega)⟩
        obtain ⟨_, _, u0, h0, _⟩ := hp 0 l0 hl0
        obtain ⟨b, o, spot⟩ := a
        have hs : spot = none := by simpa [Addr.add] using World.cell?_spot h0
        subst hs
        refine Or.inr ⟨b, o, cap, by rw [hlen], by omega, hm, fun k l hk => ?_⟩
        obtain ⟨_, _, u, h1, h2⟩ := hp k l hk
        rw [add_flat] at h1
        exact ⟨u, h1, h2⟩
    · obtain ⟨k, hk⟩ := List.getElem?_of_mem hl
      exact (hp k l hk).1 t ht
    · simp [lenD, hlen]
    · obtain ⟨_, h2, _⟩ := hp i l hil
      have hlt := (List.getElem?_eq_some_iff.1 hil).1
      exact ⟨D i, by show ((List.range len).map D)[i]? = _; rw [List.getElem?_map, List.getElem?_range (by omega)]; rfl, h2⟩

theorem open_lins {r : Reach} {b0 : Nat} {v : Value} {d : DataW H} {p : List MemPlace} (hv : Value.okWide Tryz.prog w r b0 27 v) (h : DataW.Trod enc Tryz.prog w base (fun _ => true) held 27 v d p) : ∃ ls, Lins w v ls ∧ (∀ l ∈ ls, ∀ t ∈ l, TokBd t) ∧ LensD d ls := by
  obtain ⟨a0, len, cap, rfl⟩ := okWide_slice Tryz.underlying27 hv
  obtain ⟨fuel, hf⟩ := h
  exact open_lins1 hf

theorem byte_of {n : Int} (h : (Lit.int .u8 n).wf = true) : ∃ b : UInt8, n = b.toNat := by
  have := bounds_u8 h
  exact ⟨UInt8.ofNat n.toNat, by rw [UInt8.toNat_ofNat']; omega⟩

theorem open_bys {r : Reach} {b0 : Nat} {v : Value} {d : DataW H} {p : List MemPlace} (hv : Value.okWide Tryz.prog w r b0 32 v) (h : DataW.Trod enc Tryz.prog w base (fun _ => true) held 32 v d p) : ∃ l, Bys w v l ∧ lenD d = l.length := by
  obtain ⟨a0, len0, cap0, rfl⟩ := okWide_slice Tryz.underlying32 hv
  obtain ⟨fuel, hf⟩ := h
  rcases open_slice Tryz.underlying32 hf with ⟨hv, hx⟩ | ⟨a, len, cap, m, n, D, Pl, hv, hb, hl, hm, hmm, hx, hi⟩
  · simp at hv hx
    obtain ⟨rfl, rfl, rfl⟩ := hv
    obtain ⟨rfl, rfl⟩ := hx
    exact ⟨[], Or.inl ⟨⟨none, rfl⟩, rfl⟩, rfl⟩
  · simp at hv hx
    obtain ⟨rfl, rfl, rfl⟩ := hv
    obtain ⟨rfl, rfl⟩ := hx
    simp only [if_true] at hmm
    have hmm' := hmm.symm
    subst hmm'
    clear hmm
    rw [c_byte] at hi
    have each : ∀ i, i < len0 → ∃ b : UInt8, w.cell? (a.add i) = some (.int .u8 b.toNat) := by
      intro i hil
      obtain ⟨cs', hc, ht⟩ := hi i (by omega)
      obtain ⟨_, hcl, hat⟩ := World.cells?_some hc
      obtain ⟨k, hk, _, hw⟩ := DataW.trod_int Tryz.underlying5 ht
      obtain ⟨b, rfl⟩ := byte_of hw
      subst hk
      have := hat 0 (by omega)
      rw [Go.Deep.add_add, Nat.mul_one, Nat.add_zero] at this
      exact ⟨b, this⟩
    obtain ⟨l, hlen, hp⟩ := list_of each
    refine ⟨l, ?_, ?_⟩
    · rcases Nat.eq_zero_or_pos len0 with h0 | h0
      · subst h0
        have hnil : l = [] := List.eq_nil_of_length_eq_zero hlen
        subst hnil
        rcases Nat.eq_zero_or_pos cap0 with hc0 | hc0
        · subst hc0; exact Or.inl ⟨⟨_, rfl⟩, rfl⟩
        · obtain ⟨cs', hc, _⟩ := hi 0 hc0
          obtain ⟨_, hcl, hat⟩ := World.cells?_some hc
          have h0 := hat 0 (by omega)
          rw [List.getElem?_eq_getElem (by omega)] at h0
          obtain ⟨b, o, spot⟩ := a
          have hs : spot = none := by simpa [Addr.add] using World.cell?_spot h0
          subst hs
          exact Or.inr ⟨b, o, cap0, rfl, Nat.zero_le _, hm, fun k t hk => by cases hk⟩
      · obtain ⟨l0, hl0⟩ : ∃ x, l[0]? = some x := ⟨_, List.getElem?_eq_getElem (by omega)⟩
        have h0 := hp 0 l0 hl0
        obtain ⟨b, o, spot⟩ := a
        have hs : spot = none := by simpa [Addr.add] using World.cell?_spot h0
        subst hs
        refine Or.inr ⟨b, o, cap0, by rw [hlen], by omega, hm, fun k x hk => ?_⟩
        have h1 := hp k x hk
        rw [add_flat] at h1
        exact h1
    · simp [lenD, hlen]

theorem weights_at {P : Program} {ts : List TypeId} {ds : List (DataW H)} (j : Nat) (h : (DataW.weightsEach P ts ds).all (· ≤ reachBytes) = true) {t : TypeId} {d : DataW H} (ht : ts[j]? = some t) (hd : ds[j]? = some d) : (d.weights P t).all (· ≤ reachBytes) = true := by
  induction ts generalizing ds j with
  | nil => cases ht
  | cons t0 ts ih =>
    cases ds with
    | nil => cases hd
    | cons d0 ds =>
      rw [DataW.weightsEach, List.all_append, Bool.and_eq_true] at h
      cases j with
      | zero => cases ht; cases hd; exact h.1
      | succ j => exact ih j h.2 ht hd

theorem weights_slice {P : Program} {t e : TypeId} {d : DataW H} (ht : P.underlying t = some (.slice e)) (h : (d.weights P t).all (· ≤ reachBytes) = true) : lenD d * P.bytesOf e ≤ reachBytes ∧ ∀ x ∈ elemsD d, (x.weights P e).all (· ≤ reachBytes) = true := by
  cases d with
  | slice es sp =>
    rw [DataW.weights, ht] at h
    simp only [List.all_cons, List.all_append, Bool.and_eq_true, decide_eq_true_eq] at h
    obtain ⟨h1, h2, _⟩ := h
    refine ⟨Nat.le_trans (Nat.mul_le_mul_right _ (by simp [lenD])) h1, fun x hx => ?_⟩
    have : ∀ (es : List (DataW H)), (DataW.weightsAll P e es).all (· ≤ reachBytes) = true → ∀ x ∈ es, (x.weights P e).all (· ≤ reachBytes) = true := by
      intro es
      induction es with
      | nil => intro _ x hx; cases hx
      | cons y es ih =>
        intro h x hx
        rw [DataW.weightsAll, List.all_append, Bool.and_eq_true] at h
        rcases List.mem_cons.1 hx with rfl | hx
        · exact h.1
        · exact ih h.2 x hx
    exact this es h2 x hx
  | _ => exact ⟨by simp [lenD], fun x hx => by cases hx⟩

theorem b_tok : Tryz.prog.bytesOf 65 = 56 := by kernel_rfl

theorem b_toks : Tryz.prog.bytesOf 39 = 24 := by kernel_rfl

theorem b_byte : Tryz.prog.bytesOf 5 = 1 := by kernel_rfl

theorem toks_small {d : DataW H} {l : List Tok} (h : (d.weights Tryz.prog 39).all (· ≤ reachBytes) = true) (hz : lenD d = l.length) : l.length ≤ 140737488351232 := by
  have := (weights_slice Tryz.underlying39 h).1
  rw [b_tok, hz] at this
  unfold reachBytes at this
  omega

theorem lins_small {d : DataW H} {ls : List (List Tok)} (h : (d.weights Tryz.prog 27).all (· ≤ reachBytes) = true) (hz : LensD d ls) : ls.length ≤ 140737488351232 ∧ ∀ l ∈ ls, l.length ≤ 140737488351232 := by
  obtain ⟨h1, h2⟩ := weights_slice Tryz.underlying27 h
  rw [b_toks, hz.1] at h1
  unfold reachBytes at h1
  refine ⟨by omega, fun l hl => ?_⟩
  obtain ⟨k, hk⟩ := List.getElem?_of_mem hl
  obtain ⟨e, he, hlen⟩ := hz.2 k l hk
  exact toks_small (h2 e (List.mem_of_getElem? he)) hlen

theorem bys_small {d : DataW H} {l : List UInt8} (h : (d.weights Tryz.prog 32).all (· ≤ reachBytes) = true) (hz : lenD d = l.length) : l.length ≤ 140737488351232 := by
  have := (weights_slice Tryz.underlying32 h).1
  rw [b_byte, hz] at this
  unfold reachBytes at this
  omega

end

end Go.Proofs.YtdgmdkkockbkjaaGreatDoor

