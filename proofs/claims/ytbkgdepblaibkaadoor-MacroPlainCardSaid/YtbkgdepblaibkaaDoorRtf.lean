/- Contracts of typecaseref10: a token. -/
import Derived.Test.YtbkgdepblaibkaaDoorRte
namespace Go.Proofs.YtbkgdepblaibkaaDoor
open Go.RowKit
set_option linter.unusedVariables false
set_option linter.unusedSimpArgs false

theorem ext_take0 (l : List UInt8) (k : Nat) : (B l).extract 0 k = B (l.take k) := by
  apply ByteArray.ext
  rw [ByteArray.data_extract]
  simp

def RetTok (r : Tok × Nat × Nat) (w : World) (e : Ending) (w' : World) : Prop := e = .returned (.tuple #[tokV r.1, .int .i64 (r.2.1 : Nat), .int .i64 (r.2.2 : Nat)]) ∧ Nx w w'

theorem ret_tok {r : Tok × Nat × Nat} {v : Value} {a b : Int} (h1 : tokV r.1 = v) (h2 : (r.2.1 : Int) = a) (h3 : (r.2.2 : Int) = b) : Ending.returned (.tuple #[v, .int .i64 a, .int .i64 b]) = .returned (.tuple #[tokV r.1, .int .i64 (r.2.1 : Nat), .int .i64 (r.2.2 : Nat)]) := by rw [h1, h2, h3]

theorem getD_0 (l : List UInt8) (h : 1 ≤ l.length) : l[0]? = some (l.getD 0 0) := by
  cases l with
  | nil => simp at h
  | cons a l => rfl

theorem six_cells {w w2 : World} {T : TypeId} {a b c d e f : Value} (h : Nx (w.alloc (.cells #[a, b, c, d, e, f] T)) w2) :
    w2.cell? ⟨w.heap.size, 0, none⟩ = some a ∧ w2.cell? ⟨w.heap.size, 1, none⟩ = some b ∧ w2.cell? ⟨w.heap.size, 2, none⟩ = some c ∧ w2.cell? ⟨w.heap.size, 3, none⟩ = some d ∧ w2.cell? ⟨w.heap.size, 4, none⟩ = some e ∧ w2.cell? ⟨w.heap.size, 5, none⟩ = some f ∧
    w2.frozen? ⟨w.heap.size, 0, none⟩ = false ∧ w2.frozen? ⟨w.heap.size, 1, none⟩ = false ∧ w2.frozen? ⟨w.heap.size, 2, none⟩ = false ∧ w2.frozen? ⟨w.heap.size, 3, none⟩ = false ∧ w2.frozen? ⟨w.heap.size, 4, none⟩ = false ∧ w2.frozen? ⟨w.heap.size, 5, none⟩ = false ∧ w.heap.size < w2.heap.size := by
  have hs := h.size
  have e1 : (w.alloc (.cells #[a, b, c, d, e, f] T)).heap.size = w.heap.size + 1 := by simp
  refine ⟨h.cell (by simp), h.cell (by simp), h.cell (by simp), h.cell (by simp), h.cell (by simp), h.cell (by simp), ?_, ?_, ?_, ?_, ?_, ?_, by omega⟩
  all_goals (rw [h.frozen (by rw [e1]; exact Nat.lt_succ_self _)]; simp)

set_option maxHeartbeats 2000000 in
set_option maxRecDepth 100000 in
theorem token_name (l r : List UInt8) (c : UInt8) (K : Nat) (t : List UInt8) (w : World) (h1 : 1 ≤ l.length) (hl : l.length ≤ 1000000) (hc : l.getD 0 0 = c) (hr : l.drop 1 = r) (h_C1 : (letN ++ [46]).contains c = true) (hK : whileN goN l = K) :
    Calls Tryd.prog 74 #[.string (B l)] w (RetTok (tokR l) w) := by
  have HV := Lib.hid (show tokR l = (tokN 1 (l.take K), K, 0) from by unfold tokR; rw [hc, if_pos h_C1, hK])
  generalize tokR l = V at *
  obtain ⟨p0, e0⟩ := byte_at l 0 c (by rw [getD_0 l h1, hc])
  have n0 : (0 : Int) < l.length := by omega
  have n1 : (1 : Int) ≤ l.length := by omega
  have er : (B l).extract 1 l.length = B r := by rw [← hr]; exact ext_drop l 1 h1
  have hrl : r.length + 1 = l.length := by rw [← hr, List.length_drop]; omega
  have C1 := Lib.hid (fun w => (show Calls Tryd.prog 73 #[.int .u8 c.toNat, .string (B (letN ++ [46]))] w fun e w' => e = .returned (.bool true) ∧ w = w' from by have h := in_any c (letN ++ [46]) w (by decide); rw [h_C1] at h; exact h))
  have CW := Lib.hid (fun w => (show Calls Tryd.prog 87 #[.string (B l), .string (B goN)] w fun e w' => e = .returned (.int .i64 (K : Nat)) ∧ w = w' from by have h := while_any l goN w hl (by decide); rw [hK] at h; exact h))
  have hKl : K ≤ l.length := by rw [← hK]; exact whileN_le goN l
  clear hc hr
  go_enter Tryd.func74, Tryd.ntmps74
  go_wp2_with fail
  refine (C1.out _).mono ?_
  rintro e w2 ⟨rfl, rfl⟩
  go_wp2_with fail
  refine (CW.out _).mono ?_
  rintro e w2 ⟨rfl, rfl⟩
  go_wp2
  refine bodyPost_ret (v := .tuple #[.agg #[.int .i64 1, .int .i64 0, .int .i64 0, .string ((B l).extract 0 K), .int .u32 0, .int .i64 0], .int .i64 K, .int .i64 0]) (by simp [results, Tryd.results74, go_sem]) rfl ⟨ret_tok (by rw [HV.out, ext_take0]; rfl) (by rw [HV.out]) (by rw [HV.out]; rfl), ?_⟩
  repeat (with_reducible first | exact Nx.refl _ | assumption | exact HNQ.out | refine Nx.setCell ?_ (Nat.le_refl _) _ | refine Nx.alloc ?_ _)

set_option maxHeartbeats 2000000 in
set_option maxRecDepth 100000 in
theorem token_number (l r : List UInt8) (c : UInt8) (K : Nat) (t : List UInt8) (w : World) (h1 : 1 ≤ l.length) (hl : l.length ≤ 1000000) (hc : l.getD 0 0 = c) (hr : l.drop 1 = r) (h_C1 : (letN ++ [46]).contains c = false) (h_C2 : digN.contains c = true) :
    Calls Tryd.prog 74 #[.string (B l)] w (RetTok (tokR l) w) := by
  have HV := Lib.hid (show tokR l = (tokU (numR l).1, (numR l).2, 3) from by unfold tokR; rw [hc, if_neg (by rw [h_C1]; simp), if_pos h_C2])
  generalize tokR l = V at *
  obtain ⟨p0, e0⟩ := byte_at l 0 c (by rw [getD_0 l h1, hc])
  have n0 : (0 : Int) < l.length := by omega
  have n1 : (1 : Int) ≤ l.length := by omega
  have er : (B l).extract 1 l.length = B r := by rw [← hr]; exact ext_drop l 1 h1
  have hrl : r.length + 1 = l.length := by rw [← hr, List.length_drop]; omega
  have C1 := Lib.hid (fun w => (show Calls Tryd.prog 73 #[.int .u8 c.toNat, .string (B (letN ++ [46]))] w fun e w' => e = .returned (.bool false) ∧ w = w' from by have h := in_any c (letN ++ [46]) w (by decide); rw [h_C1] at h; exact h))
  have C2 := Lib.hid (fun w => (show Calls Tryd.prog 73 #[.int .u8 c.toNat, .string (B (digN))] w fun e w' => e = .returned (.bool true) ∧ w = w' from by have h := in_any c (digN) w (by decide); rw [h_C2] at h; exact h))
  have CN := Lib.hid (fun w => num_any l w hl)
  generalize numR l = q at *
  clear hc hr
  go_enter Tryd.func74, Tryd.ntmps74
  go_wp2_with fail
  refine (C1.out _).mono ?_
  rintro e w2 ⟨rfl, rfl⟩
  go_wp2_with fail
  refine (C2.out _).mono ?_
  rintro e w2 ⟨rfl, rfl⟩
  go_wp2_with fail
  refine (CN.out _).mono ?_
  rintro e w2 ⟨rfl, rfl⟩
  go_wp2
  refine bodyPost_ret (v := .tuple #[.agg #[.int .i64 5, .int .i64 0, .int .i64 0, .string (B []), .int .u32 (q.1 : Nat), .int .i64 0], .int .i64 (q.2 : Nat), .int .i64 3]) (by simp [results, Tryd.results74, go_sem]) rfl ⟨ret_tok (by rw [HV.out]; rfl) (by rw [HV.out]) (by rw [HV.out]; rfl), ?_⟩
  repeat (with_reducible first | exact Nx.refl _ | assumption | exact HNQ.out | refine Nx.setCell ?_ (Nat.le_refl _) _ | refine Nx.alloc ?_ _)

set_option maxHeartbeats 2000000 in
set_option maxRecDepth 100000 in
theorem token_char (l r : List UInt8) (c : UInt8) (K : Nat) (t : List UInt8) (w : World) (h1 : 1 ≤ l.length) (hl : l.length ≤ 1000000) (hc : l.getD 0 0 = c) (hr : l.drop 1 = r) (h_C1 : (letN ++ [46]).contains c = false) (h_C2 : digN.contains c = false) (hc39 : c = 39) (hq : 0 < (quoR 39 r).2 ∧ (quoR 39 r).2 < r.length ∧ r.getD (quoR 39 r).2 0 = 39) :
    Calls Tryd.prog 74 #[.string (B l)] w (RetTok (tokR l) w) := by
  have HV := Lib.hid (show tokR l = (tokU (quoR 39 r).1.toNat, (quoR 39 r).2 + 2, 0) from by unfold tokR; rw [hc, hr, if_neg (by rw [h_C1]; simp), if_neg (by rw [h_C2]; simp), if_pos hc39, if_pos hq])
  generalize tokR l = V at *
  obtain ⟨p0, e0⟩ := byte_at l 0 c (by rw [getD_0 l h1, hc])
  have n0 : (0 : Int) < l.length := by omega
  have n1 : (1 : Int) ≤ l.length := by omega
  have er : (B l).extract 1 l.length = B r := by rw [← hr]; exact ext_drop l 1 h1
  have hrl : r.length + 1 = l.length := by rw [← hr, List.length_drop]; omega
  have C1 := Lib.hid (fun w => (show Calls Tryd.prog 73 #[.int .u8 c.toNat, .string (B (letN ++ [46]))] w fun e w' => e = .returned (.bool false) ∧ w = w' from by have h := in_any c (letN ++ [46]) w (by decide); rw [h_C1] at h; exact h))
  have C2 := Lib.hid (fun w => (show Calls Tryd.prog 73 #[.int .u8 c.toNat, .string (B (digN))] w fun e w' => e = .returned (.bool false) ∧ w = w' from by have h := in_any c (digN) w (by decide); rw [h_C2] at h; exact h))
  have b39 : ((c.toNat : Int) == 39) = true := u8n c 39 (by omega) true (by rw [hc39]; rfl)
  have hb := byte_at r (quoR 39 r).2 39 (by have := hq.2.2; rw [List.getD_eq_getElem?_getD] at this; rw [List.getElem?_eq_getElem hq.2.1] at this ⊢; exact congrArg some this)
  have CQ := Lib.hid (fun w => (show Calls Tryd.prog 89 #[.string (B r), .int .u8 39] w (RetBN (quoR 39 r) w) from quoted_any 39 r w (by omega)))
  have hqc := (quoR 39 r).1.toNat_lt
  have hqle := quoR_le 39 r
  generalize quoR 39 r = q at *
  obtain ⟨p1, e1⟩ := hb
  have k0 : (0 : Int) < (q.2 : Int) := by omega
  have k1 : (q.2 : Int) < r.length := by omega
  have k2 : ((((B r)[q.2]'p1).toNat : Int) == 39) = true := by rw [e1]; rfl
  clear e1 hq
  clear hc39
  clear hc hr
  go_enter Tryd.func74, Tryd.ntmps74
  go_wp2_with fail
  refine (C1.out _).mono ?_
  rintro e w2 ⟨rfl, rfl⟩
  go_wp2_with fail
  refine (C2.out _).mono ?_
  rintro e w2 ⟨rfl, rfl⟩
  go_wp2_with fail
  refine (CQ.out _).mono ?_
  rintro e w2 ⟨rfl, hnq⟩
  have HNQ := Lib.hid (((Nx.refl w).alloc _).trans hnq)
  obtain ⟨r0, r1, r2, r3, r4, r5, f0, f1, f2, f3, f4, f5, zq⟩ := six_cells hnq
  clear hnq
  go_wp2
  refine bodyPost_ret (v := .tuple #[.agg #[.int .i64 5, .int .i64 0, .int .i64 0, .string (B []), .int .u32 (q.1.toNat : Nat), .int .i64 0], .int .i64 ((q.2 : Nat) + 2), .int .i64 0]) (by simp [results, Tryd.results74, go_sem, r0, r1, r2, r3, r4, r5, f0, f1, f2, f3, f4, f5]) rfl ⟨ret_tok (by rw [HV.out]; rfl) (by rw [HV.out]; rfl) (by rw [HV.out]; rfl), ?_⟩
  repeat (with_reducible first | exact Nx.refl _ | assumption | exact HNQ.out | refine Nx.setCell ?_ (Nat.le_refl _) _ | refine Nx.alloc ?_ _)

set_option maxHeartbeats 2000000 in
set_option maxRecDepth 100000 in
theorem token_noa (l r : List UInt8) (c : UInt8) (K : Nat) (t : List UInt8) (w : World) (h1 : 1 ≤ l.length) (hl : l.length ≤ 1000000) (hc : l.getD 0 0 = c) (hr : l.drop 1 = r) (h_C1 : (letN ++ [46]).contains c = false) (h_C2 : digN.contains c = false) (hc39 : c = 39) (hq : (quoR 39 r).2 = 0) :
    Calls Tryd.prog 74 #[.string (B l)] w (RetTok (tokR l) w) := by
  have HV := Lib.hid (show tokR l = (tok0, 0, 3) from by unfold tokR; rw [hc, hr, if_neg (by rw [h_C1]; simp), if_neg (by rw [h_C2]; simp), if_pos hc39, if_neg (fun h => by omega)])
  generalize tokR l = V at *
  obtain ⟨p0, e0⟩ := byte_at l 0 c (by rw [getD_0 l h1, hc])
  have n0 : (0 : Int) < l.length := by omega
  have n1 : (1 : Int) ≤ l.length := by omega
  have er : (B l).extract 1 l.length = B r := by rw [← hr]; exact ext_drop l 1 h1
  have hrl : r.length + 1 = l.length := by rw [← hr, List.length_drop]; omega
  have C1 := Lib.hid (fun w => (show Calls Tryd.prog 73 #[.int .u8 c.toNat, .string (B (letN ++ [46]))] w fun e w' => e = .returned (.bool false) ∧ w = w' from by have h := in_any c (letN ++ [46]) w (by decide); rw [h_C1] at h; exact h))
  have C2 := Lib.hid (fun w => (show Calls Tryd.prog 73 #[.int .u8 c.toNat, .string (B (digN))] w fun e w' => e = .returned (.bool false) ∧ w = w' from by have h := in_any c (digN) w (by decide); rw [h_C2] at h; exact h))
  have b39 : ((c.toNat : Int) == 39) = true := u8n c 39 (by omega) true (by rw [hc39]; rfl)
  have CQ := Lib.hid (fun w => (show Calls Tryd.prog 89 #[.string (B r), .int .u8 39] w (RetBN (quoR 39 r) w) from quoted_any 39 r w (by omega)))
  have hqc := (quoR 39 r).1.toNat_lt
  have hqle := quoR_le 39 r
  generalize quoR 39 r = q at *
  have k0 : decide (0 < q.2) = false := decide_eq_false (by omega)
  clear hq
  clear hc39
  clear hc hr
  go_enter Tryd.func74, Tryd.ntmps74
  go_wp2_with fail
  refine (C1.out _).mono ?_
  rintro e w2 ⟨rfl, rfl⟩
  go_wp2_with fail
  refine (C2.out _).mono ?_
  rintro e w2 ⟨rfl, rfl⟩
  go_wp2_with fail
  refine (CQ.out _).mono ?_
  rintro e w2 ⟨rfl, hnq⟩
  have HNQ := Lib.hid (((Nx.refl w).alloc _).trans hnq)
  obtain ⟨r0, r1, r2, r3, r4, r5, f0, f1, f2, f3, f4, f5, zq⟩ := six_cells hnq
  clear hnq
  go_wp2
  refine bodyPost_ret (v := .tuple #[.agg #[.int .i64 0, .int .i64 0, .int .i64 0, .string (B []), .int .u32 0, .int .i64 0], .int .i64 0, .int .i64 3]) (by simp [results, Tryd.results74, go_sem, r0, r1, r2, r3, r4, r5, f0, f1, f2, f3, f4, f5]) rfl ⟨ret_tok (by rw [HV.out]; rfl) (by rw [HV.out]; rfl) (by rw [HV.out]; rfl), ?_⟩
  repeat (with_reducible first | exact Nx.refl _ | assumption | exact HNQ.out | refine Nx.setCell ?_ (Nat.le_refl _) _ | refine Nx.alloc ?_ _)

set_option maxHeartbeats 2000000 in
set_option maxRecDepth 100000 in
theorem token_nob (l r : List UInt8) (c : UInt8) (K : Nat) (t : List UInt8) (w : World) (h1 : 1 ≤ l.length) (hl : l.length ≤ 1000000) (hc : l.getD 0 0 = c) (hr : l.drop 1 = r) (h_C1 : (letN ++ [46]).contains c = false) (h_C2 : digN.contains c = false) (hc39 : c = 39) (hq : 0 < (quoR 39 r).2) (hq2 : r.length ≤ (quoR 39 r).2) :
    Calls Tryd.prog 74 #[.string (B l)] w (RetTok (tokR l) w) := by
  have HV := Lib.hid (show tokR l = (tok0, 0, 3) from by unfold tokR; rw [hc, hr, if_neg (by rw [h_C1]; simp), if_neg (by rw [h_C2]; simp), if_pos hc39, if_neg (fun h => by omega)])
  generalize tokR l = V at *
  obtain ⟨p0, e0⟩ := byte_at l 0 c (by rw [getD_0 l h1, hc])
  have n0 : (0 : Int) < l.length := by omega
  have n1 : (1 : Int) ≤ l.length := by omega
  have er : (B l).extract 1 l.length = B r := by rw [← hr]; exact ext_drop l 1 h1
  have hrl : r.length + 1 = l.length := by rw [← hr, List.length_drop]; omega
  have C1 := Lib.hid (fun w => (show Calls Tryd.prog 73 #[.int .u8 c.toNat, .string (B (letN ++ [46]))] w fun e w' => e = .returned (.bool false) ∧ w = w' from by have h := in_any c (letN ++ [46]) w (by decide); rw [h_C1] at h; exact h))
  have C2 := Lib.hid (fun w => (show Calls Tryd.prog 73 #[.int .u8 c.toNat, .string (B (digN))] w fun e w' => e = .returned (.bool false) ∧ w = w' from by have h := in_any c (digN) w (by decide); rw [h_C2] at h; exact h))
  have b39 : ((c.toNat : Int) == 39) = true := u8n c 39 (by omega) true (by rw [hc39]; rfl)
  have CQ := Lib.hid (fun w => (show Calls Tryd.prog 89 #[.string (B r), .int .u8 39] w (RetBN (quoR 39 r) w) from quoted_any 39 r w (by omega)))
  have hqc := (quoR 39 r).1.toNat_lt
  have hqle := quoR_le 39 r
  generalize quoR 39 r = q at *
  have k0 : (0 : Int) < (q.2 : Int) := by omega
  have k1 : decide ((q.2 : Int) < (r.length : Int)) = false := decide_eq_false (by omega)
  clear hc39
  clear hc hr
  go_enter Tryd.func74, Tryd.ntmps74
  go_wp2_with fail
  refine (C1.out _).mono ?_
  rintro e w2 ⟨rfl, rfl⟩
  go_wp2_with fail
  refine (C2.out _).mono ?_
  rintro e w2 ⟨rfl, rfl⟩
  go_wp2_with fail
  refine (CQ.out _).mono ?_
  rintro e w2 ⟨rfl, hnq⟩
  have HNQ := Lib.hid (((Nx.refl w).alloc _).trans hnq)
  obtain ⟨r0, r1, r2, r3, r4, r5, f0, f1, f2, f3, f4, f5, zq⟩ := six_cells hnq
  clear hnq
  go_wp2
  refine bodyPost_ret (v := .tuple #[.agg #[.int .i64 0, .int .i64 0, .int .i64 0, .string (B []), .int .u32 0, .int .i64 0], .int .i64 0, .int .i64 3]) (by simp [results, Tryd.results74, go_sem, r0, r1, r2, r3, r4, r5, f0, f1, f2, f3, f4, f5]) rfl ⟨ret_tok (by rw [HV.out]; rfl) (by rw [HV.out]; rfl) (by rw [HV.out]; rfl), ?_⟩
  repeat (with_reducible first | exact Nx.refl _ | assumption | exact HNQ.out | refine Nx.setCell ?_ (Nat.le_refl _) _ | refine Nx.alloc ?_ _)

set_option maxHeartbeats 2000000 in
set_option maxRecDepth 100000 in
theorem token_noc (l r : List UInt8) (c : UInt8) (K : Nat) (t : List UInt8) (w : World) (h1 : 1 ≤ l.length) (hl : l.length ≤ 1000000) (hc : l.getD 0 0 = c) (hr : l.drop 1 = r) (h_C1 : (letN ++ [46]).contains c = false) (h_C2 : digN.contains c = false) (hc39 : c = 39) (x : UInt8) (hq : 0 < (quoR 39 r).2) (hx : r[(quoR 39 r).2]? = some x) (hx2 : ¬ x = 39) :
    Calls Tryd.prog 74 #[.string (B l)] w (RetTok (tokR l) w) := by
  have HV := Lib.hid (show tokR l = (tok0, 0, 3) from by unfold tokR; rw [hc, hr, if_neg (by rw [h_C1]; simp), if_neg (by rw [h_C2]; simp), if_pos hc39, if_neg (fun h => hx2 (by have := h.2.2; rw [List.getD_eq_getElem?_getD, hx] at this; exact this))])
  generalize tokR l = V at *
  obtain ⟨p0, e0⟩ := byte_at l 0 c (by rw [getD_0 l h1, hc])
  have n0 : (0 : Int) < l.length := by omega
  have n1 : (1 : Int) ≤ l.length := by omega
  have er : (B l).extract 1 l.length = B r := by rw [← hr]; exact ext_drop l 1 h1
  have hrl : r.length + 1 = l.length := by rw [← hr, List.length_drop]; omega
  have C1 := Lib.hid (fun w => (show Calls Tryd.prog 73 #[.int .u8 c.toNat, .string (B (letN ++ [46]))] w fun e w' => e = .returned (.bool false) ∧ w = w' from by have h := in_any c (letN ++ [46]) w (by decide); rw [h_C1] at h; exact h))
  have C2 := Lib.hid (fun w => (show Calls Tryd.prog 73 #[.int .u8 c.toNat, .string (B (digN))] w fun e w' => e = .returned (.bool false) ∧ w = w' from by have h := in_any c (digN) w (by decide); rw [h_C2] at h; exact h))
  have b39 : ((c.toNat : Int) == 39) = true := u8n c 39 (by omega) true (by rw [hc39]; rfl)
  have hb := byte_at r (quoR 39 r).2 x hx
  have hlt := (List.getElem?_eq_some_iff.1 hx).1
  clear hx
  have CQ := Lib.hid (fun w => (show Calls Tryd.prog 89 #[.string (B r), .int .u8 39] w (RetBN (quoR 39 r) w) from quoted_any 39 r w (by omega)))
  have hqc := (quoR 39 r).1.toNat_lt
  have hqle := quoR_le 39 r
  generalize quoR 39 r = q at *
  obtain ⟨p1, e1⟩ := hb
  have k0 : (0 : Int) < (q.2 : Int) := by omega
  have k1 : (q.2 : Int) < r.length := by omega
  have k2 : ((((B r)[q.2]'p1).toNat : Int) == 39) = false := by rw [e1]; exact u8n x 39 (by omega) false (beq_eq_false_iff_ne.2 hx2)
  clear e1
  clear hc39
  clear hc hr
  go_enter Tryd.func74, Tryd.ntmps74
  go_wp2_with fail
  refine (C1.out _).mono ?_
  rintro e w2 ⟨rfl, rfl⟩
  go_wp2_with fail
  refine (C2.out _).mono ?_
  rintro e w2 ⟨rfl, rfl⟩
  go_wp2_with fail
  refine (CQ.out _).mono ?_
  rintro e w2 ⟨rfl, hnq⟩
  have HNQ := Lib.hid (((Nx.refl w).alloc _).trans hnq)
  obtain ⟨r0, r1, r2, r3, r4, r5, f0, f1, f2, f3, f4, f5, zq⟩ := six_cells hnq
  clear hnq
  go_wp2
  refine bodyPost_ret (v := .tuple #[.agg #[.int .i64 0, .int .i64 0, .int .i64 0, .string (B []), .int .u32 0, .int .i64 0], .int .i64 0, .int .i64 3]) (by simp [results, Tryd.results74, go_sem, r0, r1, r2, r3, r4, r5, f0, f1, f2, f3, f4, f5]) rfl ⟨ret_tok (by rw [HV.out]; rfl) (by rw [HV.out]; rfl) (by rw [HV.out]; rfl), ?_⟩
  repeat (with_reducible first | exact Nx.refl _ | assumption | exact HNQ.out | refine Nx.setCell ?_ (Nat.le_refl _) _ | refine Nx.alloc ?_ _)

set_option maxHeartbeats 2000000 in
set_option maxRecDepth 100000 in
theorem token_text (l r : List UInt8) (c : UInt8) (K : Nat) (t : List UInt8) (w : World) (h1 : 1 ≤ l.length) (hl : l.length ≤ 1000000) (hc : l.getD 0 0 = c) (hr : l.drop 1 = r) (h_C1 : (letN ++ [46]).contains c = false) (h_C2 : digN.contains c = false) (hc39 : ¬ c = 39) (hc34 : c = 34) :
    Calls Tryd.prog 74 #[.string (B l)] w (RetTok (tokR l) w) := by
  have HV := Lib.hid (show tokR l = (tokN 6 (textR l).1, (textR l).2, 4) from by unfold tokR; rw [hc, hr, if_neg (by rw [h_C1]; simp), if_neg (by rw [h_C2]; simp), if_neg hc39, if_pos hc34])
  generalize tokR l = V at *
  obtain ⟨p0, e0⟩ := byte_at l 0 c (by rw [getD_0 l h1, hc])
  have n0 : (0 : Int) < l.length := by omega
  have n1 : (1 : Int) ≤ l.length := by omega
  have er : (B l).extract 1 l.length = B r := by rw [← hr]; exact ext_drop l 1 h1
  have hrl : r.length + 1 = l.length := by rw [← hr, List.length_drop]; omega
  have C1 := Lib.hid (fun w => (show Calls Tryd.prog 73 #[.int .u8 c.toNat, .string (B (letN ++ [46]))] w fun e w' => e = .returned (.bool false) ∧ w = w' from by have h := in_any c (letN ++ [46]) w (by decide); rw [h_C1] at h; exact h))
  have C2 := Lib.hid (fun w => (show Calls Tryd.prog 73 #[.int .u8 c.toNat, .string (B (digN))] w fun e w' => e = .returned (.bool false) ∧ w = w' from by have h := in_any c (digN) w (by decide); rw [h_C2] at h; exact h))
  have b39 : ((c.toNat : Int) == 39) = false := u8n c 39 (by omega) false (beq_eq_false_iff_ne.2 hc39)
  have b34 : ((c.toNat : Int) == 34) = true := u8n c 34 (by omega) true (by rw [hc34]; rfl)
  have CT := Lib.hid (fun w => text_any l w h1 hl)
  generalize textR l = q at *
  clear hc34
  clear hc hr
  go_enter Tryd.func74, Tryd.ntmps74
  go_wp2_with fail
  refine (C1.out _).mono ?_
  rintro e w2 ⟨rfl, rfl⟩
  go_wp2_with fail
  refine (C2.out _).mono ?_
  rintro e w2 ⟨rfl, rfl⟩
  go_wp2_with fail
  refine (CT.out _).mono ?_
  rintro e w2 ⟨rfl, hnq⟩
  have HNQ := Lib.hid (((Nx.refl w).alloc _).trans hnq)
  obtain ⟨r0, r1, r2, r3, r4, r5, f0, f1, f2, f3, f4, f5, zq⟩ := six_cells hnq
  clear hnq
  go_wp2
  refine bodyPost_ret (v := .tuple #[.agg #[.int .i64 6, .int .i64 0, .int .i64 0, .string (B q.1), .int .u32 0, .int .i64 0], .int .i64 (q.2 : Nat), .int .i64 4]) (by simp [results, Tryd.results74, go_sem, r0, r1, r2, r3, r4, r5, f0, f1, f2, f3, f4, f5]) rfl ⟨ret_tok (by rw [HV.out]; rfl) (by rw [HV.out]) (by rw [HV.out]; rfl), ?_⟩
  repeat (with_reducible first | exact Nx.refl _ | assumption | exact HNQ.out | refine Nx.setCell ?_ (Nat.le_refl _) _ | refine Nx.alloc ?_ _)

set_option maxHeartbeats 2000000 in
set_option maxRecDepth 100000 in
theorem token_fn_hi (l r : List UInt8) (c : UInt8) (K : Nat) (t : List UInt8) (w : World) (h1 : 1 ≤ l.length) (hl : l.length ≤ 1000000) (hc : l.getD 0 0 = c) (hr : l.drop 1 = r) (h_C1 : (letN ++ [46]).contains c = false) (h_C2 : digN.contains c = false) (hc39 : ¬ c = 39) (hc34 : ¬ c = 34) (hK : whileN (letN ++ digN) r = K) (ht : r.take K = t) (hc37 : c = 37) (htt : t = [104, 105]) :
    Calls Tryd.prog 74 #[.string (B l)] w (RetTok (tokR l) w) := by
  have HV := Lib.hid (show tokR l = (tokN 4 t, K + 1, 0) from by unfold tokR; rw [hc, hr, if_neg (by rw [h_C1]; simp), if_neg (by rw [h_C2]; simp), if_neg hc39, if_neg hc34, hK, ht, if_pos ⟨hc37, Or.inl htt⟩])
  generalize tokR l = V at *
  obtain ⟨p0, e0⟩ := byte_at l 0 c (by rw [getD_0 l h1, hc])
  have n0 : (0 : Int) < l.length := by omega
  have n1 : (1 : Int) ≤ l.length := by omega
  have er : (B l).extract 1 l.length = B r := by rw [← hr]; exact ext_drop l 1 h1
  have hrl : r.length + 1 = l.length := by rw [← hr, List.length_drop]; omega
  have C1 := Lib.hid (fun w => (show Calls Tryd.prog 73 #[.int .u8 c.toNat, .string (B (letN ++ [46]))] w fun e w' => e = .returned (.bool false) ∧ w = w' from by have h := in_any c (letN ++ [46]) w (by decide); rw [h_C1] at h; exact h))
  have C2 := Lib.hid (fun w => (show Calls Tryd.prog 73 #[.int .u8 c.toNat, .string (B (digN))] w fun e w' => e = .returned (.bool false) ∧ w = w' from by have h := in_any c (digN) w (by decide); rw [h_C2] at h; exact h))
  have b39 : ((c.toNat : Int) == 39) = false := u8n c 39 (by omega) false (beq_eq_false_iff_ne.2 hc39)
  have b34 : ((c.toNat : Int) == 34) = false := u8n c 34 (by omega) false (beq_eq_false_iff_ne.2 hc34)
  have CW := Lib.hid (fun w => (show Calls Tryd.prog 87 #[.string (B r), .string (B (letN ++ digN))] w fun e w' => e = .returned (.int .i64 (K : Nat)) ∧ w = w' from by have h := while_any r (letN ++ digN) w (by omega) (by decide); rw [hK] at h; exact h))
  have hKl : K ≤ r.length := by rw [← hK]; exact whileN_le (letN ++ digN) r
  have ek : (B r).extract 0 K = B t := by rw [← ht]; exact ext_take0 r K
  have b37 : ((c.toNat : Int) == 37) = true := u8n c 37 (by omega) true (by rw [hc37]; rfl)
  have ta : (t == [104, 105]) = true := by rw [htt]; rfl
  clear htt ht
  clear hc37
  clear hc hr
  go_enter Tryd.func74, Tryd.ntmps74
  go_wp2_with fail
  refine (C1.out _).mono ?_
  rintro e w2 ⟨rfl, rfl⟩
  go_wp2_with fail
  refine (C2.out _).mono ?_
  rintro e w2 ⟨rfl, rfl⟩
  go_wp2_with fail
  refine (CW.out _).mono ?_
  rintro e w2 ⟨rfl, rfl⟩
  go_wp2
  refine bodyPost_ret (v := .tuple #[.agg #[.int .i64 4, .int .i64 0, .int .i64 0, .string (B t), .int .u32 0, .int .i64 0], .int .i64 ((K : Nat) + 1), .int .i64 0]) (by simp [results, Tryd.results74, go_sem]) rfl ⟨ret_tok (by rw [HV.out]; rfl) (by rw [HV.out]; rfl) (by rw [HV.out]; rfl), ?_⟩
  repeat (with_reducible first | exact Nx.refl _ | assumption | exact HNQ.out | refine Nx.setCell ?_ (Nat.le_refl _) _ | refine Nx.alloc ?_ _)

set_option maxHeartbeats 2000000 in
set_option maxRecDepth 100000 in
theorem token_fn_lo (l r : List UInt8) (c : UInt8) (K : Nat) (t : List UInt8) (w : World) (h1 : 1 ≤ l.length) (hl : l.length ≤ 1000000) (hc : l.getD 0 0 = c) (hr : l.drop 1 = r) (h_C1 : (letN ++ [46]).contains c = false) (h_C2 : digN.contains c = false) (hc39 : ¬ c = 39) (hc34 : ¬ c = 34) (hK : whileN (letN ++ digN) r = K) (ht : r.take K = t) (hc37 : c = 37) (htt : t = [108, 111]) :
    Calls Tryd.prog 74 #[.string (B l)] w (RetTok (tokR l) w) := by
  have HV := Lib.hid (show tokR l = (tokN 4 t, K + 1, 0) from by unfold tokR; rw [hc, hr, if_neg (by rw [h_C1]; simp), if_neg (by rw [h_C2]; simp), if_neg hc39, if_neg hc34, hK, ht, if_pos ⟨hc37, Or.inr (Or.inl htt)⟩])
  generalize tokR l = V at *
  obtain ⟨p0, e0⟩ := byte_at l 0 c (by rw [getD_0 l h1, hc])
  have n0 : (0 : Int) < l.length := by omega
  have n1 : (1 : Int) ≤ l.length := by omega
  have er : (B l).extract 1 l.length = B r := by rw [← hr]; exact ext_drop l 1 h1
  have hrl : r.length + 1 = l.length := by rw [← hr, List.length_drop]; omega
  have C1 := Lib.hid (fun w => (show Calls Tryd.prog 73 #[.int .u8 c.toNat, .string (B (letN ++ [46]))] w fun e w' => e = .returned (.bool false) ∧ w = w' from by have h := in_any c (letN ++ [46]) w (by decide); rw [h_C1] at h; exact h))
  have C2 := Lib.hid (fun w => (show Calls Tryd.prog 73 #[.int .u8 c.toNat, .string (B (digN))] w fun e w' => e = .returned (.bool false) ∧ w = w' from by have h := in_any c (digN) w (by decide); rw [h_C2] at h; exact h))
  have b39 : ((c.toNat : Int) == 39) = false := u8n c 39 (by omega) false (beq_eq_false_iff_ne.2 hc39)
  have b34 : ((c.toNat : Int) == 34) = false := u8n c 34 (by omega) false (beq_eq_false_iff_ne.2 hc34)
  have CW := Lib.hid (fun w => (show Calls Tryd.prog 87 #[.string (B r), .string (B (letN ++ digN))] w fun e w' => e = .returned (.int .i64 (K : Nat)) ∧ w = w' from by have h := while_any r (letN ++ digN) w (by omega) (by decide); rw [hK] at h; exact h))
  have hKl : K ≤ r.length := by rw [← hK]; exact whileN_le (letN ++ digN) r
  have ek : (B r).extract 0 K = B t := by rw [← ht]; exact ext_take0 r K
  have b37 : ((c.toNat : Int) == 37) = true := u8n c 37 (by omega) true (by rw [hc37]; rfl)
  have ta : (t == [104, 105]) = false := by rw [htt]; rfl
  have tb : (t == [108, 111]) = true := by rw [htt]; rfl
  clear htt ht
  clear hc37
  clear hc hr
  go_enter Tryd.func74, Tryd.ntmps74
  go_wp2_with fail
  refine (C1.out _).mono ?_
  rintro e w2 ⟨rfl, rfl⟩
  go_wp2_with fail
  refine (C2.out _).mono ?_
  rintro e w2 ⟨rfl, rfl⟩
  go_wp2_with fail
  refine (CW.out _).mono ?_
  rintro e w2 ⟨rfl, rfl⟩
  go_wp2
  refine bodyPost_ret (v := .tuple #[.agg #[.int .i64 4, .int .i64 0, .int .i64 0, .string (B t), .int .u32 0, .int .i64 0], .int .i64 ((K : Nat) + 1), .int .i64 0]) (by simp [results, Tryd.results74, go_sem]) rfl ⟨ret_tok (by rw [HV.out]; rfl) (by rw [HV.out]; rfl) (by rw [HV.out]; rfl), ?_⟩
  repeat (with_reducible first | exact Nx.refl _ | assumption | exact HNQ.out | refine Nx.setCell ?_ (Nat.le_refl _) _ | refine Nx.alloc ?_ _)

set_option maxHeartbeats 2000000 in
set_option maxRecDepth 100000 in
theorem token_fn_pc (l r : List UInt8) (c : UInt8) (K : Nat) (t : List UInt8) (w : World) (h1 : 1 ≤ l.length) (hl : l.length ≤ 1000000) (hc : l.getD 0 0 = c) (hr : l.drop 1 = r) (h_C1 : (letN ++ [46]).contains c = false) (h_C2 : digN.contains c = false) (hc39 : ¬ c = 39) (hc34 : ¬ c = 34) (hK : whileN (letN ++ digN) r = K) (ht : r.take K = t) (hc37 : c = 37) (htt : t = [112, 99, 114, 101, 108]) :
    Calls Tryd.prog 74 #[.string (B l)] w (RetTok (tokR l) w) := by
  have HV := Lib.hid (show tokR l = (tokN 4 t, K + 1, 0) from by unfold tokR; rw [hc, hr, if_neg (by rw [h_C1]; simp), if_neg (by rw [h_C2]; simp), if_neg hc39, if_neg hc34, hK, ht, if_pos ⟨hc37, Or.inr (Or.inr htt)⟩])
  generalize tokR l = V at *
  obtain ⟨p0, e0⟩ := byte_at l 0 c (by rw [getD_0 l h1, hc])
  have n0 : (0 : Int) < l.length := by omega
  have n1 : (1 : Int) ≤ l.length := by omega
  have er : (B l).extract 1 l.length = B r := by rw [← hr]; exact ext_drop l 1 h1
  have hrl : r.length + 1 = l.length := by rw [← hr, List.length_drop]; omega
  have C1 := Lib.hid (fun w => (show Calls Tryd.prog 73 #[.int .u8 c.toNat, .string (B (letN ++ [46]))] w fun e w' => e = .returned (.bool false) ∧ w = w' from by have h := in_any c (letN ++ [46]) w (by decide); rw [h_C1] at h; exact h))
  have C2 := Lib.hid (fun w => (show Calls Tryd.prog 73 #[.int .u8 c.toNat, .string (B (digN))] w fun e w' => e = .returned (.bool false) ∧ w = w' from by have h := in_any c (digN) w (by decide); rw [h_C2] at h; exact h))
  have b39 : ((c.toNat : Int) == 39) = false := u8n c 39 (by omega) false (beq_eq_false_iff_ne.2 hc39)
  have b34 : ((c.toNat : Int) == 34) = false := u8n c 34 (by omega) false (beq_eq_false_iff_ne.2 hc34)
  have CW := Lib.hid (fun w => (show Calls Tryd.prog 87 #[.string (B r), .string (B (letN ++ digN))] w fun e w' => e = .returned (.int .i64 (K : Nat)) ∧ w = w' from by have h := while_any r (letN ++ digN) w (by omega) (by decide); rw [hK] at h; exact h))
  have hKl : K ≤ r.length := by rw [← hK]; exact whileN_le (letN ++ digN) r
  have ek : (B r).extract 0 K = B t := by rw [← ht]; exact ext_take0 r K
  have b37 : ((c.toNat : Int) == 37) = true := u8n c 37 (by omega) true (by rw [hc37]; rfl)
  have ta : (t == [104, 105]) = false := by rw [htt]; rfl
  have tb : (t == [108, 111]) = false := by rw [htt]; rfl
  have tc : (t == [112, 99, 114, 101, 108]) = true := by rw [htt]; rfl
  clear htt ht
  clear hc37
  clear hc hr
  go_enter Tryd.func74, Tryd.ntmps74
  go_wp2_with fail
  refine (C1.out _).mono ?_
  rintro e w2 ⟨rfl, rfl⟩
  go_wp2_with fail
  refine (C2.out _).mono ?_
  rintro e w2 ⟨rfl, rfl⟩
  go_wp2_with fail
  refine (CW.out _).mono ?_
  rintro e w2 ⟨rfl, rfl⟩
  go_wp2
  refine bodyPost_ret (v := .tuple #[.agg #[.int .i64 4, .int .i64 0, .int .i64 0, .string (B t), .int .u32 0, .int .i64 0], .int .i64 ((K : Nat) + 1), .int .i64 0]) (by simp [results, Tryd.results74, go_sem]) rfl ⟨ret_tok (by rw [HV.out]; rfl) (by rw [HV.out]; rfl) (by rw [HV.out]; rfl), ?_⟩
  repeat (with_reducible first | exact Nx.refl _ | assumption | exact HNQ.out | refine Nx.setCell ?_ (Nat.le_refl _) _ | refine Nx.alloc ?_ _)

set_option maxHeartbeats 2000000 in
set_option maxRecDepth 100000 in
theorem token_local (l r : List UInt8) (c : UInt8) (K : Nat) (t : List UInt8) (w : World) (h1 : 1 ≤ l.length) (hl : l.length ≤ 1000000) (hc : l.getD 0 0 = c) (hr : l.drop 1 = r) (h_C1 : (letN ++ [46]).contains c = false) (h_C2 : digN.contains c = false) (hc39 : ¬ c = 39) (hc34 : ¬ c = 34) (hK : whileN (letN ++ digN) r = K) (ht : r.take K = t) (hc64 : c = 64) (x : UInt8) (hx : r[0]? = some x) (hKp : 0 < K) (h_C4 : letN.contains x = true) :
    Calls Tryd.prog 74 #[.string (B l)] w (RetTok (tokR l) w) := by
  have HV := Lib.hid (show tokR l = (tokN 2 t, K + 1, 0) from by unfold tokR; rw [hc, hr, if_neg (by rw [h_C1]; simp), if_neg (by rw [h_C2]; simp), if_neg hc39, if_neg hc34, hK, ht, if_neg (by rw [hc64]; intro h; exact absurd h.1 (by decide)), if_pos ⟨Or.inl hc64, hKp, by rw [List.getD_eq_getElem?_getD, hx]; exact h_C4⟩, if_neg (by rw [hc64]; decide)])
  generalize tokR l = V at *
  obtain ⟨p0, e0⟩ := byte_at l 0 c (by rw [getD_0 l h1, hc])
  have n0 : (0 : Int) < l.length := by omega
  have n1 : (1 : Int) ≤ l.length := by omega
  have er : (B l).extract 1 l.length = B r := by rw [← hr]; exact ext_drop l 1 h1
  have hrl : r.length + 1 = l.length := by rw [← hr, List.length_drop]; omega
  have C1 := Lib.hid (fun w => (show Calls Tryd.prog 73 #[.int .u8 c.toNat, .string (B (letN ++ [46]))] w fun e w' => e = .returned (.bool false) ∧ w = w' from by have h := in_any c (letN ++ [46]) w (by decide); rw [h_C1] at h; exact h))
  have C2 := Lib.hid (fun w => (show Calls Tryd.prog 73 #[.int .u8 c.toNat, .string (B (digN))] w fun e w' => e = .returned (.bool false) ∧ w = w' from by have h := in_any c (digN) w (by decide); rw [h_C2] at h; exact h))
  have b39 : ((c.toNat : Int) == 39) = false := u8n c 39 (by omega) false (beq_eq_false_iff_ne.2 hc39)
  have b34 : ((c.toNat : Int) == 34) = false := u8n c 34 (by omega) false (beq_eq_false_iff_ne.2 hc34)
  have CW := Lib.hid (fun w => (show Calls Tryd.prog 87 #[.string (B r), .string (B (letN ++ digN))] w fun e w' => e = .returned (.int .i64 (K : Nat)) ∧ w = w' from by have h := while_any r (letN ++ digN) w (by omega) (by decide); rw [hK] at h; exact h))
  have hKl : K ≤ r.length := by rw [← hK]; exact whileN_le (letN ++ digN) r
  have ek : (B r).extract 0 K = B t := by rw [← ht]; exact ext_take0 r K
  have hc37 : ¬ c = 37 := by rw [hc64]; decide
  have b37 : ((c.toNat : Int) == 37) = false := u8n c 37 (by omega) false (beq_eq_false_iff_ne.2 hc37)
  have b64 : ((c.toNat : Int) == 64) = true := u8n c 64 (by omega) true (by rw [hc64]; rfl)
  have hc92 : ¬ c = 92 := by rw [hc64]; decide
  have b92 : ((c.toNat : Int) == 92) = false := u8n c 92 (by omega) false (beq_eq_false_iff_ne.2 hc92)
  have C4 := Lib.hid (fun w => (show Calls Tryd.prog 73 #[.int .u8 x.toNat, .string (B (letN))] w fun e w' => e = .returned (.bool true) ∧ w = w' from by have h := in_any x (letN) w (by decide); rw [h_C4] at h; exact h))
  obtain ⟨p1, e1⟩ := byte_at r 0 x hx
  have hr0 : (0 : Int) < r.length := by have := (List.getElem?_eq_some_iff.1 hx).1; omega
  have k0 : (0 : Int) < (K : Int) := by omega
  clear hx ht
  clear hc64
  clear hc hr
  go_enter Tryd.func74, Tryd.ntmps74
  go_wp2_with fail
  refine (C1.out _).mono ?_
  rintro e w2 ⟨rfl, rfl⟩
  go_wp2_with fail
  refine (C2.out _).mono ?_
  rintro e w2 ⟨rfl, rfl⟩
  go_wp2_with fail
  refine (CW.out _).mono ?_
  rintro e w2 ⟨rfl, rfl⟩
  go_wp2_with fail
  refine (C4.out _).mono ?_
  rintro e w2 ⟨rfl, rfl⟩
  go_wp2
  refine bodyPost_ret (v := .tuple #[.agg #[.int .i64 2, .int .i64 0, .int .i64 0, .string (B t), .int .u32 0, .int .i64 0], .int .i64 ((K : Nat) + 1), .int .i64 0]) (by simp [results, Tryd.results74, go_sem]) rfl ⟨ret_tok (by rw [HV.out]; rfl) (by rw [HV.out]; rfl) (by rw [HV.out]; rfl), ?_⟩
  repeat (with_reducible first | exact Nx.refl _ | assumption | exact HNQ.out | refine Nx.setCell ?_ (Nat.le_refl _) _ | refine Nx.alloc ?_ _)

set_option maxHeartbeats 2000000 in
set_option maxRecDepth 100000 in
theorem token_param (l r : List UInt8) (c : UInt8) (K : Nat) (t : List UInt8) (w : World) (h1 : 1 ≤ l.length) (hl : l.length ≤ 1000000) (hc : l.getD 0 0 = c) (hr : l.drop 1 = r) (h_C1 : (letN ++ [46]).contains c = false) (h_C2 : digN.contains c = false) (hc39 : ¬ c = 39) (hc34 : ¬ c = 34) (hK : whileN (letN ++ digN) r = K) (ht : r.take K = t) (hc92 : c = 92) (x : UInt8) (hx : r[0]? = some x) (hKp : 0 < K) (h_C4 : letN.contains x = true) :
    Calls Tryd.prog 74 #[.string (B l)] w (RetTok (tokR l) w) := by
  have HV := Lib.hid (show tokR l = (tokN 3 t, K + 1, 0) from by unfold tokR; rw [hc, hr, if_neg (by rw [h_C1]; simp), if_neg (by rw [h_C2]; simp), if_neg hc39, if_neg hc34, hK, ht, if_neg (by rw [hc92]; intro h; exact absurd h.1 (by decide)), if_pos ⟨Or.inr hc92, hKp, by rw [List.getD_eq_getElem?_getD, hx]; exact h_C4⟩, if_pos hc92])
  generalize tokR l = V at *
  obtain ⟨p0, e0⟩ := byte_at l 0 c (by rw [getD_0 l h1, hc])
  have n0 : (0 : Int) < l.length := by omega
  have n1 : (1 : Int) ≤ l.length := by omega
  have er : (B l).extract 1 l.length = B r := by rw [← hr]; exact ext_drop l 1 h1
  have hrl : r.length + 1 = l.length := by rw [← hr, List.length_drop]; omega
  have C1 := Lib.hid (fun w => (show Calls Tryd.prog 73 #[.int .u8 c.toNat, .string (B (letN ++ [46]))] w fun e w' => e = .returned (.bool false) ∧ w = w' from by have h := in_any c (letN ++ [46]) w (by decide); rw [h_C1] at h; exact h))
  have C2 := Lib.hid (fun w => (show Calls Tryd.prog 73 #[.int .u8 c.toNat, .string (B (digN))] w fun e w' => e = .returned (.bool false) ∧ w = w' from by have h := in_any c (digN) w (by decide); rw [h_C2] at h; exact h))
  have b39 : ((c.toNat : Int) == 39) = false := u8n c 39 (by omega) false (beq_eq_false_iff_ne.2 hc39)
  have b34 : ((c.toNat : Int) == 34) = false := u8n c 34 (by omega) false (beq_eq_false_iff_ne.2 hc34)
  have CW := Lib.hid (fun w => (show Calls Tryd.prog 87 #[.string (B r), .string (B (letN ++ digN))] w fun e w' => e = .returned (.int .i64 (K : Nat)) ∧ w = w' from by have h := while_any r (letN ++ digN) w (by omega) (by decide); rw [hK] at h; exact h))
  have hKl : K ≤ r.length := by rw [← hK]; exact whileN_le (letN ++ digN) r
  have ek : (B r).extract 0 K = B t := by rw [← ht]; exact ext_take0 r K
  have hc37 : ¬ c = 37 := by rw [hc92]; decide
  have b37 : ((c.toNat : Int) == 37) = false := u8n c 37 (by omega) false (beq_eq_false_iff_ne.2 hc37)
  have b92 : ((c.toNat : Int) == 92) = true := u8n c 92 (by omega) true (by rw [hc92]; rfl)
  have hc64 : ¬ c = 64 := by rw [hc92]; decide
  have b64 : ((c.toNat : Int) == 64) = false := u8n c 64 (by omega) false (beq_eq_false_iff_ne.2 hc64)
  have C4 := Lib.hid (fun w => (show Calls Tryd.prog 73 #[.int .u8 x.toNat, .string (B (letN))] w fun e w' => e = .returned (.bool true) ∧ w = w' from by have h := in_any x (letN) w (by decide); rw [h_C4] at h; exact h))
  obtain ⟨p1, e1⟩ := byte_at r 0 x hx
  have hr0 : (0 : Int) < r.length := by have := (List.getElem?_eq_some_iff.1 hx).1; omega
  have k0 : (0 : Int) < (K : Int) := by omega
  clear hx ht
  clear hc92
  clear hc hr
  go_enter Tryd.func74, Tryd.ntmps74
  go_wp2_with fail
  refine (C1.out _).mono ?_
  rintro e w2 ⟨rfl, rfl⟩
  go_wp2_with fail
  refine (C2.out _).mono ?_
  rintro e w2 ⟨rfl, rfl⟩
  go_wp2_with fail
  refine (CW.out _).mono ?_
  rintro e w2 ⟨rfl, rfl⟩
  go_wp2_with fail
  refine (C4.out _).mono ?_
  rintro e w2 ⟨rfl, rfl⟩
  go_wp2
  refine bodyPost_ret (v := .tuple #[.agg #[.int .i64 3, .int .i64 0, .int .i64 0, .string (B t), .int .u32 0, .int .i64 0], .int .i64 ((K : Nat) + 1), .int .i64 0]) (by simp [results, Tryd.results74, go_sem]) rfl ⟨ret_tok (by rw [HV.out]; rfl) (by rw [HV.out]; rfl) (by rw [HV.out]; rfl), ?_⟩
  repeat (with_reducible first | exact Nx.refl _ | assumption | exact HNQ.out | refine Nx.setCell ?_ (Nat.le_refl _) _ | refine Nx.alloc ?_ _)

end Go.Proofs.YtbkgdepblaibkaaDoor
