/- Contracts of package lex: tokens. -/
import Derived.Test.YtbkgdepblaibkaaDoorLxe
import Derived.Test.YtbkgdepblaibkaaDoorLxg
namespace Go.Proofs.YtbkgdepblaibkaaDoor
open Go.RowKit
set_option linter.unusedVariables false
set_option linter.unusedSimpArgs false

set_option maxHeartbeats 16000000 in
/-- A per cent sign alone. -/
theorem lfn_one (g o c : Nat) (l : List UInt8) (w : World) (h1 : 1 ≤ l.length) (hlc : l.length ≤ c) (hc2 : c ≤ 1) : Calls Tryd.prog 82 #[.slice (some ⟨g, o, none⟩) l.length c] w (RetTokE (fnR l) w) := by
  have hd : l.drop 1 = [] := List.drop_eq_nil_of_le (by omega)
  have HV2 := Lib.hid (show fnR l = (tok0, 0, 2) by unfold fnR; rw [hd]; rfl)
  obtain rfl : c = 1 := by omega
  have hl1 : l.length ≤ 1 := hlc
  have hcv := conv_none (w.alloc (.cells #[.int .i64 0, .int .i64 0, .int .i64 0, .string (B []), .int .u32 0, .int .i64 0] 58)) (some ⟨g, o, none⟩)
  have dlt : decide ((1 : Int) < l.length) = false := decide_eq_false (by omega)
  generalize fnR l = V at *
  clear hd
  go_enter Tryd.func82, Tryd.ntmps82
  go_wp2
  go_loop [5] (fun iv => iv = .int .i64 1) (fun iv => 0)
  case atStart => rfl
  case round =>
    obtain rfl := hrel
    go_wp2
    refine bodyPost_ret (v := .tuple #[.agg #[.int .i64 0, .int .i64 0, .int .i64 0, .string (B []), .int .u32 0, .int .i64 0], .int .i64 0, .iface 83 (.int .i64 2)]) (by simp [results, Tryd.results82, go_sem]) rfl ?_
    rw [HV2.out]
    refine tokE_bad _ 2 _ _ ?_
    repeat (with_reducible first | exact ((Nx.refl w).alloc _) | refine Nx.drew ?_ | refine Nx.setCell ?_ (Nat.le_refl _) _ | refine Nx.alloc ?_ _)

theorem tokR_34 (l : List UInt8) (h0 : l.getD 0 0 = 34) : tokR l = (tokN 6 (textR l).1, (textR l).2, 4) := by
  unfold tokR
  rw [h0, if_neg (by decide), if_neg (by decide), if_neg (by decide), if_pos rfl]

theorem tokR_39 (l : List UInt8) (h0 : l.getD 0 0 = 39) : tokR l = charR l := by
  unfold tokR charR
  rw [h0, if_neg (by decide), if_neg (by decide), if_pos rfl]

theorem tokR_dig (l : List UInt8) (c : UInt8) (h0 : l.getD 0 0 = c) (h : digB c = true) : tokR l = (tokU (numR l).1, (numR l).2, 3) := by
  unfold tokR
  have hl : (letN ++ [46]).contains c = false := by
    have := byte_all (fun c => !digB c || !(letN ++ [46]).contains c) (by decide +kernel) c
    simpa [h] using this
  rw [h0, if_neg (by rw [hl]; simp), if_pos (by rw [digN_B]; exact h)]

theorem tokR_37 (l : List UInt8) (h0 : l.getD 0 0 = 37) : tokR l = fnR l := by
  unfold tokR fnR
  rw [h0, if_neg (by decide), if_neg (by decide), if_neg (by decide), if_neg (by decide)]
  by_cases h : (l.drop 1).take (whileN (letN ++ digN) (l.drop 1)) = [104, 105] ∨ (l.drop 1).take (whileN (letN ++ digN) (l.drop 1)) = [108, 111] ∨ (l.drop 1).take (whileN (letN ++ digN) (l.drop 1)) = [112, 99, 114, 101, 108]
  · rw [if_pos ⟨rfl, h⟩, if_pos h]
  · rw [if_neg (fun k => h k.2), if_neg h, if_neg (fun k => absurd k.1 (by decide)), if_neg (fun k => by rcases k with k | k <;> (have := take2_head l _ _ k; rw [h0] at this; exact absurd this (by decide))), if_neg (by decide)]

theorem tokR_own (l : List UInt8) (c : UInt8) (k : Int) (h0 : l.getD 0 0 = c) (h : (c = 64 ∧ k = 2) ∨ (c = 92 ∧ k = 3)) : tokR l = ownR k l := by
  unfold tokR ownR
  have h1 : (letN ++ [46]).contains c = false ∧ digN.contains c = false ∧ ¬ c = 39 ∧ ¬ c = 34 ∧ ¬ c = 37 ∧ (c = 64 ∨ c = 92) ∧ ¬ c = 60 ∧ ¬ c = 62 ∧ markN.contains c = false ∧ (if c = 92 then (3 : Int) else 2) = k := by
    rcases h with ⟨rfl, rfl⟩ | ⟨rfl, rfl⟩ <;> decide
  obtain ⟨a1, a2, a3, a4, a5, a6, a7, a8, a9, a10⟩ := h1
  rw [h0, if_neg (by rw [a1]; simp), if_neg (by rw [a2]; simp), if_neg a3, if_neg a4, if_neg (fun k => a5 k.1)]
  by_cases hk : 0 < whileN (letN ++ digN) (l.drop 1) ∧ letN.contains ((l.drop 1).getD 0 0) = true
  · rw [if_pos ⟨a6, hk.1, hk.2⟩, if_pos hk, a10]
  · rw [if_neg (fun k => hk k.2), if_neg hk, if_neg (fun k => by rcases k with k | k; exact a7 (by rw [← h0]; exact take2_head l _ _ k); exact a8 (by rw [← h0]; exact take2_head l _ _ k)), if_neg (by rw [a9]; simp)]

/-- A byte with which a name begins. -/
def nameB (c : UInt8) : Bool := letB c || (c == 46 || c == 95)

theorem tokR_name (l : List UInt8) (c : UInt8) (h0 : l.getD 0 0 = c) (h : nameB c = true) : tokR l = (tokN 1 (l.take (whileN goN l)), whileN goN l, 0) := by
  unfold tokR
  have hl : (letN ++ [46]).contains c = true := by
    have := byte_all (fun c => !nameB c || (letN ++ [46]).contains c) (by decide +kernel) c
    simpa [h] using this
  rw [h0, if_pos hl]

theorem tokR_mark (l : List UInt8) (c : UInt8) (h0 : l.getD 0 0 = c) (h1 : ¬ c = 34) (h2 : ¬ c = 39) (h3 : digB c = false) (h4 : ¬ c = 37) (h5 : ¬ c = 64) (h6 : ¬ c = 92) (h7 : nameB c = false) : tokR l = markR l := by
  unfold tokR markR
  have hl : (letN ++ [46]).contains c = false := by
    have := byte_all (fun c => nameB c || !(letN ++ [46]).contains c) (by decide +kernel) c
    simpa [h7] using this
  rw [h0, if_neg (by rw [hl]; simp), if_neg (by rw [digN_B, h3]; simp), if_neg h2, if_neg h1, if_neg (fun k => h4 k.1), if_neg (fun k => k.1.elim h5 h6)]

set_option maxHeartbeats 2000000 in
set_option maxRecDepth 100000 in
theorem ltok_34 (g o c : Nat) (l : List UInt8) (x : UInt8) (w : World) (hb : BysAt w g o l) (h0 : l[0]? = some x) (hl : l.length ≤ 1000000) (hlc : l.length ≤ c) (hcm : c ≤ maxLen) (hx34 : x = 34) : Calls Tryd.prog 71 #[.slice (some ⟨g, o, none⟩) l.length c] w (RetTokE (tokR l) w) := by
  have c0 := hb 0 _ h0
  rw [Nat.add_zero] at c0
  have hzg : g < w.heap.size := block_lt c0
  have h1 : 1 ≤ l.length := (List.getElem?_eq_some_iff.1 h0).1
  have l0J : (0 : Int) < l.length := by omega
  have hg0 := getD_at l 0 x h0
  have CC := fun w' (hn : Nx w w') => ltext_any g o c l w' (hb.nx hn) h1 hl hlc hcm
  have heq := (tokR_34 l (by rw [hg0]; exact hx34))
  rw [← heq] at CC
  unfold RetTokE at CC ⊢
  rcases hE : tokE (tokR l) with ⟨kd, ln, cl, tx, nm, sc⟩
  rw [hE] at CC
  generalize errV (tokR l) = ev at *
  generalize (tokR l).2.1 = n at *
  have CC := Lib.hid CC
  have b34 : ((x.toNat : Int) == 34) = true := u8n x 34 (by omega) true (by rw [hx34]; rfl)
  clear hx34
  clear heq hE hb h0 hg0
  go_enter Tryd.func71, Tryd.ntmps71
  go_wp2_with fail
  refine (CC.out _ ((Nx.refl w).alloc _)).mono ?_
  rintro e w2 ⟨rfl, hn2⟩
  have HX2 := Lib.hid (((Nx.refl w).alloc _).trans hn2)
  have HH2 := Lib.hid ((Has.new w rt0).nx hn2)
  clear hn2
  have hh := HH2.out
  unfold rt0 at hh
  have r0 := hh.cell 0 _ rfl
  have r1 := hh.cell 1 _ rfl
  have r2 := hh.cell 2 _ rfl
  have r3 := hh.cell 3 _ rfl
  have r4 := hh.cell 4 _ rfl
  have r5 := hh.cell 5 _ rfl
  have f0 := hh.free 0
  have f1 := hh.free 1
  have f2 := hh.free 2
  have f3 := hh.free 3
  have f4 := hh.free 4
  have f5 := hh.free 5
  clear hh
  go_wp2
  refine bodyPost_ret (v := .tuple #[.agg #[.int .i64 kd, .int .i64 ln, .int .i64 cl, .string (B tx), .int .u32 nm, .int .i64 sc], .int .i64 n, ev]) (by simp [results, Tryd.results71, go_sem, r0, r1, r2, r3, r4, r5, f0, f1, f2, f3, f4, f5]) rfl ⟨rfl, ?_⟩
  repeat (with_reducible first | exact HX2.out | refine Nx.drew ?_ | refine Nx.setCell ?_ (Nat.le_refl _) _ | refine Nx.alloc ?_ _)

set_option maxHeartbeats 2000000 in
set_option maxRecDepth 100000 in
theorem ltok_39 (g o c : Nat) (l : List UInt8) (x : UInt8) (w : World) (hb : BysAt w g o l) (h0 : l[0]? = some x) (hl : l.length ≤ 1000000) (hlc : l.length ≤ c) (hcm : c ≤ maxLen) (hx34 : ¬ x = 34) (hx39 : x = 39) : Calls Tryd.prog 71 #[.slice (some ⟨g, o, none⟩) l.length c] w (RetTokE (tokR l) w) := by
  have c0 := hb 0 _ h0
  rw [Nat.add_zero] at c0
  have hzg : g < w.heap.size := block_lt c0
  have h1 : 1 ≤ l.length := (List.getElem?_eq_some_iff.1 h0).1
  have l0J : (0 : Int) < l.length := by omega
  have hg0 := getD_at l 0 x h0
  have CC := fun w' (hn : Nx w w') => lchar_any g o c l w' (hb.nx hn) h1 hl hlc hcm
  have heq := (tokR_39 l (by rw [hg0]; exact hx39))
  rw [← heq] at CC
  unfold RetTokE at CC ⊢
  rcases hE : tokE (tokR l) with ⟨kd, ln, cl, tx, nm, sc⟩
  rw [hE] at CC
  generalize errV (tokR l) = ev at *
  generalize (tokR l).2.1 = n at *
  have CC := Lib.hid CC
  have b34 : ((x.toNat : Int) == 34) = false := u8n x 34 (by omega) false (beq_eq_false_iff_ne.2 hx34)
  have b39 : ((x.toNat : Int) == 39) = true := u8n x 39 (by omega) true (by rw [hx39]; rfl)
  clear hx34 hx39
  clear heq hE hb h0 hg0
  go_enter Tryd.func71, Tryd.ntmps71
  go_wp2_with fail
  refine (CC.out _ ((Nx.refl w).alloc _)).mono ?_
  rintro e w2 ⟨rfl, hn2⟩
  have HX2 := Lib.hid (((Nx.refl w).alloc _).trans hn2)
  have HH2 := Lib.hid ((Has.new w rt0).nx hn2)
  clear hn2
  have hh := HH2.out
  unfold rt0 at hh
  have r0 := hh.cell 0 _ rfl
  have r1 := hh.cell 1 _ rfl
  have r2 := hh.cell 2 _ rfl
  have r3 := hh.cell 3 _ rfl
  have r4 := hh.cell 4 _ rfl
  have r5 := hh.cell 5 _ rfl
  have f0 := hh.free 0
  have f1 := hh.free 1
  have f2 := hh.free 2
  have f3 := hh.free 3
  have f4 := hh.free 4
  have f5 := hh.free 5
  clear hh
  go_wp2
  refine bodyPost_ret (v := .tuple #[.agg #[.int .i64 kd, .int .i64 ln, .int .i64 cl, .string (B tx), .int .u32 nm, .int .i64 sc], .int .i64 n, ev]) (by simp [results, Tryd.results71, go_sem, r0, r1, r2, r3, r4, r5, f0, f1, f2, f3, f4, f5]) rfl ⟨rfl, ?_⟩
  repeat (with_reducible first | exact HX2.out | refine Nx.drew ?_ | refine Nx.setCell ?_ (Nat.le_refl _) _ | refine Nx.alloc ?_ _)

set_option maxHeartbeats 2000000 in
set_option maxRecDepth 100000 in
theorem ltok_dig (g o c : Nat) (l : List UInt8) (x : UInt8) (w : World) (hb : BysAt w g o l) (h0 : l[0]? = some x) (hl : l.length ≤ 1000000) (hlc : l.length ≤ c) (hcm : c ≤ maxLen) (hx34 : ¬ x = 34) (hx39 : ¬ x = 39) (hd1 : digB x = true) : Calls Tryd.prog 71 #[.slice (some ⟨g, o, none⟩) l.length c] w (RetTokE (tokR l) w) := by
  have c0 := hb 0 _ h0
  rw [Nat.add_zero] at c0
  have hzg : g < w.heap.size := block_lt c0
  have h1 : 1 ≤ l.length := (List.getElem?_eq_some_iff.1 h0).1
  have l0J : (0 : Int) < l.length := by omega
  have hg0 := getD_at l 0 x h0
  have CC := fun w' (hn : Nx w w') => lnum_any g o c l w' (hb.nx hn) h1 hl hlc
  have heq := (tokR_dig l x hg0 hd1)
  rw [← heq] at CC
  unfold RetTokE at CC ⊢
  rcases hE : tokE (tokR l) with ⟨kd, ln, cl, tx, nm, sc⟩
  rw [hE] at CC
  generalize errV (tokR l) = ev at *
  generalize (tokR l).2.1 = n at *
  have CC := Lib.hid CC
  have b34 : ((x.toNat : Int) == 34) = false := u8n x 34 (by omega) false (beq_eq_false_iff_ne.2 hx34)
  have b39 : ((x.toNat : Int) == 39) = false := u8n x 39 (by omega) false (beq_eq_false_iff_ne.2 hx39)
  have CD := Lib.hid (fun w' => (show Calls Tryd.prog 80 #[.int .u8 x.toNat] w' fun e w2 => e = .returned (.bool true) ∧ w' = w2 from by have := isDigit_any x w'; rwa [hd1] at this))
  clear hx34 hx39 hd1
  clear heq hE hb h0 hg0
  go_enter Tryd.func71, Tryd.ntmps71
  go_wp2_with fail
  refine (CD.out _).mono ?_
  rintro e w2 ⟨rfl, rfl⟩
  go_wp2_with fail
  refine (CC.out _ ((Nx.refl w).alloc _)).mono ?_
  rintro e w2 ⟨rfl, hn2⟩
  have HX2 := Lib.hid (((Nx.refl w).alloc _).trans hn2)
  have HH2 := Lib.hid ((Has.new w rt0).nx hn2)
  clear hn2
  have hh := HH2.out
  unfold rt0 at hh
  have r0 := hh.cell 0 _ rfl
  have r1 := hh.cell 1 _ rfl
  have r2 := hh.cell 2 _ rfl
  have r3 := hh.cell 3 _ rfl
  have r4 := hh.cell 4 _ rfl
  have r5 := hh.cell 5 _ rfl
  have f0 := hh.free 0
  have f1 := hh.free 1
  have f2 := hh.free 2
  have f3 := hh.free 3
  have f4 := hh.free 4
  have f5 := hh.free 5
  clear hh
  go_wp2
  refine bodyPost_ret (v := .tuple #[.agg #[.int .i64 kd, .int .i64 ln, .int .i64 cl, .string (B tx), .int .u32 nm, .int .i64 sc], .int .i64 n, ev]) (by simp [results, Tryd.results71, go_sem, r0, r1, r2, r3, r4, r5, f0, f1, f2, f3, f4, f5]) rfl ⟨rfl, ?_⟩
  repeat (with_reducible first | exact HX2.out | refine Nx.drew ?_ | refine Nx.setCell ?_ (Nat.le_refl _) _ | refine Nx.alloc ?_ _)

set_option maxHeartbeats 2000000 in
set_option maxRecDepth 100000 in
theorem ltok_37 (g o c : Nat) (l : List UInt8) (x : UInt8) (w : World) (hb : BysAt w g o l) (h0 : l[0]? = some x) (hl : l.length ≤ 1000000) (hlc : l.length ≤ c) (hcm : c ≤ maxLen) (hx34 : ¬ x = 34) (hx39 : ¬ x = 39) (hd1 : digB x = false) (hx37 : x = 37) : Calls Tryd.prog 71 #[.slice (some ⟨g, o, none⟩) l.length c] w (RetTokE (tokR l) w) := by
  have c0 := hb 0 _ h0
  rw [Nat.add_zero] at c0
  have hzg : g < w.heap.size := block_lt c0
  have h1 : 1 ≤ l.length := (List.getElem?_eq_some_iff.1 h0).1
  have l0J : (0 : Int) < l.length := by omega
  have hg0 := getD_at l 0 x h0
  have CC := fun w' (hn : Nx w w') => (show Calls Tryd.prog 82 #[.slice (some ⟨g, o, none⟩) l.length c] w' (RetTokE (fnR l) w') from if hc2 : 1 < c then lfn_any g o c l w' (hb.nx hn) h1 hl hlc hc2 else lfn_one g o c l w' h1 hlc (by omega))
  have heq := (tokR_37 l (by rw [hg0]; exact hx37))
  rw [← heq] at CC
  unfold RetTokE at CC ⊢
  rcases hE : tokE (tokR l) with ⟨kd, ln, cl, tx, nm, sc⟩
  rw [hE] at CC
  generalize errV (tokR l) = ev at *
  generalize (tokR l).2.1 = n at *
  have CC := Lib.hid CC
  have b34 : ((x.toNat : Int) == 34) = false := u8n x 34 (by omega) false (beq_eq_false_iff_ne.2 hx34)
  have b39 : ((x.toNat : Int) == 39) = false := u8n x 39 (by omega) false (beq_eq_false_iff_ne.2 hx39)
  have CD := Lib.hid (fun w' => (show Calls Tryd.prog 80 #[.int .u8 x.toNat] w' fun e w2 => e = .returned (.bool false) ∧ w' = w2 from by have := isDigit_any x w'; rwa [hd1] at this))
  have b37 : ((x.toNat : Int) == 37) = true := u8n x 37 (by omega) true (by rw [hx37]; rfl)
  clear hx34 hx39 hd1 hx37
  clear heq hE hb h0 hg0
  go_enter Tryd.func71, Tryd.ntmps71
  go_wp2_with fail
  refine (CD.out _).mono ?_
  rintro e w2 ⟨rfl, rfl⟩
  go_wp2_with fail
  refine (CC.out _ ((Nx.refl w).alloc _)).mono ?_
  rintro e w2 ⟨rfl, hn2⟩
  have HX2 := Lib.hid (((Nx.refl w).alloc _).trans hn2)
  have HH2 := Lib.hid ((Has.new w rt0).nx hn2)
  clear hn2
  have hh := HH2.out
  unfold rt0 at hh
  have r0 := hh.cell 0 _ rfl
  have r1 := hh.cell 1 _ rfl
  have r2 := hh.cell 2 _ rfl
  have r3 := hh.cell 3 _ rfl
  have r4 := hh.cell 4 _ rfl
  have r5 := hh.cell 5 _ rfl
  have f0 := hh.free 0
  have f1 := hh.free 1
  have f2 := hh.free 2
  have f3 := hh.free 3
  have f4 := hh.free 4
  have f5 := hh.free 5
  clear hh
  go_wp2
  refine bodyPost_ret (v := .tuple #[.agg #[.int .i64 kd, .int .i64 ln, .int .i64 cl, .string (B tx), .int .u32 nm, .int .i64 sc], .int .i64 n, ev]) (by simp [results, Tryd.results71, go_sem, r0, r1, r2, r3, r4, r5, f0, f1, f2, f3, f4, f5]) rfl ⟨rfl, ?_⟩
  repeat (with_reducible first | exact HX2.out | refine Nx.drew ?_ | refine Nx.setCell ?_ (Nat.le_refl _) _ | refine Nx.alloc ?_ _)

set_option maxHeartbeats 2000000 in
set_option maxRecDepth 100000 in
theorem ltok_64 (g o c : Nat) (l : List UInt8) (x : UInt8) (w : World) (hb : BysAt w g o l) (h0 : l[0]? = some x) (hl : l.length ≤ 1000000) (hlc : l.length ≤ c) (hcm : c ≤ maxLen) (hx34 : ¬ x = 34) (hx39 : ¬ x = 39) (hd1 : digB x = false) (hx37 : ¬ x = 37) (hx64 : x = 64) : Calls Tryd.prog 71 #[.slice (some ⟨g, o, none⟩) l.length c] w (RetTokE (tokR l) w) := by
  have c0 := hb 0 _ h0
  rw [Nat.add_zero] at c0
  have hzg : g < w.heap.size := block_lt c0
  have h1 : 1 ≤ l.length := (List.getElem?_eq_some_iff.1 h0).1
  have l0J : (0 : Int) < l.length := by omega
  have hg0 := getD_at l 0 x h0
  have CC := fun w' (hn : Nx w w') => lown_at g o c l w' (hb.nx hn) (by rw [h0, hx64]) hl hlc
  have heq := (tokR_own l x 2 hg0 (Or.inl ⟨hx64, rfl⟩))
  rw [← heq] at CC
  unfold RetTokE at CC ⊢
  rcases hE : tokE (tokR l) with ⟨kd, ln, cl, tx, nm, sc⟩
  rw [hE] at CC
  generalize errV (tokR l) = ev at *
  generalize (tokR l).2.1 = n at *
  have CC := Lib.hid CC
  have b34 : ((x.toNat : Int) == 34) = false := u8n x 34 (by omega) false (beq_eq_false_iff_ne.2 hx34)
  have b39 : ((x.toNat : Int) == 39) = false := u8n x 39 (by omega) false (beq_eq_false_iff_ne.2 hx39)
  have CD := Lib.hid (fun w' => (show Calls Tryd.prog 80 #[.int .u8 x.toNat] w' fun e w2 => e = .returned (.bool false) ∧ w' = w2 from by have := isDigit_any x w'; rwa [hd1] at this))
  have b37 : ((x.toNat : Int) == 37) = false := u8n x 37 (by omega) false (beq_eq_false_iff_ne.2 hx37)
  have b64 : ((x.toNat : Int) == 64) = true := u8n x 64 (by omega) true (by rw [hx64]; rfl)
  clear hx34 hx39 hd1 hx37 hx64
  clear heq hE hb h0 hg0
  go_enter Tryd.func71, Tryd.ntmps71
  go_wp2_with fail
  refine (CD.out _).mono ?_
  rintro e w2 ⟨rfl, rfl⟩
  go_wp2_with fail
  refine (CC.out _ ((Nx.refl w).alloc _)).mono ?_
  rintro e w2 ⟨rfl, hn2⟩
  have HX2 := Lib.hid (((Nx.refl w).alloc _).trans hn2)
  have HH2 := Lib.hid ((Has.new w rt0).nx hn2)
  clear hn2
  have hh := HH2.out
  unfold rt0 at hh
  have r0 := hh.cell 0 _ rfl
  have r1 := hh.cell 1 _ rfl
  have r2 := hh.cell 2 _ rfl
  have r3 := hh.cell 3 _ rfl
  have r4 := hh.cell 4 _ rfl
  have r5 := hh.cell 5 _ rfl
  have f0 := hh.free 0
  have f1 := hh.free 1
  have f2 := hh.free 2
  have f3 := hh.free 3
  have f4 := hh.free 4
  have f5 := hh.free 5
  clear hh
  go_wp2
  refine bodyPost_ret (v := .tuple #[.agg #[.int .i64 kd, .int .i64 ln, .int .i64 cl, .string (B tx), .int .u32 nm, .int .i64 sc], .int .i64 n, ev]) (by simp [results, Tryd.results71, go_sem, r0, r1, r2, r3, r4, r5, f0, f1, f2, f3, f4, f5]) rfl ⟨rfl, ?_⟩
  repeat (with_reducible first | exact HX2.out | refine Nx.drew ?_ | refine Nx.setCell ?_ (Nat.le_refl _) _ | refine Nx.alloc ?_ _)

set_option maxHeartbeats 2000000 in
set_option maxRecDepth 100000 in
theorem ltok_92 (g o c : Nat) (l : List UInt8) (x : UInt8) (w : World) (hb : BysAt w g o l) (h0 : l[0]? = some x) (hl : l.length ≤ 1000000) (hlc : l.length ≤ c) (hcm : c ≤ maxLen) (hx34 : ¬ x = 34) (hx39 : ¬ x = 39) (hd1 : digB x = false) (hx37 : ¬ x = 37) (hx64 : ¬ x = 64) (hx92 : x = 92) : Calls Tryd.prog 71 #[.slice (some ⟨g, o, none⟩) l.length c] w (RetTokE (tokR l) w) := by
  have c0 := hb 0 _ h0
  rw [Nat.add_zero] at c0
  have hzg : g < w.heap.size := block_lt c0
  have h1 : 1 ≤ l.length := (List.getElem?_eq_some_iff.1 h0).1
  have l0J : (0 : Int) < l.length := by omega
  have hg0 := getD_at l 0 x h0
  have CC := fun w' (hn : Nx w w') => lown_bs g o c l w' (hb.nx hn) (by rw [h0, hx92]) hl hlc
  have heq := (tokR_own l x 3 hg0 (Or.inr ⟨hx92, rfl⟩))
  rw [← heq] at CC
  unfold RetTokE at CC ⊢
  rcases hE : tokE (tokR l) with ⟨kd, ln, cl, tx, nm, sc⟩
  rw [hE] at CC
  generalize errV (tokR l) = ev at *
  generalize (tokR l).2.1 = n at *
  have CC := Lib.hid CC
  have b34 : ((x.toNat : Int) == 34) = false := u8n x 34 (by omega) false (beq_eq_false_iff_ne.2 hx34)
  have b39 : ((x.toNat : Int) == 39) = false := u8n x 39 (by omega) false (beq_eq_false_iff_ne.2 hx39)
  have CD := Lib.hid (fun w' => (show Calls Tryd.prog 80 #[.int .u8 x.toNat] w' fun e w2 => e = .returned (.bool false) ∧ w' = w2 from by have := isDigit_any x w'; rwa [hd1] at this))
  have b37 : ((x.toNat : Int) == 37) = false := u8n x 37 (by omega) false (beq_eq_false_iff_ne.2 hx37)
  have b64 : ((x.toNat : Int) == 64) = false := u8n x 64 (by omega) false (beq_eq_false_iff_ne.2 hx64)
  have b92 : ((x.toNat : Int) == 92) = true := u8n x 92 (by omega) true (by rw [hx92]; rfl)
  clear hx34 hx39 hd1 hx37 hx64 hx92
  clear heq hE hb h0 hg0
  go_enter Tryd.func71, Tryd.ntmps71
  go_wp2_with fail
  refine (CD.out _).mono ?_
  rintro e w2 ⟨rfl, rfl⟩
  go_wp2_with fail
  refine (CC.out _ ((Nx.refl w).alloc _)).mono ?_
  rintro e w2 ⟨rfl, hn2⟩
  have HX2 := Lib.hid (((Nx.refl w).alloc _).trans hn2)
  have HH2 := Lib.hid ((Has.new w rt0).nx hn2)
  clear hn2
  have hh := HH2.out
  unfold rt0 at hh
  have r0 := hh.cell 0 _ rfl
  have r1 := hh.cell 1 _ rfl
  have r2 := hh.cell 2 _ rfl
  have r3 := hh.cell 3 _ rfl
  have r4 := hh.cell 4 _ rfl
  have r5 := hh.cell 5 _ rfl
  have f0 := hh.free 0
  have f1 := hh.free 1
  have f2 := hh.free 2
  have f3 := hh.free 3
  have f4 := hh.free 4
  have f5 := hh.free 5
  clear hh
  go_wp2
  refine bodyPost_ret (v := .tuple #[.agg #[.int .i64 kd, .int .i64 ln, .int .i64 cl, .string (B tx), .int .u32 nm, .int .i64 sc], .int .i64 n, ev]) (by simp [results, Tryd.results71, go_sem, r0, r1, r2, r3, r4, r5, f0, f1, f2, f3, f4, f5]) rfl ⟨rfl, ?_⟩
  repeat (with_reducible first | exact HX2.out | refine Nx.drew ?_ | refine Nx.setCell ?_ (Nat.le_refl _) _ | refine Nx.alloc ?_ _)

set_option maxHeartbeats 2000000 in
set_option maxRecDepth 100000 in
theorem ltok_mark (g o c : Nat) (l : List UInt8) (x : UInt8) (w : World) (hb : BysAt w g o l) (h0 : l[0]? = some x) (hl : l.length ≤ 1000000) (hlc : l.length ≤ c) (hcm : c ≤ maxLen) (hx34 : ¬ x = 34) (hx39 : ¬ x = 39) (hd1 : digB x = false) (hx37 : ¬ x = 37) (hx64 : ¬ x = 64) (hx92 : ¬ x = 92) (hnm : nameB x = false) : Calls Tryd.prog 71 #[.slice (some ⟨g, o, none⟩) l.length c] w (RetTokE (tokR l) w) := by
  have c0 := hb 0 _ h0
  rw [Nat.add_zero] at c0
  have hzg : g < w.heap.size := block_lt c0
  have h1 : 1 ≤ l.length := (List.getElem?_eq_some_iff.1 h0).1
  have l0J : (0 : Int) < l.length := by omega
  have hg0 := getD_at l 0 x h0
  have CC := fun w' (hn : Nx w w') => lmark_any g o c l x w' (hb.nx hn) h0 hl hlc
  have heq := (tokR_mark l x hg0 hx34 hx39 hd1 hx37 hx64 hx92 hnm)
  rw [← heq] at CC
  unfold RetTokE at CC ⊢
  rcases hE : tokE (tokR l) with ⟨kd, ln, cl, tx, nm, sc⟩
  rw [hE] at CC
  generalize errV (tokR l) = ev at *
  generalize (tokR l).2.1 = n at *
  have CC := Lib.hid CC
  have hnn : letB x = false ∧ (x == 46) = false ∧ (x == 95) = false := by unfold nameB at hnm; simpa using hnm
  obtain ⟨hl1, h46, h95⟩ := hnn
  have b34 : ((x.toNat : Int) == 34) = false := u8n x 34 (by omega) false (beq_eq_false_iff_ne.2 hx34)
  have b39 : ((x.toNat : Int) == 39) = false := u8n x 39 (by omega) false (beq_eq_false_iff_ne.2 hx39)
  have CD := Lib.hid (fun w' => (show Calls Tryd.prog 80 #[.int .u8 x.toNat] w' fun e w2 => e = .returned (.bool false) ∧ w' = w2 from by have := isDigit_any x w'; rwa [hd1] at this))
  have b37 : ((x.toNat : Int) == 37) = false := u8n x 37 (by omega) false (beq_eq_false_iff_ne.2 hx37)
  have b64 : ((x.toNat : Int) == 64) = false := u8n x 64 (by omega) false (beq_eq_false_iff_ne.2 hx64)
  have b92 : ((x.toNat : Int) == 92) = false := u8n x 92 (by omega) false (beq_eq_false_iff_ne.2 hx92)
  have CL := Lib.hid (fun w' => (show Calls Tryd.prog 84 #[.int .u8 x.toNat] w' fun e w2 => e = .returned (.bool false) ∧ w' = w2 from by have := isLetter_any x w'; rwa [hl1] at this))
  have b46 : ((x.toNat : Int) == 46) = false := u8n x 46 (by omega) false h46
  have b95 : ((x.toNat : Int) == 95) = false := u8n x 95 (by omega) false h95
  clear hx34 hx39 hd1 hx37 hx64 hx92 hnm hl1 h46 h95
  clear heq hE hb h0 hg0
  go_enter Tryd.func71, Tryd.ntmps71
  go_wp2_with fail
  refine (CD.out _).mono ?_
  rintro e w2 ⟨rfl, rfl⟩
  go_wp2_with fail
  refine (CL.out _).mono ?_
  rintro e w2 ⟨rfl, rfl⟩
  go_wp2_with fail
  refine (CC.out _ ((Nx.refl w).alloc _)).mono ?_
  rintro e w2 ⟨rfl, hn2⟩
  have HX2 := Lib.hid (((Nx.refl w).alloc _).trans hn2)
  have HH2 := Lib.hid ((Has.new w rt0).nx hn2)
  clear hn2
  have hh := HH2.out
  unfold rt0 at hh
  have r0 := hh.cell 0 _ rfl
  have r1 := hh.cell 1 _ rfl
  have r2 := hh.cell 2 _ rfl
  have r3 := hh.cell 3 _ rfl
  have r4 := hh.cell 4 _ rfl
  have r5 := hh.cell 5 _ rfl
  have f0 := hh.free 0
  have f1 := hh.free 1
  have f2 := hh.free 2
  have f3 := hh.free 3
  have f4 := hh.free 4
  have f5 := hh.free 5
  clear hh
  go_wp2
  refine bodyPost_ret (v := .tuple #[.agg #[.int .i64 kd, .int .i64 ln, .int .i64 cl, .string (B tx), .int .u32 nm, .int .i64 sc], .int .i64 n, ev]) (by simp [results, Tryd.results71, go_sem, r0, r1, r2, r3, r4, r5, f0, f1, f2, f3, f4, f5]) rfl ⟨rfl, ?_⟩
  repeat (with_reducible first | exact HX2.out | refine Nx.drew ?_ | refine Nx.setCell ?_ (Nat.le_refl _) _ | refine Nx.alloc ?_ _)

theorem go_first (l : List UInt8) (x : UInt8) (h0 : l[0]? = some x) (h : nameB x = true) : whileN goN l = 1 + whileN goN (l.drop 1) := by
  have hg : goN.contains x = true := by
    have := byte_all (fun c => !nameB c || goN.contains c) (by decide +kernel) x
    simpa [h] using this
  have := while_go goN l 0 x h0 hg
  simpa using this

set_option maxHeartbeats 8000000 in
set_option maxRecDepth 100000 in
theorem ltok_name (g o c : Nat) (l : List UInt8) (x : UInt8) (w : World) (hb : BysAt w g o l) (h0 : l[0]? = some x) (hl : l.length ≤ 1000000) (hlc : l.length ≤ c) (hcm : c ≤ maxLen) (hx34 : ¬ x = 34) (hx39 : ¬ x = 39) (hd1 : digB x = false) (hx37 : ¬ x = 37) (hx64 : ¬ x = 64) (hx92 : ¬ x = 92) (hnm : nameB x = true) : Calls Tryd.prog 71 #[.slice (some ⟨g, o, none⟩) l.length c] w (RetTokE (tokR l) w) := by
  have c0 := hb 0 _ h0
  rw [Nat.add_zero] at c0
  have hzg : g < w.heap.size := block_lt c0
  have h1 : 1 ≤ l.length := (List.getElem?_eq_some_iff.1 h0).1
  have l0J : (0 : Int) < l.length := by omega
  have hg0 := getD_at l 0 x h0
  obtain ⟨I, hI⟩ : ∃ I, whileN goN l = I := ⟨_, rfl⟩
  have HV2 := Lib.hid (show tokR l = (tokN 1 (l.take I), I, 0) by rw [tokR_name l x hg0 hnm, hI])
  have hfirst := go_first l x h0 hnm
  rw [hI] at hfirst
  have HIN := Lib.hid (fun i h2 (h3 : i < I) => while_in goN l 1 i h2 (by omega))
  have hout := while_out goN l 1 h1
  rw [← hfirst] at hout
  obtain ⟨hIl, hout⟩ := hout
  have HOUT := Lib.hid hout
  have HB := Lib.hid hb
  have hI1 : 1 ≤ I := by omega
  have hcv := conv_head (w.alloc (.cells #[.int .i64 0, .int .i64 0, .int .i64 0, .string (B []), .int .u32 0, .int .i64 0] 58)) g o c I l (hb.nx ((Nx.refl w).alloc _)) hIl
  generalize tokR l = V at *
  generalize l.take I = t at *
  have hIlI : (I : Int) ≤ l.length := by omega
  have hIcI : (I : Int) ≤ c := by omega
  have hI1I : (1 : Int) ≤ I := by omega
  have b34 : ((x.toNat : Int) == 34) = false := u8n x 34 (by omega) false (beq_eq_false_iff_ne.2 hx34)
  have b39 : ((x.toNat : Int) == 39) = false := u8n x 39 (by omega) false (beq_eq_false_iff_ne.2 hx39)
  have CD := Lib.hid (fun w' => (show Calls Tryd.prog 80 #[.int .u8 x.toNat] w' fun e w2 => e = .returned (.bool false) ∧ w' = w2 from by have := isDigit_any x w'; rwa [hd1] at this))
  have b37 : ((x.toNat : Int) == 37) = false := u8n x 37 (by omega) false (beq_eq_false_iff_ne.2 hx37)
  have b64 : ((x.toNat : Int) == 64) = false := u8n x 64 (by omega) false (beq_eq_false_iff_ne.2 hx64)
  have b92 : ((x.toNat : Int) == 92) = false := u8n x 92 (by omega) false (beq_eq_false_iff_ne.2 hx92)
  have three : (letB x = true) ∨ (letB x = false ∧ (x == 46) = true) ∨ (letB x = false ∧ (x == 46) = false ∧ (x == 95) = true) := by
    unfold nameB at hnm
    cases h1 : letB x
    · rw [h1] at hnm
      cases h2 : (x == 46)
      · rw [h2] at hnm; exact Or.inr (Or.inr ⟨rfl, rfl, by simpa using hnm⟩)
      · exact Or.inr (Or.inl ⟨rfl, rfl⟩)
    · exact Or.inl rfl
  clear hx34 hx39 hd1 hx37 hx64 hx92 hnm hb h0 hg0 hI hfirst hout
  rcases three with hl1 | ⟨hl1, h46⟩ | ⟨hl1, h46, h95⟩
  · have CL := Lib.hid (fun w' => (show Calls Tryd.prog 84 #[.int .u8 x.toNat] w' fun e w2 => e = .returned (.bool true) ∧ w' = w2 from by have := isLetter_any x w'; rwa [hl1] at this))
    clear hl1
    go_enter Tryd.func71, Tryd.ntmps71
    go_wp2_with fail
    refine (CD.out _).mono ?_
    rintro e w2 ⟨rfl, rfl⟩
    go_wp2_with fail
    refine (CL.out _).mono ?_
    rintro e w2 ⟨rfl, rfl⟩
    go_wp2
    go_loop [6] (fun iv => ∃ i : Nat, 1 ≤ i ∧ i ≤ I ∧ iv = .int .i64 i) (fun iv => l.length - (intOf iv).toNat)
    case atStart => exact ⟨1, by omega, by omega, rfl⟩
    case round =>
      obtain ⟨i, hi1, hi2, rfl⟩ := hrel
      by_cases hlt : i < I
      · obtain ⟨y, hy, hset⟩ := HIN.out i hi1 hlt
        have hil : i < l.length := by omega
        have cy := ((Nx.refl w).alloc (.cells #[.int .i64 0, .int .i64 0, .int .i64 0, .string (B []), .int .u32 0, .int .i64 0] 58)).cell (HB.out i y hy)
        have CG := Lib.hid (fun w' => (show Calls Tryd.prog 85 #[.int .u8 y.toNat] w' fun e w2 => e = .returned (.bool true) ∧ w' = w2 from by have := goesOn_any y w'; rwa [← goN_B, hset] at this))
        clear hcv hy hset
        go_wp2_with fail
        refine (CG.out _).mono ?_
        rintro e w2 ⟨rfl, rfl⟩
        go_wp2
        go_round
        case rel => exact ⟨i + 1, by omega, by omega, by go_num⟩
        case measure => simp [intOf]; omega
      · obtain rfl : i = I := by omega
        rcases HOUT.out with hend | ⟨y, hy, hset⟩
        · have dlt : decide ((i : Int) < l.length) = false := decide_eq_false (by omega)
          have hge : l.length ≤ i := by omega
          clear hend
          go_wp2
          refine bodyPost_ret (v := .tuple #[.agg #[.int .i64 1, .int .i64 0, .int .i64 0, .string (B t), .int .u32 0, .int .i64 0], .int .i64 (i : Int), .nilIface]) (by simp [results, Tryd.results71, go_sem]) rfl ?_
          rw [HV2.out]
          refine tokE_is (tokN 1 t) (i) 0 (i : Int) (by omega) (by omega) w _ ?_
          repeat (with_reducible first | exact ((Nx.refl w).alloc _) | refine Nx.drew ?_ | refine Nx.setCell ?_ (Nat.le_refl _) _ | refine Nx.alloc ?_ _)
        · have hil : i < l.length := (List.getElem?_eq_some_iff.1 hy).1
          have dlt : decide ((i : Int) < l.length) = true := decide_eq_true (by omega)
          have cy := ((Nx.refl w).alloc (.cells #[.int .i64 0, .int .i64 0, .int .i64 0, .string (B []), .int .u32 0, .int .i64 0] 58)).cell (HB.out i y hy)
          have CG := Lib.hid (fun w' => (show Calls Tryd.prog 85 #[.int .u8 y.toNat] w' fun e w2 => e = .returned (.bool false) ∧ w' = w2 from by have := goesOn_any y w'; rwa [← goN_B, hset] at this))
          clear hy hset
          go_wp2_with fail
          refine (CG.out _).mono ?_
          rintro e w2 ⟨rfl, rfl⟩
          go_wp2
          refine bodyPost_ret (v := .tuple #[.agg #[.int .i64 1, .int .i64 0, .int .i64 0, .string (B t), .int .u32 0, .int .i64 0], .int .i64 (i : Int), .nilIface]) (by simp [results, Tryd.results71, go_sem]) rfl ?_
          rw [HV2.out]
          refine tokE_is (tokN 1 t) (i) 0 (i : Int) (by omega) (by omega) w _ ?_
          repeat (with_reducible first | exact ((Nx.refl w).alloc _) | refine Nx.drew ?_ | refine Nx.setCell ?_ (Nat.le_refl _) _ | refine Nx.alloc ?_ _)
  · have CL := Lib.hid (fun w' => (show Calls Tryd.prog 84 #[.int .u8 x.toNat] w' fun e w2 => e = .returned (.bool false) ∧ w' = w2 from by have := isLetter_any x w'; rwa [hl1] at this))
    have b46 : ((x.toNat : Int) == 46) = true := u8n x 46 (by omega) true h46
    clear hl1 h46
    go_enter Tryd.func71, Tryd.ntmps71
    go_wp2_with fail
    refine (CD.out _).mono ?_
    rintro e w2 ⟨rfl, rfl⟩
    go_wp2_with fail
    refine (CL.out _).mono ?_
    rintro e w2 ⟨rfl, rfl⟩
    go_wp2
    go_loop [6] (fun iv => ∃ i : Nat, 1 ≤ i ∧ i ≤ I ∧ iv = .int .i64 i) (fun iv => l.length - (intOf iv).toNat)
    case atStart => exact ⟨1, by omega, by omega, rfl⟩
    case round =>
      obtain ⟨i, hi1, hi2, rfl⟩ := hrel
      by_cases hlt : i < I
      · obtain ⟨y, hy, hset⟩ := HIN.out i hi1 hlt
        have hil : i < l.length := by omega
        have cy := ((Nx.refl w).alloc (.cells #[.int .i64 0, .int .i64 0, .int .i64 0, .string (B []), .int .u32 0, .int .i64 0] 58)).cell (HB.out i y hy)
        have CG := Lib.hid (fun w' => (show Calls Tryd.prog 85 #[.int .u8 y.toNat] w' fun e w2 => e = .returned (.bool true) ∧ w' = w2 from by have := goesOn_any y w'; rwa [← goN_B, hset] at this))
        clear hcv hy hset
        go_wp2_with fail
        refine (CG.out _).mono ?_
        rintro e w2 ⟨rfl, rfl⟩
        go_wp2
        go_round
        case rel => exact ⟨i + 1, by omega, by omega, by go_num⟩
        case measure => simp [intOf]; omega
      · obtain rfl : i = I := by omega
        rcases HOUT.out with hend | ⟨y, hy, hset⟩
        · have dlt : decide ((i : Int) < l.length) = false := decide_eq_false (by omega)
          have hge : l.length ≤ i := by omega
          clear hend
          go_wp2
          refine bodyPost_ret (v := .tuple #[.agg #[.int .i64 1, .int .i64 0, .int .i64 0, .string (B t), .int .u32 0, .int .i64 0], .int .i64 (i : Int), .nilIface]) (by simp [results, Tryd.results71, go_sem]) rfl ?_
          rw [HV2.out]
          refine tokE_is (tokN 1 t) (i) 0 (i : Int) (by omega) (by omega) w _ ?_
          repeat (with_reducible first | exact ((Nx.refl w).alloc _) | refine Nx.drew ?_ | refine Nx.setCell ?_ (Nat.le_refl _) _ | refine Nx.alloc ?_ _)
        · have hil : i < l.length := (List.getElem?_eq_some_iff.1 hy).1
          have dlt : decide ((i : Int) < l.length) = true := decide_eq_true (by omega)
          have cy := ((Nx.refl w).alloc (.cells #[.int .i64 0, .int .i64 0, .int .i64 0, .string (B []), .int .u32 0, .int .i64 0] 58)).cell (HB.out i y hy)
          have CG := Lib.hid (fun w' => (show Calls Tryd.prog 85 #[.int .u8 y.toNat] w' fun e w2 => e = .returned (.bool false) ∧ w' = w2 from by have := goesOn_any y w'; rwa [← goN_B, hset] at this))
          clear hy hset
          go_wp2_with fail
          refine (CG.out _).mono ?_
          rintro e w2 ⟨rfl, rfl⟩
          go_wp2
          refine bodyPost_ret (v := .tuple #[.agg #[.int .i64 1, .int .i64 0, .int .i64 0, .string (B t), .int .u32 0, .int .i64 0], .int .i64 (i : Int), .nilIface]) (by simp [results, Tryd.results71, go_sem]) rfl ?_
          rw [HV2.out]
          refine tokE_is (tokN 1 t) (i) 0 (i : Int) (by omega) (by omega) w _ ?_
          repeat (with_reducible first | exact ((Nx.refl w).alloc _) | refine Nx.drew ?_ | refine Nx.setCell ?_ (Nat.le_refl _) _ | refine Nx.alloc ?_ _)
  · have CL := Lib.hid (fun w' => (show Calls Tryd.prog 84 #[.int .u8 x.toNat] w' fun e w2 => e = .returned (.bool false) ∧ w' = w2 from by have := isLetter_any x w'; rwa [hl1] at this))
    have b46 : ((x.toNat : Int) == 46) = false := u8n x 46 (by omega) false h46
    have b95 : ((x.toNat : Int) == 95) = true := u8n x 95 (by omega) true h95
    clear hl1 h46 h95
    go_enter Tryd.func71, Tryd.ntmps71
    go_wp2_with fail
    refine (CD.out _).mono ?_
    rintro e w2 ⟨rfl, rfl⟩
    go_wp2_with fail
    refine (CL.out _).mono ?_
    rintro e w2 ⟨rfl, rfl⟩
    go_wp2
    go_loop [6] (fun iv => ∃ i : Nat, 1 ≤ i ∧ i ≤ I ∧ iv = .int .i64 i) (fun iv => l.length - (intOf iv).toNat)
    case atStart => exact ⟨1, by omega, by omega, rfl⟩
    case round =>
      obtain ⟨i, hi1, hi2, rfl⟩ := hrel
      by_cases hlt : i < I
      · obtain ⟨y, hy, hset⟩ := HIN.out i hi1 hlt
        have hil : i < l.length := by omega
        have cy := ((Nx.refl w).alloc (.cells #[.int .i64 0, .int .i64 0, .int .i64 0, .string (B []), .int .u32 0, .int .i64 0] 58)).cell (HB.out i y hy)
        have CG := Lib.hid (fun w' => (show Calls Tryd.prog 85 #[.int .u8 y.toNat] w' fun e w2 => e = .returned (.bool true) ∧ w' = w2 from by have := goesOn_any y w'; rwa [← goN_B, hset] at this))
        clear hcv hy hset
        go_wp2_with fail
        refine (CG.out _).mono ?_
        rintro e w2 ⟨rfl, rfl⟩
        go_wp2
        go_round
        case rel => exact ⟨i + 1, by omega, by omega, by go_num⟩
        case measure => simp [intOf]; omega
      · obtain rfl : i = I := by omega
        rcases HOUT.out with hend | ⟨y, hy, hset⟩
        · have dlt : decide ((i : Int) < l.length) = false := decide_eq_false (by omega)
          have hge : l.length ≤ i := by omega
          clear hend
          go_wp2
          refine bodyPost_ret (v := .tuple #[.agg #[.int .i64 1, .int .i64 0, .int .i64 0, .string (B t), .int .u32 0, .int .i64 0], .int .i64 (i : Int), .nilIface]) (by simp [results, Tryd.results71, go_sem]) rfl ?_
          rw [HV2.out]
          refine tokE_is (tokN 1 t) (i) 0 (i : Int) (by omega) (by omega) w _ ?_
          repeat (with_reducible first | exact ((Nx.refl w).alloc _) | refine Nx.drew ?_ | refine Nx.setCell ?_ (Nat.le_refl _) _ | refine Nx.alloc ?_ _)
        · have hil : i < l.length := (List.getElem?_eq_some_iff.1 hy).1
          have dlt : decide ((i : Int) < l.length) = true := decide_eq_true (by omega)
          have cy := ((Nx.refl w).alloc (.cells #[.int .i64 0, .int .i64 0, .int .i64 0, .string (B []), .int .u32 0, .int .i64 0] 58)).cell (HB.out i y hy)
          have CG := Lib.hid (fun w' => (show Calls Tryd.prog 85 #[.int .u8 y.toNat] w' fun e w2 => e = .returned (.bool false) ∧ w' = w2 from by have := goesOn_any y w'; rwa [← goN_B, hset] at this))
          clear hy hset
          go_wp2_with fail
          refine (CG.out _).mono ?_
          rintro e w2 ⟨rfl, rfl⟩
          go_wp2
          refine bodyPost_ret (v := .tuple #[.agg #[.int .i64 1, .int .i64 0, .int .i64 0, .string (B t), .int .u32 0, .int .i64 0], .int .i64 (i : Int), .nilIface]) (by simp [results, Tryd.results71, go_sem]) rfl ?_
          rw [HV2.out]
          refine tokE_is (tokN 1 t) (i) 0 (i : Int) (by omega) (by omega) w _ ?_
          repeat (with_reducible first | exact ((Nx.refl w).alloc _) | refine Nx.drew ?_ | refine Nx.setCell ?_ (Nat.le_refl _) _ | refine Nx.alloc ?_ _)

theorem ltok_any (g o c : Nat) (l : List UInt8) (w : World) (hb : BysAt w g o l) (h1 : 1 ≤ l.length) (hl : l.length ≤ 1000000) (hlc : l.length ≤ c) (hcm : c ≤ maxLen) : Calls Tryd.prog 71 #[.slice (some ⟨g, o, none⟩) l.length c] w (RetTokE (tokR l) w) := by
  obtain ⟨x, h0⟩ : ∃ x, l[0]? = some x := ⟨_, List.getElem?_eq_getElem (by omega)⟩
  by_cases k1 : x = 34
  · exact ltok_34 g o c l x w hb h0 hl hlc hcm k1
  · by_cases k2 : x = 39
    · exact ltok_39 g o c l x w hb h0 hl hlc hcm k1 k2
    · cases k3 : digB x
      · by_cases k4 : x = 37
        · exact ltok_37 g o c l x w hb h0 hl hlc hcm k1 k2 k3 k4
        · by_cases k5 : x = 64
          · exact ltok_64 g o c l x w hb h0 hl hlc hcm k1 k2 k3 k4 k5
          · by_cases k6 : x = 92
            · exact ltok_92 g o c l x w hb h0 hl hlc hcm k1 k2 k3 k4 k5 k6
            · cases k7 : nameB x
              · exact ltok_mark g o c l x w hb h0 hl hlc hcm k1 k2 k3 k4 k5 k6 k7
              · exact ltok_name g o c l x w hb h0 hl hlc hcm k1 k2 k3 k4 k5 k6 k7
      · exact ltok_dig g o c l x w hb h0 hl hlc hcm k1 k2 k3

end Go.Proofs.YtbkgdepblaibkaaDoor
