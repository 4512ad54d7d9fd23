/- Contracts of package lex: numbers. -/
import Derived.Test.YtbkgdepblaibkaaDoorLxd
namespace Go.Proofs.YtbkgdepblaibkaaDoor
open Go.RowKit
set_option linter.unusedVariables false
set_option linter.unusedSimpArgs false

theorem acc_end (base : Nat) (v : Nat) : accP base [] v = (v, 0) := rfl

theorem acc_stop (base : Nat) (l : List UInt8) (i : Nat) (x : UInt8) (hx : l[i]? = some x) (v : Nat) (h : base ≤ digP x) : accP base (l.drop i) v = (v, 0) := by
  obtain ⟨k1, e1⟩ := List.getElem?_eq_some_iff.1 hx
  rw [List.drop_eq_getElem_cons k1, e1]
  unfold accP
  exact if_pos h

theorem acc_go (base : Nat) (l : List UInt8) (i : Nat) (x : UInt8) (hx : l[i]? = some x) (v : Nat) (h : ¬ base ≤ digP x) : accP base (l.drop i) v = ((accP base (l.drop (i + 1)) (min (v * base + digP x) 4294967296)).1, (accP base (l.drop (i + 1)) (min (v * base + digP x) 4294967296)).2 + 1) := by
  obtain ⟨k1, e1⟩ := List.getElem?_eq_some_iff.1 hx
  rw [List.drop_eq_getElem_cons k1, e1]
  conv => lhs; unfold accP
  exact if_neg h

/-- What is left to be asked of a number. -/
def numEnd (l : List UInt8) (from_ i v : Nat) : Nat × Nat := if i - from_ = 0 ∨ 4294967296 ≤ v ∨ (i < l.length ∧ goB (l.getD i 0) = true) then (0, 0) else (v, i)

theorem num_end (l : List UInt8) (from_ base i v : Nat) (hf : numFrom l = from_) (hb : numBase l = base) (hi : from_ ≤ i) (h : accP base (l.drop from_) 0 = (v, i - from_)) : numR l = numEnd l from_ i v := by
  rw [num_P, hf, hb, h]
  unfold numEnd
  simp only
  rw [show from_ + (i - from_) = i by omega]

/-- The three beginnings of a number. -/
theorem num_begins (l : List UInt8) (h1 : 1 ≤ l.length) : (∃ x, l[0]? = some 48 ∧ l[1]? = some x ∧ ((x = 120 ∧ numFrom l = 2 ∧ numBase l = 16) ∨ (x = 98 ∧ numFrom l = 2 ∧ numBase l = 2) ∨ (¬ x = 120 ∧ ¬ x = 98 ∧ numFrom l = 0 ∧ numBase l = 10))) ∨ ((l.length = 1 ∨ ∃ y z, l[0]? = some y ∧ l[1]? = some z ∧ ¬ y = 48) ∧ numFrom l = 0 ∧ numBase l = 10) := by
  match l, h1 with
  | [a], _ =>
    have ht : ([a] : List UInt8).take 2 = [a] := rfl
    refine Or.inr ⟨Or.inl rfl, ?_, ?_⟩
    · unfold numFrom; rw [ht, if_neg (by simp), if_neg (by simp)]
    · unfold numBase; rw [ht, if_neg (by simp), if_neg (by simp)]
  | a :: b :: tl, _ =>
    have ht : (a :: b :: tl).take 2 = [a, b] := rfl
    by_cases ha : a = 48
    · subst ha
      refine Or.inl ⟨b, rfl, rfl, ?_⟩
      by_cases hx : b = 120
      · subst hx; exact Or.inl ⟨rfl, rfl, rfl⟩
      · by_cases hb : b = 98
        · subst hb; exact Or.inr (Or.inl ⟨rfl, rfl, rfl⟩)
        · refine Or.inr (Or.inr ⟨hx, hb, ?_, ?_⟩)
          · unfold numFrom; rw [ht, if_neg (by simpa using hb), if_neg (by simpa using hx)]
          · unfold numBase; rw [ht, if_neg (by simpa using hb), if_neg (by simpa using hx)]
    · refine Or.inr ⟨Or.inr ⟨a, b, rfl, rfl, ha⟩, ?_, ?_⟩
      · unfold numFrom; rw [ht, if_neg (fun h => ha (by injection h)), if_neg (fun h => ha (by injection h))]
      · unfold numBase; rw [ht, if_neg (fun h => ha (by injection h)), if_neg (fun h => ha (by injection h))]

set_option maxHeartbeats 2000000 in
set_option maxRecDepth 100000 in
theorem lnum_x (g o c : Nat) (l : List UInt8) (w : World) (hb : BysAt w g o l) (h1 : 1 ≤ l.length) (hl : l.length ≤ 1000000) (hlc : l.length ≤ c) (h0 : l[0]? = some 48) (hx1 : l[1]? = some 120) (hf : numFrom l = 2) (hbs : numBase l = 16) : Calls Tryd.prog 81 #[.slice (some ⟨g, o, none⟩) l.length c] w (RetTokE (tokU (numR l).1, (numR l).2, 3) w) := by
  have HB := Lib.hid hb
  have HF := Lib.hid hf
  have HBS := Lib.hid hbs
  have c0 := hb 0 _ h0
  rw [Nat.add_zero] at c0
  have hzg := block_lt c0
  have hzg : g < w.heap.size := hzg
  have c1 := hb 1 _ hx1
  have l1 : 1 < l.length := (List.getElem?_eq_some_iff.1 hx1).1
  have l1I : decide ((1 : Int) < l.length) = true := decide_eq_true (by omega)
  have l1J : (1 : Int) < l.length := by omega
  have l0J : (0 : Int) < l.length := by omega
  have c0 : w.cell? ⟨g, o, none⟩ = some (.int .u8 48) := c0
  have c1 : w.cell? ⟨g, o + 1, none⟩ = some (.int .u8 120) := c1
  clear h0 hx1
  clear hb hf hbs
  go_enter Tryd.func81, Tryd.ntmps81
  go_wp2
  go_loopw [6, 7, 9] (fun iv vv dv wr => ∃ i v : Nat, 2 ≤ i ∧ i ≤ l.length ∧ iv = .int .i64 i ∧ vv = .int .u64 v ∧ v ≤ 4294967296 ∧ Has wr w.heap.size rt0 ∧ Nx w wr ∧ Hid (accP 16 (l.drop 2) 0 = ((accP 16 (l.drop i) v).1, (i - 2) + (accP 16 (l.drop i) v).2))) (fun iv _ _ _ => l.length - (intOf iv).toNat)
  case atStart => exact ⟨2, 0, Nat.le_refl _, by omega, rfl, rfl, by omega, Has.new w rt0, (Nx.refl w).alloc _, Lib.hid (by simp)⟩
  case round =>
    obtain ⟨i, v, hi1, hi2, rfl, rfl, hv32, hh, hnx, HT⟩ := hrel
    have HNX := Lib.hid hnx
    have HH := Lib.hid hh
    have zb := HH.out.lt
    have hv32I : (v : Int) ≤ 4294967296 := by omega
    clear hnx hh
    have hh := HH.out
    unfold rt0 at hh
    have r0 := hh.cell 0 _ rfl
    have r1 := hh.cell 1 _ rfl
    have r2 := hh.cell 2 _ rfl
    have r3 := hh.cell 3 _ rfl
    have r4 := hh.cell 4 _ rfl
    have r5 := hh.cell 5 _ rfl
    have f0 := hh.free 0
    have f1 := hh.free 1
    have f2 := hh.free 2
    have f3 := hh.free 3
    have f4 := hh.free 4
    have f5 := hh.free 5
    clear hh
    by_cases hlt : i < l.length
    · obtain ⟨x, hx⟩ : ∃ x, l[i]? = some x := ⟨_, List.getElem?_eq_getElem hlt⟩
      have cx := HNX.out.cell (HB.out i x hx)
      have CD := Lib.hid (fun w' => ldigit_any x w')
      by_cases hd : 16 ≤ digP x
      · have hs := acc_stop 16 l i x hx v hd
        have hT := HT.out
        rw [hs] at hT
        have HV3 := Lib.hid (num_end l 2 16 i v HF.out HBS.out hi1 (by rw [hT]; rfl))
        have bd : decide ((16 : Int) ≤ (digP x : Nat)) = true := decide_eq_true (by omega)
        clear hT hs hd HT
        generalize digP x = d at *
        by_cases hif : i = 2
        · have HV2 := Lib.hid (HV3.out.trans (show numEnd l 2 i v = (0, 0) from if_pos (Or.inl (by omega))))
          have bq : ((i : Int) == 2) = true := by rw [hif]; rfl
          clear HV3 hif
          go_wp2_with fail
          refine (CD.out _).mono ?_
          rintro e w2 ⟨rfl, rfl⟩
          go_wp2
          refine bodyPost_ret (v := .tuple #[.agg #[.int .i64 0, .int .i64 0, .int .i64 0, .string (B []), .int .u32 0, .int .i64 0], .int .i64 0, .iface 83 (.int .i64 3)]) (by simp [results, Tryd.results81, go_sem, r0, r1, r2, r3, r4, r5, f0, f1, f2, f3, f4, f5]) rfl ?_
          rw [HV2.out]
          refine tokE_bad _ 3 _ _ ?_
          repeat (with_reducible first | exact HNX.out | refine Nx.drew ?_ | refine Nx.setCell ?_ (Nat.le_refl _) _ | refine Nx.alloc ?_ _)
        · have bq : ((i : Int) == 2) = false := beq_eq_false_iff_ne.2 (by omega)
          have hip : 0 < i := by omega
          by_cases hbig : 4294967296 ≤ v
          · have HV2 := Lib.hid (HV3.out.trans (show numEnd l 2 i v = (0, 0) from if_pos (Or.inr (Or.inl hbig))))
            have bv : decide ((4294967296 : Int) ≤ v) = true := decide_eq_true (by omega)
            clear HV3 hif hbig
            go_wp2_with fail
            refine (CD.out _).mono ?_
            rintro e w2 ⟨rfl, rfl⟩
            go_wp2
            refine bodyPost_ret (v := .tuple #[.agg #[.int .i64 0, .int .i64 0, .int .i64 0, .string (B []), .int .u32 0, .int .i64 0], .int .i64 0, .iface 83 (.int .i64 3)]) (by simp [results, Tryd.results81, go_sem, r0, r1, r2, r3, r4, r5, f0, f1, f2, f3, f4, f5]) rfl ?_
            rw [HV2.out]
            refine tokE_bad _ 3 _ _ ?_
            repeat (with_reducible first | exact HNX.out | refine Nx.drew ?_ | refine Nx.setCell ?_ (Nat.le_refl _) _ | refine Nx.alloc ?_ _)
          · have bv : decide ((4294967296 : Int) ≤ v) = false := decide_eq_false (by omega)
            have hvI : (v : Int) < 4294967296 := by omega
            cases hgo : goB x
            · have HV2 := Lib.hid (HV3.out.trans (show numEnd l 2 i v = (v, i) from if_neg (by rw [getD_at l i x hx, hgo]; intro h; rcases h with h | h | h; omega; omega; cases h.2)))
              have CG := Lib.hid (fun w' => (show Calls Tryd.prog 85 #[.int .u8 x.toNat] w' fun e w2 => e = .returned (.bool false) ∧ w' = w2 from by have := goesOn_any x w'; rwa [hgo] at this))
              clear HV3 hif hbig hgo hx
              go_wp2_with fail
              refine (CD.out _).mono ?_
              rintro e w2 ⟨rfl, rfl⟩
              go_wp2_with fail
              refine (CG.out _).mono ?_
              rintro e w2 ⟨rfl, rfl⟩
              go_wp2
              refine bodyPost_ret (v := .tuple #[.agg #[.int .i64 5, .int .i64 0, .int .i64 0, .string (B []), .int .u32 v, .int .i64 0], .int .i64 (i : Int), .nilIface]) (by simp [results, Tryd.results81, go_sem, r0, r1, r2, r3, r4, r5, f0, f1, f2, f3, f4, f5]) rfl ?_
              rw [HV2.out]
              refine tokE_is (tokU v) (i) 3 (i : Int) (by omega) (by omega) w _ ?_
              repeat (with_reducible first | exact HNX.out | refine Nx.drew ?_ | refine Nx.setCell ?_ (Nat.le_refl _) _ | refine Nx.alloc ?_ _)
            · have HV2 := Lib.hid (HV3.out.trans (show numEnd l 2 i v = (0, 0) from if_pos (Or.inr (Or.inr ⟨hlt, by rw [getD_at l i x hx]; exact hgo⟩))))
              have CG := Lib.hid (fun w' => (show Calls Tryd.prog 85 #[.int .u8 x.toNat] w' fun e w2 => e = .returned (.bool true) ∧ w' = w2 from by have := goesOn_any x w'; rwa [hgo] at this))
              clear HV3 hif hbig hgo hx
              go_wp2_with fail
              refine (CD.out _).mono ?_
              rintro e w2 ⟨rfl, rfl⟩
              go_wp2_with fail
              refine (CG.out _).mono ?_
              rintro e w2 ⟨rfl, rfl⟩
              go_wp2
              refine bodyPost_ret (v := .tuple #[.agg #[.int .i64 0, .int .i64 0, .int .i64 0, .string (B []), .int .u32 0, .int .i64 0], .int .i64 0, .iface 83 (.int .i64 3)]) (by simp [results, Tryd.results81, go_sem, r0, r1, r2, r3, r4, r5, f0, f1, f2, f3, f4, f5]) rfl ?_
              rw [HV2.out]
              refine tokE_bad _ 3 _ _ ?_
              repeat (with_reducible first | exact HNX.out | refine Nx.drew ?_ | refine Nx.setCell ?_ (Nat.le_refl _) _ | refine Nx.alloc ?_ _)
      · have hs := acc_go 16 l i x hx v hd
        have hT := HT.out
        rw [hs] at hT
        have hdl := digP_le x
        have bd : decide ((16 : Int) ≤ (digP x : Nat)) = false := decide_eq_false (by omega)
        have HT2 := Lib.hid (show accP 16 (l.drop 2) 0 = ((accP 16 (l.drop (i + 1)) (min (v * 16 + digP x) 4294967296)).1, (i + 1 - 2) + (accP 16 (l.drop (i + 1)) (min (v * 16 + digP x) 4294967296)).2) by rw [hT]; simp; omega)
        clear hT hs hd HT hx
        generalize digP x = d at *
        have hdI : (d : Int) ≤ 256 := by omega
        go_wp2_with fail
        refine (CD.out _).mono ?_
        rintro e w2 ⟨rfl, rfl⟩
        go_wp2
        go_roundw
        case rel => exact ⟨i + 1, min (v * 16 + d) 4294967296, by omega, by omega, by go_num, by congr 1; omega, by omega, HH.out, HNX.out, HT2⟩
        case measure => simp [intOf]; omega
    · obtain rfl : i = l.length := by omega
      have hT := HT.out
      rw [List.drop_length, acc_end] at hT
      have HV3 := Lib.hid (num_end l 2 16 l.length v HF.out HBS.out hi1 (by rw [hT]; rfl))
      clear hT HT
      obtain ⟨i, hil⟩ : ∃ i, i = l.length := ⟨_, rfl⟩
      rw [← hil] at HV3 hi1 hi2 ⊢
      have hge : l.length ≤ i := by omega
      have dlt : decide ((i : Int) < l.length) = false := decide_eq_false (by omega)
      clear hil hlt
      by_cases hif : i = 2
      · have HV2 := Lib.hid (HV3.out.trans (show numEnd l 2 i v = (0, 0) from if_pos (Or.inl (by omega))))
        have bq : ((i : Int) == 2) = true := by rw [hif]; rfl
        clear HV3 hif
        go_wp2
        refine bodyPost_ret (v := .tuple #[.agg #[.int .i64 0, .int .i64 0, .int .i64 0, .string (B []), .int .u32 0, .int .i64 0], .int .i64 0, .iface 83 (.int .i64 3)]) (by simp [results, Tryd.results81, go_sem, r0, r1, r2, r3, r4, r5, f0, f1, f2, f3, f4, f5]) rfl ?_
        rw [HV2.out]
        refine tokE_bad _ 3 _ _ ?_
        repeat (with_reducible first | exact HNX.out | refine Nx.drew ?_ | refine Nx.setCell ?_ (Nat.le_refl _) _ | refine Nx.alloc ?_ _)
      · have bq : ((i : Int) == 2) = false := beq_eq_false_iff_ne.2 (by omega)
        have hip : 0 < i := by omega
        by_cases hbig : 4294967296 ≤ v
        · have HV2 := Lib.hid (HV3.out.trans (show numEnd l 2 i v = (0, 0) from if_pos (Or.inr (Or.inl hbig))))
          have bv : decide ((4294967296 : Int) ≤ v) = true := decide_eq_true (by omega)
          clear HV3 hif hbig
          go_wp2
          refine bodyPost_ret (v := .tuple #[.agg #[.int .i64 0, .int .i64 0, .int .i64 0, .string (B []), .int .u32 0, .int .i64 0], .int .i64 0, .iface 83 (.int .i64 3)]) (by simp [results, Tryd.results81, go_sem, r0, r1, r2, r3, r4, r5, f0, f1, f2, f3, f4, f5]) rfl ?_
          rw [HV2.out]
          refine tokE_bad _ 3 _ _ ?_
          repeat (with_reducible first | exact HNX.out | refine Nx.drew ?_ | refine Nx.setCell ?_ (Nat.le_refl _) _ | refine Nx.alloc ?_ _)
        · have bv : decide ((4294967296 : Int) ≤ v) = false := decide_eq_false (by omega)
          have hvI : (v : Int) < 4294967296 := by omega
          have HV2 := Lib.hid (HV3.out.trans (show numEnd l 2 i v = (v, i) from if_neg (by intro h; rcases h with h | h | h; omega; omega; omega)))
          clear HV3 hif hbig
          go_wp2
          refine bodyPost_ret (v := .tuple #[.agg #[.int .i64 5, .int .i64 0, .int .i64 0, .string (B []), .int .u32 v, .int .i64 0], .int .i64 (i : Int), .nilIface]) (by simp [results, Tryd.results81, go_sem, r0, r1, r2, r3, r4, r5, f0, f1, f2, f3, f4, f5]) rfl ?_
          rw [HV2.out]
          refine tokE_is (tokU v) (i) 3 (i : Int) (by omega) (by omega) w _ ?_
          repeat (with_reducible first | exact HNX.out | refine Nx.drew ?_ | refine Nx.setCell ?_ (Nat.le_refl _) _ | refine Nx.alloc ?_ _)

set_option maxHeartbeats 2000000 in
set_option maxRecDepth 100000 in
theorem lnum_b (g o c : Nat) (l : List UInt8) (w : World) (hb : BysAt w g o l) (h1 : 1 ≤ l.length) (hl : l.length ≤ 1000000) (hlc : l.length ≤ c) (h0 : l[0]? = some 48) (hx1 : l[1]? = some 98) (hf : numFrom l = 2) (hbs : numBase l = 2) : Calls Tryd.prog 81 #[.slice (some ⟨g, o, none⟩) l.length c] w (RetTokE (tokU (numR l).1, (numR l).2, 3) w) := by
  have HB := Lib.hid hb
  have HF := Lib.hid hf
  have HBS := Lib.hid hbs
  have c0 := hb 0 _ h0
  rw [Nat.add_zero] at c0
  have hzg := block_lt c0
  have hzg : g < w.heap.size := hzg
  have c1 := hb 1 _ hx1
  have l1 : 1 < l.length := (List.getElem?_eq_some_iff.1 hx1).1
  have l1I : decide ((1 : Int) < l.length) = true := decide_eq_true (by omega)
  have l1J : (1 : Int) < l.length := by omega
  have l0J : (0 : Int) < l.length := by omega
  have c0 : w.cell? ⟨g, o, none⟩ = some (.int .u8 48) := c0
  have c1 : w.cell? ⟨g, o + 1, none⟩ = some (.int .u8 98) := c1
  clear h0 hx1
  clear hb hf hbs
  go_enter Tryd.func81, Tryd.ntmps81
  go_wp2
  go_loopw [6, 7, 9] (fun iv vv dv wr => ∃ i v : Nat, 2 ≤ i ∧ i ≤ l.length ∧ iv = .int .i64 i ∧ vv = .int .u64 v ∧ v ≤ 4294967296 ∧ Has wr w.heap.size rt0 ∧ Nx w wr ∧ Hid (accP 2 (l.drop 2) 0 = ((accP 2 (l.drop i) v).1, (i - 2) + (accP 2 (l.drop i) v).2))) (fun iv _ _ _ => l.length - (intOf iv).toNat)
  case atStart => exact ⟨2, 0, Nat.le_refl _, by omega, rfl, rfl, by omega, Has.new w rt0, (Nx.refl w).alloc _, Lib.hid (by simp)⟩
  case round =>
    obtain ⟨i, v, hi1, hi2, rfl, rfl, hv32, hh, hnx, HT⟩ := hrel
    have HNX := Lib.hid hnx
    have HH := Lib.hid hh
    have zb := HH.out.lt
    have hv32I : (v : Int) ≤ 4294967296 := by omega
    clear hnx hh
    have hh := HH.out
    unfold rt0 at hh
    have r0 := hh.cell 0 _ rfl
    have r1 := hh.cell 1 _ rfl
    have r2 := hh.cell 2 _ rfl
    have r3 := hh.cell 3 _ rfl
    have r4 := hh.cell 4 _ rfl
    have r5 := hh.cell 5 _ rfl
    have f0 := hh.free 0
    have f1 := hh.free 1
    have f2 := hh.free 2
    have f3 := hh.free 3
    have f4 := hh.free 4
    have f5 := hh.free 5
    clear hh
    by_cases hlt : i < l.length
    · obtain ⟨x, hx⟩ : ∃ x, l[i]? = some x := ⟨_, List.getElem?_eq_getElem hlt⟩
      have cx := HNX.out.cell (HB.out i x hx)
      have CD := Lib.hid (fun w' => ldigit_any x w')
      by_cases hd : 2 ≤ digP x
      · have hs := acc_stop 2 l i x hx v hd
        have hT := HT.out
        rw [hs] at hT
        have HV3 := Lib.hid (num_end l 2 2 i v HF.out HBS.out hi1 (by rw [hT]; rfl))
        have bd : decide ((2 : Int) ≤ (digP x : Nat)) = true := decide_eq_true (by omega)
        clear hT hs hd HT
        generalize digP x = d at *
        by_cases hif : i = 2
        · have HV2 := Lib.hid (HV3.out.trans (show numEnd l 2 i v = (0, 0) from if_pos (Or.inl (by omega))))
          have bq : ((i : Int) == 2) = true := by rw [hif]; rfl
          clear HV3 hif
          go_wp2_with fail
          refine (CD.out _).mono ?_
          rintro e w2 ⟨rfl, rfl⟩
          go_wp2
          refine bodyPost_ret (v := .tuple #[.agg #[.int .i64 0, .int .i64 0, .int .i64 0, .string (B []), .int .u32 0, .int .i64 0], .int .i64 0, .iface 83 (.int .i64 3)]) (by simp [results, Tryd.results81, go_sem, r0, r1, r2, r3, r4, r5, f0, f1, f2, f3, f4, f5]) rfl ?_
          rw [HV2.out]
          refine tokE_bad _ 3 _ _ ?_
          repeat (with_reducible first | exact HNX.out | refine Nx.drew ?_ | refine Nx.setCell ?_ (Nat.le_refl _) _ | refine Nx.alloc ?_ _)
        · have bq : ((i : Int) == 2) = false := beq_eq_false_iff_ne.2 (by omega)
          have hip : 0 < i := by omega
          by_cases hbig : 4294967296 ≤ v
          · have HV2 := Lib.hid (HV3.out.trans (show numEnd l 2 i v = (0, 0) from if_pos (Or.inr (Or.inl hbig))))
            have bv : decide ((4294967296 : Int) ≤ v) = true := decide_eq_true (by omega)
            clear HV3 hif hbig
            go_wp2_with fail
            refine (CD.out _).mono ?_
            rintro e w2 ⟨rfl, rfl⟩
            go_wp2
            refine bodyPost_ret (v := .tuple #[.agg #[.int .i64 0, .int .i64 0, .int .i64 0, .string (B []), .int .u32 0, .int .i64 0], .int .i64 0, .iface 83 (.int .i64 3)]) (by simp [results, Tryd.results81, go_sem, r0, r1, r2, r3, r4, r5, f0, f1, f2, f3, f4, f5]) rfl ?_
            rw [HV2.out]
            refine tokE_bad _ 3 _ _ ?_
            repeat (with_reducible first | exact HNX.out | refine Nx.drew ?_ | refine Nx.setCell ?_ (Nat.le_refl _) _ | refine Nx.alloc ?_ _)
          · have bv : decide ((4294967296 : Int) ≤ v) = false := decide_eq_false (by omega)
            have hvI : (v : Int) < 4294967296 := by omega
            cases hgo : goB x
            · have HV2 := Lib.hid (HV3.out.trans (show numEnd l 2 i v = (v, i) from if_neg (by rw [getD_at l i x hx, hgo]; intro h; rcases h with h | h | h; omega; omega; cases h.2)))
              have CG := Lib.hid (fun w' => (show Calls Tryd.prog 85 #[.int .u8 x.toNat] w' fun e w2 => e = .returned (.bool false) ∧ w' = w2 from by have := goesOn_any x w'; rwa [hgo] at this))
              clear HV3 hif hbig hgo hx
              go_wp2_with fail
              refine (CD.out _).mono ?_
              rintro e w2 ⟨rfl, rfl⟩
              go_wp2_with fail
              refine (CG.out _).mono ?_
              rintro e w2 ⟨rfl, rfl⟩
              go_wp2
              refine bodyPost_ret (v := .tuple #[.agg #[.int .i64 5, .int .i64 0, .int .i64 0, .string (B []), .int .u32 v, .int .i64 0], .int .i64 (i : Int), .nilIface]) (by simp [results, Tryd.results81, go_sem, r0, r1, r2, r3, r4, r5, f0, f1, f2, f3, f4, f5]) rfl ?_
              rw [HV2.out]
              refine tokE_is (tokU v) (i) 3 (i : Int) (by omega) (by omega) w _ ?_
              repeat (with_reducible first | exact HNX.out | refine Nx.drew ?_ | refine Nx.setCell ?_ (Nat.le_refl _) _ | refine Nx.alloc ?_ _)
            · have HV2 := Lib.hid (HV3.out.trans (show numEnd l 2 i v = (0, 0) from if_pos (Or.inr (Or.inr ⟨hlt, by rw [getD_at l i x hx]; exact hgo⟩))))
              have CG := Lib.hid (fun w' => (show Calls Tryd.prog 85 #[.int .u8 x.toNat] w' fun e w2 => e = .returned (.bool true) ∧ w' = w2 from by have := goesOn_any x w'; rwa [hgo] at this))
              clear HV3 hif hbig hgo hx
              go_wp2_with fail
              refine (CD.out _).mono ?_
              rintro e w2 ⟨rfl, rfl⟩
              go_wp2_with fail
              refine (CG.out _).mono ?_
              rintro e w2 ⟨rfl, rfl⟩
              go_wp2
              refine bodyPost_ret (v := .tuple #[.agg #[.int .i64 0, .int .i64 0, .int .i64 0, .string (B []), .int .u32 0, .int .i64 0], .int .i64 0, .iface 83 (.int .i64 3)]) (by simp [results, Tryd.results81, go_sem, r0, r1, r2, r3, r4, r5, f0, f1, f2, f3, f4, f5]) rfl ?_
              rw [HV2.out]
              refine tokE_bad _ 3 _ _ ?_
              repeat (with_reducible first | exact HNX.out | refine Nx.drew ?_ | refine Nx.setCell ?_ (Nat.le_refl _) _ | refine Nx.alloc ?_ _)
      · have hs := acc_go 2 l i x hx v hd
        have hT := HT.out
        rw [hs] at hT
        have hdl := digP_le x
        have bd : decide ((2 : Int) ≤ (digP x : Nat)) = false := decide_eq_false (by omega)
        have HT2 := Lib.hid (show accP 2 (l.drop 2) 0 = ((accP 2 (l.drop (i + 1)) (min (v * 2 + digP x) 4294967296)).1, (i + 1 - 2) + (accP 2 (l.drop (i + 1)) (min (v * 2 + digP x) 4294967296)).2) by rw [hT]; simp; omega)
        clear hT hs hd HT hx
        generalize digP x = d at *
        have hdI : (d : Int) ≤ 256 := by omega
        go_wp2_with fail
        refine (CD.out _).mono ?_
        rintro e w2 ⟨rfl, rfl⟩
        go_wp2
        go_roundw
        case rel => exact ⟨i + 1, min (v * 2 + d) 4294967296, by omega, by omega, by go_num, by congr 1; omega, by omega, HH.out, HNX.out, HT2⟩
        case measure => simp [intOf]; omega
    · obtain rfl : i = l.length := by omega
      have hT := HT.out
      rw [List.drop_length, acc_end] at hT
      have HV3 := Lib.hid (num_end l 2 2 l.length v HF.out HBS.out hi1 (by rw [hT]; rfl))
      clear hT HT
      obtain ⟨i, hil⟩ : ∃ i, i = l.length := ⟨_, rfl⟩
      rw [← hil] at HV3 hi1 hi2 ⊢
      have hge : l.length ≤ i := by omega
      have dlt : decide ((i : Int) < l.length) = false := decide_eq_false (by omega)
      clear hil hlt
      by_cases hif : i = 2
      · have HV2 := Lib.hid (HV3.out.trans (show numEnd l 2 i v = (0, 0) from if_pos (Or.inl (by omega))))
        have bq : ((i : Int) == 2) = true := by rw [hif]; rfl
        clear HV3 hif
        go_wp2
        refine bodyPost_ret (v := .tuple #[.agg #[.int .i64 0, .int .i64 0, .int .i64 0, .string (B []), .int .u32 0, .int .i64 0], .int .i64 0, .iface 83 (.int .i64 3)]) (by simp [results, Tryd.results81, go_sem, r0, r1, r2, r3, r4, r5, f0, f1, f2, f3, f4, f5]) rfl ?_
        rw [HV2.out]
        refine tokE_bad _ 3 _ _ ?_
        repeat (with_reducible first | exact HNX.out | refine Nx.drew ?_ | refine Nx.setCell ?_ (Nat.le_refl _) _ | refine Nx.alloc ?_ _)
      · have bq : ((i : Int) == 2) = false := beq_eq_false_iff_ne.2 (by omega)
        have hip : 0 < i := by omega
        by_cases hbig : 4294967296 ≤ v
        · have HV2 := Lib.hid (HV3.out.trans (show numEnd l 2 i v = (0, 0) from if_pos (Or.inr (Or.inl hbig))))
          have bv : decide ((4294967296 : Int) ≤ v) = true := decide_eq_true (by omega)
          clear HV3 hif hbig
          go_wp2
          refine bodyPost_ret (v := .tuple #[.agg #[.int .i64 0, .int .i64 0, .int .i64 0, .string (B []), .int .u32 0, .int .i64 0], .int .i64 0, .iface 83 (.int .i64 3)]) (by simp [results, Tryd.results81, go_sem, r0, r1, r2, r3, r4, r5, f0, f1, f2, f3, f4, f5]) rfl ?_
          rw [HV2.out]
          refine tokE_bad _ 3 _ _ ?_
          repeat (with_reducible first | exact HNX.out | refine Nx.drew ?_ | refine Nx.setCell ?_ (Nat.le_refl _) _ | refine Nx.alloc ?_ _)
        · have bv : decide ((4294967296 : Int) ≤ v) = false := decide_eq_false (by omega)
          have hvI : (v : Int) < 4294967296 := by omega
          have HV2 := Lib.hid (HV3.out.trans (show numEnd l 2 i v = (v, i) from if_neg (by intro h; rcases h with h | h | h; omega; omega; omega)))
          clear HV3 hif hbig
          go_wp2
          refine bodyPost_ret (v := .tuple #[.agg #[.int .i64 5, .int .i64 0, .int .i64 0, .string (B []), .int .u32 v, .int .i64 0], .int .i64 (i : Int), .nilIface]) (by simp [results, Tryd.results81, go_sem, r0, r1, r2, r3, r4, r5, f0, f1, f2, f3, f4, f5]) rfl ?_
          rw [HV2.out]
          refine tokE_is (tokU v) (i) 3 (i : Int) (by omega) (by omega) w _ ?_
          repeat (with_reducible first | exact HNX.out | refine Nx.drew ?_ | refine Nx.setCell ?_ (Nat.le_refl _) _ | refine Nx.alloc ?_ _)

set_option maxHeartbeats 2000000 in
set_option maxRecDepth 100000 in
theorem lnum_o (g o c : Nat) (l : List UInt8) (w : World) (hb : BysAt w g o l) (h1 : 1 ≤ l.length) (hl : l.length ≤ 1000000) (hlc : l.length ≤ c) (x1 : UInt8) (h0 : l[0]? = some 48) (hx1 : l[1]? = some x1) (hn1 : ¬ x1 = 120) (hn2 : ¬ x1 = 98) (hf : numFrom l = 0) (hbs : numBase l = 10) : Calls Tryd.prog 81 #[.slice (some ⟨g, o, none⟩) l.length c] w (RetTokE (tokU (numR l).1, (numR l).2, 3) w) := by
  have HB := Lib.hid hb
  have HF := Lib.hid hf
  have HBS := Lib.hid hbs
  have c0 := hb 0 _ h0
  rw [Nat.add_zero] at c0
  have hzg := block_lt c0
  have hzg : g < w.heap.size := hzg
  have c1 := hb 1 _ hx1
  have l1 : 1 < l.length := (List.getElem?_eq_some_iff.1 hx1).1
  have l1I : decide ((1 : Int) < l.length) = true := decide_eq_true (by omega)
  have l1J : (1 : Int) < l.length := by omega
  have l0J : (0 : Int) < l.length := by omega
  have c0 : w.cell? ⟨g, o, none⟩ = some (.int .u8 48) := c0
  have b120 : ((x1.toNat : Int) == 120) = false := u8n x1 120 (by omega) false (beq_eq_false_iff_ne.2 hn1)
  have b98 : ((x1.toNat : Int) == 98) = false := u8n x1 98 (by omega) false (beq_eq_false_iff_ne.2 hn2)
  clear h0 hx1 hn1 hn2
  clear hb hf hbs
  go_enter Tryd.func81, Tryd.ntmps81
  go_wp2
  go_loopw [6, 7, 9] (fun iv vv dv wr => ∃ i v : Nat, 0 ≤ i ∧ i ≤ l.length ∧ iv = .int .i64 i ∧ vv = .int .u64 v ∧ v ≤ 4294967296 ∧ Has wr w.heap.size rt0 ∧ Nx w wr ∧ Hid (accP 10 (l.drop 0) 0 = ((accP 10 (l.drop i) v).1, (i - 0) + (accP 10 (l.drop i) v).2))) (fun iv _ _ _ => l.length - (intOf iv).toNat)
  case atStart => exact ⟨0, 0, Nat.le_refl _, by omega, rfl, rfl, by omega, Has.new w rt0, (Nx.refl w).alloc _, Lib.hid (by simp)⟩
  case round =>
    obtain ⟨i, v, hi1, hi2, rfl, rfl, hv32, hh, hnx, HT⟩ := hrel
    have HNX := Lib.hid hnx
    have HH := Lib.hid hh
    have zb := HH.out.lt
    have hv32I : (v : Int) ≤ 4294967296 := by omega
    clear hnx hh
    have hh := HH.out
    unfold rt0 at hh
    have r0 := hh.cell 0 _ rfl
    have r1 := hh.cell 1 _ rfl
    have r2 := hh.cell 2 _ rfl
    have r3 := hh.cell 3 _ rfl
    have r4 := hh.cell 4 _ rfl
    have r5 := hh.cell 5 _ rfl
    have f0 := hh.free 0
    have f1 := hh.free 1
    have f2 := hh.free 2
    have f3 := hh.free 3
    have f4 := hh.free 4
    have f5 := hh.free 5
    clear hh
    by_cases hlt : i < l.length
    · obtain ⟨x, hx⟩ : ∃ x, l[i]? = some x := ⟨_, List.getElem?_eq_getElem hlt⟩
      have cx := HNX.out.cell (HB.out i x hx)
      have CD := Lib.hid (fun w' => ldigit_any x w')
      by_cases hd : 10 ≤ digP x
      · have hs := acc_stop 10 l i x hx v hd
        have hT := HT.out
        rw [hs] at hT
        have HV3 := Lib.hid (num_end l 0 10 i v HF.out HBS.out hi1 (by rw [hT]; rfl))
        have bd : decide ((10 : Int) ≤ (digP x : Nat)) = true := decide_eq_true (by omega)
        clear hT hs hd HT
        generalize digP x = d at *
        by_cases hif : i = 0
        · have HV2 := Lib.hid (HV3.out.trans (show numEnd l 0 i v = (0, 0) from if_pos (Or.inl (by omega))))
          have bq : ((i : Int) == 0) = true := by rw [hif]; rfl
          clear HV3 hif
          go_wp2_with fail
          refine (CD.out _).mono ?_
          rintro e w2 ⟨rfl, rfl⟩
          go_wp2
          refine bodyPost_ret (v := .tuple #[.agg #[.int .i64 0, .int .i64 0, .int .i64 0, .string (B []), .int .u32 0, .int .i64 0], .int .i64 0, .iface 83 (.int .i64 3)]) (by simp [results, Tryd.results81, go_sem, r0, r1, r2, r3, r4, r5, f0, f1, f2, f3, f4, f5]) rfl ?_
          rw [HV2.out]
          refine tokE_bad _ 3 _ _ ?_
          repeat (with_reducible first | exact HNX.out | refine Nx.drew ?_ | refine Nx.setCell ?_ (Nat.le_refl _) _ | refine Nx.alloc ?_ _)
        · have bq : ((i : Int) == 0) = false := beq_eq_false_iff_ne.2 (by omega)
          have hip : 0 < i := by omega
          by_cases hbig : 4294967296 ≤ v
          · have HV2 := Lib.hid (HV3.out.trans (show numEnd l 0 i v = (0, 0) from if_pos (Or.inr (Or.inl hbig))))
            have bv : decide ((4294967296 : Int) ≤ v) = true := decide_eq_true (by omega)
            clear HV3 hif hbig
            go_wp2_with fail
            refine (CD.out _).mono ?_
            rintro e w2 ⟨rfl, rfl⟩
            go_wp2
            refine bodyPost_ret (v := .tuple #[.agg #[.int .i64 0, .int .i64 0, .int .i64 0, .string (B []), .int .u32 0, .int .i64 0], .int .i64 0, .iface 83 (.int .i64 3)]) (by simp [results, Tryd.results81, go_sem, r0, r1, r2, r3, r4, r5, f0, f1, f2, f3, f4, f5]) rfl ?_
            rw [HV2.out]
            refine tokE_bad _ 3 _ _ ?_
            repeat (with_reducible first | exact HNX.out | refine Nx.drew ?_ | refine Nx.setCell ?_ (Nat.le_refl _) _ | refine Nx.alloc ?_ _)
          · have bv : decide ((4294967296 : Int) ≤ v) = false := decide_eq_false (by omega)
            have hvI : (v : Int) < 4294967296 := by omega
            cases hgo : goB x
            · have HV2 := Lib.hid (HV3.out.trans (show numEnd l 0 i v = (v, i) from if_neg (by rw [getD_at l i x hx, hgo]; intro h; rcases h with h | h | h; omega; omega; cases h.2)))
              have CG := Lib.hid (fun w' => (show Calls Tryd.prog 85 #[.int .u8 x.toNat] w' fun e w2 => e = .returned (.bool false) ∧ w' = w2 from by have := goesOn_any x w'; rwa [hgo] at this))
              clear HV3 hif hbig hgo hx
              go_wp2_with fail
              refine (CD.out _).mono ?_
              rintro e w2 ⟨rfl, rfl⟩
              go_wp2_with fail
              refine (CG.out _).mono ?_
              rintro e w2 ⟨rfl, rfl⟩
              go_wp2
              refine bodyPost_ret (v := .tuple #[.agg #[.int .i64 5, .int .i64 0, .int .i64 0, .string (B []), .int .u32 v, .int .i64 0], .int .i64 (i : Int), .nilIface]) (by simp [results, Tryd.results81, go_sem, r0, r1, r2, r3, r4, r5, f0, f1, f2, f3, f4, f5]) rfl ?_
              rw [HV2.out]
              refine tokE_is (tokU v) (i) 3 (i : Int) (by omega) (by omega) w _ ?_
              repeat (with_reducible first | exact HNX.out | refine Nx.drew ?_ | refine Nx.setCell ?_ (Nat.le_refl _) _ | refine Nx.alloc ?_ _)
            · have HV2 := Lib.hid (HV3.out.trans (show numEnd l 0 i v = (0, 0) from if_pos (Or.inr (Or.inr ⟨hlt, by rw [getD_at l i x hx]; exact hgo⟩))))
              have CG := Lib.hid (fun w' => (show Calls Tryd.prog 85 #[.int .u8 x.toNat] w' fun e w2 => e = .returned (.bool true) ∧ w' = w2 from by have := goesOn_any x w'; rwa [hgo] at this))
              clear HV3 hif hbig hgo hx
              go_wp2_with fail
              refine (CD.out _).mono ?_
              rintro e w2 ⟨rfl, rfl⟩
              go_wp2_with fail
              refine (CG.out _).mono ?_
              rintro e w2 ⟨rfl, rfl⟩
              go_wp2
              refine bodyPost_ret (v := .tuple #[.agg #[.int .i64 0, .int .i64 0, .int .i64 0, .string (B []), .int .u32 0, .int .i64 0], .int .i64 0, .iface 83 (.int .i64 3)]) (by simp [results, Tryd.results81, go_sem, r0, r1, r2, r3, r4, r5, f0, f1, f2, f3, f4, f5]) rfl ?_
              rw [HV2.out]
              refine tokE_bad _ 3 _ _ ?_
              repeat (with_reducible first | exact HNX.out | refine Nx.drew ?_ | refine Nx.setCell ?_ (Nat.le_refl _) _ | refine Nx.alloc ?_ _)
      · have hs := acc_go 10 l i x hx v hd
        have hT := HT.out
        rw [hs] at hT
        have hdl := digP_le x
        have bd : decide ((10 : Int) ≤ (digP x : Nat)) = false := decide_eq_false (by omega)
        have HT2 := Lib.hid (show accP 10 (l.drop 0) 0 = ((accP 10 (l.drop (i + 1)) (min (v * 10 + digP x) 4294967296)).1, (i + 1 - 0) + (accP 10 (l.drop (i + 1)) (min (v * 10 + digP x) 4294967296)).2) by rw [hT]; simp; omega)
        clear hT hs hd HT hx
        generalize digP x = d at *
        have hdI : (d : Int) ≤ 256 := by omega
        go_wp2_with fail
        refine (CD.out _).mono ?_
        rintro e w2 ⟨rfl, rfl⟩
        go_wp2
        go_roundw
        case rel => exact ⟨i + 1, min (v * 10 + d) 4294967296, by omega, by omega, by go_num, by congr 1; omega, by omega, HH.out, HNX.out, HT2⟩
        case measure => simp [intOf]; omega
    · obtain rfl : i = l.length := by omega
      have hT := HT.out
      rw [List.drop_length, acc_end] at hT
      have HV3 := Lib.hid (num_end l 0 10 l.length v HF.out HBS.out hi1 (by rw [hT]; rfl))
      clear hT HT
      obtain ⟨i, hil⟩ : ∃ i, i = l.length := ⟨_, rfl⟩
      rw [← hil] at HV3 hi1 hi2 ⊢
      have hge : l.length ≤ i := by omega
      have dlt : decide ((i : Int) < l.length) = false := decide_eq_false (by omega)
      clear hil hlt
      by_cases hif : i = 0
      · have HV2 := Lib.hid (HV3.out.trans (show numEnd l 0 i v = (0, 0) from if_pos (Or.inl (by omega))))
        have bq : ((i : Int) == 0) = true := by rw [hif]; rfl
        clear HV3 hif
        go_wp2
        refine bodyPost_ret (v := .tuple #[.agg #[.int .i64 0, .int .i64 0, .int .i64 0, .string (B []), .int .u32 0, .int .i64 0], .int .i64 0, .iface 83 (.int .i64 3)]) (by simp [results, Tryd.results81, go_sem, r0, r1, r2, r3, r4, r5, f0, f1, f2, f3, f4, f5]) rfl ?_
        rw [HV2.out]
        refine tokE_bad _ 3 _ _ ?_
        repeat (with_reducible first | exact HNX.out | refine Nx.drew ?_ | refine Nx.setCell ?_ (Nat.le_refl _) _ | refine Nx.alloc ?_ _)
      · have bq : ((i : Int) == 0) = false := beq_eq_false_iff_ne.2 (by omega)
        have hip : 0 < i := by omega
        by_cases hbig : 4294967296 ≤ v
        · have HV2 := Lib.hid (HV3.out.trans (show numEnd l 0 i v = (0, 0) from if_pos (Or.inr (Or.inl hbig))))
          have bv : decide ((4294967296 : Int) ≤ v) = true := decide_eq_true (by omega)
          clear HV3 hif hbig
          go_wp2
          refine bodyPost_ret (v := .tuple #[.agg #[.int .i64 0, .int .i64 0, .int .i64 0, .string (B []), .int .u32 0, .int .i64 0], .int .i64 0, .iface 83 (.int .i64 3)]) (by simp [results, Tryd.results81, go_sem, r0, r1, r2, r3, r4, r5, f0, f1, f2, f3, f4, f5]) rfl ?_
          rw [HV2.out]
          refine tokE_bad _ 3 _ _ ?_
          repeat (with_reducible first | exact HNX.out | refine Nx.drew ?_ | refine Nx.setCell ?_ (Nat.le_refl _) _ | refine Nx.alloc ?_ _)
        · have bv : decide ((4294967296 : Int) ≤ v) = false := decide_eq_false (by omega)
          have hvI : (v : Int) < 4294967296 := by omega
          have HV2 := Lib.hid (HV3.out.trans (show numEnd l 0 i v = (v, i) from if_neg (by intro h; rcases h with h | h | h; omega; omega; omega)))
          clear HV3 hif hbig
          go_wp2
          refine bodyPost_ret (v := .tuple #[.agg #[.int .i64 5, .int .i64 0, .int .i64 0, .string (B []), .int .u32 v, .int .i64 0], .int .i64 (i : Int), .nilIface]) (by simp [results, Tryd.results81, go_sem, r0, r1, r2, r3, r4, r5, f0, f1, f2, f3, f4, f5]) rfl ?_
          rw [HV2.out]
          refine tokE_is (tokU v) (i) 3 (i : Int) (by omega) (by omega) w _ ?_
          repeat (with_reducible first | exact HNX.out | refine Nx.drew ?_ | refine Nx.setCell ?_ (Nat.le_refl _) _ | refine Nx.alloc ?_ _)

set_option maxHeartbeats 2000000 in
set_option maxRecDepth 100000 in
theorem lnum_n (g o c : Nat) (l : List UInt8) (w : World) (hb : BysAt w g o l) (h1 : 1 ≤ l.length) (hl : l.length ≤ 1000000) (hlc : l.length ≤ c) (x0 x1 : UInt8) (h0 : l[0]? = some x0) (hx1 : l[1]? = some x1) (hn0 : ¬ x0 = 48) (hf : numFrom l = 0) (hbs : numBase l = 10) : Calls Tryd.prog 81 #[.slice (some ⟨g, o, none⟩) l.length c] w (RetTokE (tokU (numR l).1, (numR l).2, 3) w) := by
  have HB := Lib.hid hb
  have HF := Lib.hid hf
  have HBS := Lib.hid hbs
  have c0 := hb 0 _ h0
  rw [Nat.add_zero] at c0
  have hzg := block_lt c0
  have hzg : g < w.heap.size := hzg
  have c1 := hb 1 _ hx1
  have l1 : 1 < l.length := (List.getElem?_eq_some_iff.1 hx1).1
  have l1I : decide ((1 : Int) < l.length) = true := decide_eq_true (by omega)
  have l1J : (1 : Int) < l.length := by omega
  have l0J : (0 : Int) < l.length := by omega
  have b48 : ((x0.toNat : Int) == 48) = false := u8n x0 48 (by omega) false (beq_eq_false_iff_ne.2 hn0)
  clear h0 hx1 hn0
  clear hb hf hbs
  go_enter Tryd.func81, Tryd.ntmps81
  go_wp2
  go_loopw [6, 7, 9] (fun iv vv dv wr => ∃ i v : Nat, 0 ≤ i ∧ i ≤ l.length ∧ iv = .int .i64 i ∧ vv = .int .u64 v ∧ v ≤ 4294967296 ∧ Has wr w.heap.size rt0 ∧ Nx w wr ∧ Hid (accP 10 (l.drop 0) 0 = ((accP 10 (l.drop i) v).1, (i - 0) + (accP 10 (l.drop i) v).2))) (fun iv _ _ _ => l.length - (intOf iv).toNat)
  case atStart => exact ⟨0, 0, Nat.le_refl _, by omega, rfl, rfl, by omega, Has.new w rt0, (Nx.refl w).alloc _, Lib.hid (by simp)⟩
  case round =>
    obtain ⟨i, v, hi1, hi2, rfl, rfl, hv32, hh, hnx, HT⟩ := hrel
    have HNX := Lib.hid hnx
    have HH := Lib.hid hh
    have zb := HH.out.lt
    have hv32I : (v : Int) ≤ 4294967296 := by omega
    clear hnx hh
    have hh := HH.out
    unfold rt0 at hh
    have r0 := hh.cell 0 _ rfl
    have r1 := hh.cell 1 _ rfl
    have r2 := hh.cell 2 _ rfl
    have r3 := hh.cell 3 _ rfl
    have r4 := hh.cell 4 _ rfl
    have r5 := hh.cell 5 _ rfl
    have f0 := hh.free 0
    have f1 := hh.free 1
    have f2 := hh.free 2
    have f3 := hh.free 3
    have f4 := hh.free 4
    have f5 := hh.free 5
    clear hh
    by_cases hlt : i < l.length
    · obtain ⟨x, hx⟩ : ∃ x, l[i]? = some x := ⟨_, List.getElem?_eq_getElem hlt⟩
      have cx := HNX.out.cell (HB.out i x hx)
      have CD := Lib.hid (fun w' => ldigit_any x w')
      by_cases hd : 10 ≤ digP x
      · have hs := acc_stop 10 l i x hx v hd
        have hT := HT.out
        rw [hs] at hT
        have HV3 := Lib.hid (num_end l 0 10 i v HF.out HBS.out hi1 (by rw [hT]; rfl))
        have bd : decide ((10 : Int) ≤ (digP x : Nat)) = true := decide_eq_true (by omega)
        clear hT hs hd HT
        generalize digP x = d at *
        by_cases hif : i = 0
        · have HV2 := Lib.hid (HV3.out.trans (show numEnd l 0 i v = (0, 0) from if_pos (Or.inl (by omega))))
          have bq : ((i : Int) == 0) = true := by rw [hif]; rfl
          clear HV3 hif
          go_wp2_with fail
          refine (CD.out _).mono ?_
          rintro e w2 ⟨rfl, rfl⟩
          go_wp2
          refine bodyPost_ret (v := .tuple #[.agg #[.int .i64 0, .int .i64 0, .int .i64 0, .string (B []), .int .u32 0, .int .i64 0], .int .i64 0, .iface 83 (.int .i64 3)]) (by simp [results, Tryd.results81, go_sem, r0, r1, r2, r3, r4, r5, f0, f1, f2, f3, f4, f5]) rfl ?_
          rw [HV2.out]
          refine tokE_bad _ 3 _ _ ?_
          repeat (with_reducible first | exact HNX.out | refine Nx.drew ?_ | refine Nx.setCell ?_ (Nat.le_refl _) _ | refine Nx.alloc ?_ _)
        · have bq : ((i : Int) == 0) = false := beq_eq_false_iff_ne.2 (by omega)
          have hip : 0 < i := by omega
          by_cases hbig : 4294967296 ≤ v
          · have HV2 := Lib.hid (HV3.out.trans (show numEnd l 0 i v = (0, 0) from if_pos (Or.inr (Or.inl hbig))))
            have bv : decide ((4294967296 : Int) ≤ v) = true := decide_eq_true (by omega)
            clear HV3 hif hbig
            go_wp2_with fail
            refine (CD.out _).mono ?_
            rintro e w2 ⟨rfl, rfl⟩
            go_wp2
            refine bodyPost_ret (v := .tuple #[.agg #[.int .i64 0, .int .i64 0, .int .i64 0, .string (B []), .int .u32 0, .int .i64 0], .int .i64 0, .iface 83 (.int .i64 3)]) (by simp [results, Tryd.results81, go_sem, r0, r1, r2, r3, r4, r5, f0, f1, f2, f3, f4, f5]) rfl ?_
            rw [HV2.out]
            refine tokE_bad _ 3 _ _ ?_
            repeat (with_reducible first | exact HNX.out | refine Nx.drew ?_ | refine Nx.setCell ?_ (Nat.le_refl _) _ | refine Nx.alloc ?_ _)
          · have bv : decide ((4294967296 : Int) ≤ v) = false := decide_eq_false (by omega)
            have hvI : (v : Int) < 4294967296 := by omega
            cases hgo : goB x
            · have HV2 := Lib.hid (HV3.out.trans (show numEnd l 0 i v = (v, i) from if_neg (by rw [getD_at l i x hx, hgo]; intro h; rcases h with h | h | h; omega; omega; cases h.2)))
              have CG := Lib.hid (fun w' => (show Calls Tryd.prog 85 #[.int .u8 x.toNat] w' fun e w2 => e = .returned (.bool false) ∧ w' = w2 from by have := goesOn_any x w'; rwa [hgo] at this))
              clear HV3 hif hbig hgo hx
              go_wp2_with fail
              refine (CD.out _).mono ?_
              rintro e w2 ⟨rfl, rfl⟩
              go_wp2_with fail
              refine (CG.out _).mono ?_
              rintro e w2 ⟨rfl, rfl⟩
              go_wp2
              refine bodyPost_ret (v := .tuple #[.agg #[.int .i64 5, .int .i64 0, .int .i64 0, .string (B []), .int .u32 v, .int .i64 0], .int .i64 (i : Int), .nilIface]) (by simp [results, Tryd.results81, go_sem, r0, r1, r2, r3, r4, r5, f0, f1, f2, f3, f4, f5]) rfl ?_
              rw [HV2.out]
              refine tokE_is (tokU v) (i) 3 (i : Int) (by omega) (by omega) w _ ?_
              repeat (with_reducible first | exact HNX.out | refine Nx.drew ?_ | refine Nx.setCell ?_ (Nat.le_refl _) _ | refine Nx.alloc ?_ _)
            · have HV2 := Lib.hid (HV3.out.trans (show numEnd l 0 i v = (0, 0) from if_pos (Or.inr (Or.inr ⟨hlt, by rw [getD_at l i x hx]; exact hgo⟩))))
              have CG := Lib.hid (fun w' => (show Calls Tryd.prog 85 #[.int .u8 x.toNat] w' fun e w2 => e = .returned (.bool true) ∧ w' = w2 from by have := goesOn_any x w'; rwa [hgo] at this))
              clear HV3 hif hbig hgo hx
              go_wp2_with fail
              refine (CD.out _).mono ?_
              rintro e w2 ⟨rfl, rfl⟩
              go_wp2_with fail
              refine (CG.out _).mono ?_
              rintro e w2 ⟨rfl, rfl⟩
              go_wp2
              refine bodyPost_ret (v := .tuple #[.agg #[.int .i64 0, .int .i64 0, .int .i64 0, .string (B []), .int .u32 0, .int .i64 0], .int .i64 0, .iface 83 (.int .i64 3)]) (by simp [results, Tryd.results81, go_sem, r0, r1, r2, r3, r4, r5, f0, f1, f2, f3, f4, f5]) rfl ?_
              rw [HV2.out]
              refine tokE_bad _ 3 _ _ ?_
              repeat (with_reducible first | exact HNX.out | refine Nx.drew ?_ | refine Nx.setCell ?_ (Nat.le_refl _) _ | refine Nx.alloc ?_ _)
      · have hs := acc_go 10 l i x hx v hd
        have hT := HT.out
        rw [hs] at hT
        have hdl := digP_le x
        have bd : decide ((10 : Int) ≤ (digP x : Nat)) = false := decide_eq_false (by omega)
        have HT2 := Lib.hid (show accP 10 (l.drop 0) 0 = ((accP 10 (l.drop (i + 1)) (min (v * 10 + digP x) 4294967296)).1, (i + 1 - 0) + (accP 10 (l.drop (i + 1)) (min (v * 10 + digP x) 4294967296)).2) by rw [hT]; simp; omega)
        clear hT hs hd HT hx
        generalize digP x = d at *
        have hdI : (d : Int) ≤ 256 := by omega
        go_wp2_with fail
        refine (CD.out _).mono ?_
        rintro e w2 ⟨rfl, rfl⟩
        go_wp2
        go_roundw
        case rel => exact ⟨i + 1, min (v * 10 + d) 4294967296, by omega, by omega, by go_num, by congr 1; omega, by omega, HH.out, HNX.out, HT2⟩
        case measure => simp [intOf]; omega
    · obtain rfl : i = l.length := by omega
      have hT := HT.out
      rw [List.drop_length, acc_end] at hT
      have HV3 := Lib.hid (num_end l 0 10 l.length v HF.out HBS.out hi1 (by rw [hT]; rfl))
      clear hT HT
      obtain ⟨i, hil⟩ : ∃ i, i = l.length := ⟨_, rfl⟩
      rw [← hil] at HV3 hi1 hi2 ⊢
      have hge : l.length ≤ i := by omega
      have dlt : decide ((i : Int) < l.length) = false := decide_eq_false (by omega)
      clear hil hlt
      by_cases hif : i = 0
      · have HV2 := Lib.hid (HV3.out.trans (show numEnd l 0 i v = (0, 0) from if_pos (Or.inl (by omega))))
        have bq : ((i : Int) == 0) = true := by rw [hif]; rfl
        clear HV3 hif
        go_wp2
        refine bodyPost_ret (v := .tuple #[.agg #[.int .i64 0, .int .i64 0, .int .i64 0, .string (B []), .int .u32 0, .int .i64 0], .int .i64 0, .iface 83 (.int .i64 3)]) (by simp [results, Tryd.results81, go_sem, r0, r1, r2, r3, r4, r5, f0, f1, f2, f3, f4, f5]) rfl ?_
        rw [HV2.out]
        refine tokE_bad _ 3 _ _ ?_
        repeat (with_reducible first | exact HNX.out | refine Nx.drew ?_ | refine Nx.setCell ?_ (Nat.le_refl _) _ | refine Nx.alloc ?_ _)
      · have bq : ((i : Int) == 0) = false := beq_eq_false_iff_ne.2 (by omega)
        have hip : 0 < i := by omega
        by_cases hbig : 4294967296 ≤ v
        · have HV2 := Lib.hid (HV3.out.trans (show numEnd l 0 i v = (0, 0) from if_pos (Or.inr (Or.inl hbig))))
          have bv : decide ((4294967296 : Int) ≤ v) = true := decide_eq_true (by omega)
          clear HV3 hif hbig
          go_wp2
          refine bodyPost_ret (v := .tuple #[.agg #[.int .i64 0, .int .i64 0, .int .i64 0, .string (B []), .int .u32 0, .int .i64 0], .int .i64 0, .iface 83 (.int .i64 3)]) (by simp [results, Tryd.results81, go_sem, r0, r1, r2, r3, r4, r5, f0, f1, f2, f3, f4, f5]) rfl ?_
          rw [HV2.out]
          refine tokE_bad _ 3 _ _ ?_
          repeat (with_reducible first | exact HNX.out | refine Nx.drew ?_ | refine Nx.setCell ?_ (Nat.le_refl _) _ | refine Nx.alloc ?_ _)
        · have bv : decide ((4294967296 : Int) ≤ v) = false := decide_eq_false (by omega)
          have hvI : (v : Int) < 4294967296 := by omega
          have HV2 := Lib.hid (HV3.out.trans (show numEnd l 0 i v = (v, i) from if_neg (by intro h; rcases h with h | h | h; omega; omega; omega)))
          clear HV3 hif hbig
          go_wp2
          refine bodyPost_ret (v := .tuple #[.agg #[.int .i64 5, .int .i64 0, .int .i64 0, .string (B []), .int .u32 v, .int .i64 0], .int .i64 (i : Int), .nilIface]) (by simp [results, Tryd.results81, go_sem, r0, r1, r2, r3, r4, r5, f0, f1, f2, f3, f4, f5]) rfl ?_
          rw [HV2.out]
          refine tokE_is (tokU v) (i) 3 (i : Int) (by omega) (by omega) w _ ?_
          repeat (with_reducible first | exact HNX.out | refine Nx.drew ?_ | refine Nx.setCell ?_ (Nat.le_refl _) _ | refine Nx.alloc ?_ _)

set_option maxHeartbeats 2000000 in
set_option maxRecDepth 100000 in
theorem lnum_s (g o c : Nat) (l : List UInt8) (w : World) (hb : BysAt w g o l) (h1 : 1 ≤ l.length) (hl : l.length ≤ 1000000) (hlc : l.length ≤ c) (hs1 : l.length ≤ 1) (hf : numFrom l = 0) (hbs : numBase l = 10) : Calls Tryd.prog 81 #[.slice (some ⟨g, o, none⟩) l.length c] w (RetTokE (tokU (numR l).1, (numR l).2, 3) w) := by
  have HB := Lib.hid hb
  have HF := Lib.hid hf
  have HBS := Lib.hid hbs
  have l1I : decide ((1 : Int) < l.length) = false := decide_eq_false (by omega)
  clear hs1
  clear hb hf hbs
  go_enter Tryd.func81, Tryd.ntmps81
  go_wp2
  go_loopw [6, 7, 9] (fun iv vv dv wr => ∃ i v : Nat, 0 ≤ i ∧ i ≤ l.length ∧ iv = .int .i64 i ∧ vv = .int .u64 v ∧ v ≤ 4294967296 ∧ Has wr w.heap.size rt0 ∧ Nx w wr ∧ Hid (accP 10 (l.drop 0) 0 = ((accP 10 (l.drop i) v).1, (i - 0) + (accP 10 (l.drop i) v).2))) (fun iv _ _ _ => l.length - (intOf iv).toNat)
  case atStart => exact ⟨0, 0, Nat.le_refl _, by omega, rfl, rfl, by omega, Has.new w rt0, (Nx.refl w).alloc _, Lib.hid (by simp)⟩
  case round =>
    obtain ⟨i, v, hi1, hi2, rfl, rfl, hv32, hh, hnx, HT⟩ := hrel
    have HNX := Lib.hid hnx
    have HH := Lib.hid hh
    have zb := HH.out.lt
    have hv32I : (v : Int) ≤ 4294967296 := by omega
    clear hnx hh
    have hh := HH.out
    unfold rt0 at hh
    have r0 := hh.cell 0 _ rfl
    have r1 := hh.cell 1 _ rfl
    have r2 := hh.cell 2 _ rfl
    have r3 := hh.cell 3 _ rfl
    have r4 := hh.cell 4 _ rfl
    have r5 := hh.cell 5 _ rfl
    have f0 := hh.free 0
    have f1 := hh.free 1
    have f2 := hh.free 2
    have f3 := hh.free 3
    have f4 := hh.free 4
    have f5 := hh.free 5
    clear hh
    by_cases hlt : i < l.length
    · obtain ⟨x, hx⟩ : ∃ x, l[i]? = some x := ⟨_, List.getElem?_eq_getElem hlt⟩
      have cx := HNX.out.cell (HB.out i x hx)
      have CD := Lib.hid (fun w' => ldigit_any x w')
      by_cases hd : 10 ≤ digP x
      · have hs := acc_stop 10 l i x hx v hd
        have hT := HT.out
        rw [hs] at hT
        have HV3 := Lib.hid (num_end l 0 10 i v HF.out HBS.out hi1 (by rw [hT]; rfl))
        have bd : decide ((10 : Int) ≤ (digP x : Nat)) = true := decide_eq_true (by omega)
        clear hT hs hd HT
        generalize digP x = d at *
        by_cases hif : i = 0
        · have HV2 := Lib.hid (HV3.out.trans (show numEnd l 0 i v = (0, 0) from if_pos (Or.inl (by omega))))
          have bq : ((i : Int) == 0) = true := by rw [hif]; rfl
          clear HV3 hif
          go_wp2_with fail
          refine (CD.out _).mono ?_
          rintro e w2 ⟨rfl, rfl⟩
          go_wp2
          refine bodyPost_ret (v := .tuple #[.agg #[.int .i64 0, .int .i64 0, .int .i64 0, .string (B []), .int .u32 0, .int .i64 0], .int .i64 0, .iface 83 (.int .i64 3)]) (by simp [results, Tryd.results81, go_sem, r0, r1, r2, r3, r4, r5, f0, f1, f2, f3, f4, f5]) rfl ?_
          rw [HV2.out]
          refine tokE_bad _ 3 _ _ ?_
          repeat (with_reducible first | exact HNX.out | refine Nx.drew ?_ | refine Nx.setCell ?_ (Nat.le_refl _) _ | refine Nx.alloc ?_ _)
        · have bq : ((i : Int) == 0) = false := beq_eq_false_iff_ne.2 (by omega)
          have hip : 0 < i := by omega
          by_cases hbig : 4294967296 ≤ v
          · have HV2 := Lib.hid (HV3.out.trans (show numEnd l 0 i v = (0, 0) from if_pos (Or.inr (Or.inl hbig))))
            have bv : decide ((4294967296 : Int) ≤ v) = true := decide_eq_true (by omega)
            clear HV3 hif hbig
            go_wp2_with fail
            refine (CD.out _).mono ?_
            rintro e w2 ⟨rfl, rfl⟩
            go_wp2
            refine bodyPost_ret (v := .tuple #[.agg #[.int .i64 0, .int .i64 0, .int .i64 0, .string (B []), .int .u32 0, .int .i64 0], .int .i64 0, .iface 83 (.int .i64 3)]) (by simp [results, Tryd.results81, go_sem, r0, r1, r2, r3, r4, r5, f0, f1, f2, f3, f4, f5]) rfl ?_
            rw [HV2.out]
            refine tokE_bad _ 3 _ _ ?_
            repeat (with_reducible first | exact HNX.out | refine Nx.drew ?_ | refine Nx.setCell ?_ (Nat.le_refl _) _ | refine Nx.alloc ?_ _)
          · have bv : decide ((4294967296 : Int) ≤ v) = false := decide_eq_false (by omega)
            have hvI : (v : Int) < 4294967296 := by omega
            cases hgo : goB x
            · have HV2 := Lib.hid (HV3.out.trans (show numEnd l 0 i v = (v, i) from if_neg (by rw [getD_at l i x hx, hgo]; intro h; rcases h with h | h | h; omega; omega; cases h.2)))
              have CG := Lib.hid (fun w' => (show Calls Tryd.prog 85 #[.int .u8 x.toNat] w' fun e w2 => e = .returned (.bool false) ∧ w' = w2 from by have := goesOn_any x w'; rwa [hgo] at this))
              clear HV3 hif hbig hgo hx
              go_wp2_with fail
              refine (CD.out _).mono ?_
              rintro e w2 ⟨rfl, rfl⟩
              go_wp2_with fail
              refine (CG.out _).mono ?_
              rintro e w2 ⟨rfl, rfl⟩
              go_wp2
              refine bodyPost_ret (v := .tuple #[.agg #[.int .i64 5, .int .i64 0, .int .i64 0, .string (B []), .int .u32 v, .int .i64 0], .int .i64 (i : Int), .nilIface]) (by simp [results, Tryd.results81, go_sem, r0, r1, r2, r3, r4, r5, f0, f1, f2, f3, f4, f5]) rfl ?_
              rw [HV2.out]
              refine tokE_is (tokU v) (i) 3 (i : Int) (by omega) (by omega) w _ ?_
              repeat (with_reducible first | exact HNX.out | refine Nx.drew ?_ | refine Nx.setCell ?_ (Nat.le_refl _) _ | refine Nx.alloc ?_ _)
            · have HV2 := Lib.hid (HV3.out.trans (show numEnd l 0 i v = (0, 0) from if_pos (Or.inr (Or.inr ⟨hlt, by rw [getD_at l i x hx]; exact hgo⟩))))
              have CG := Lib.hid (fun w' => (show Calls Tryd.prog 85 #[.int .u8 x.toNat] w' fun e w2 => e = .returned (.bool true) ∧ w' = w2 from by have := goesOn_any x w'; rwa [hgo] at this))
              clear HV3 hif hbig hgo hx
              go_wp2_with fail
              refine (CD.out _).mono ?_
              rintro e w2 ⟨rfl, rfl⟩
              go_wp2_with fail
              refine (CG.out _).mono ?_
              rintro e w2 ⟨rfl, rfl⟩
              go_wp2
              refine bodyPost_ret (v := .tuple #[.agg #[.int .i64 0, .int .i64 0, .int .i64 0, .string (B []), .int .u32 0, .int .i64 0], .int .i64 0, .iface 83 (.int .i64 3)]) (by simp [results, Tryd.results81, go_sem, r0, r1, r2, r3, r4, r5, f0, f1, f2, f3, f4, f5]) rfl ?_
              rw [HV2.out]
              refine tokE_bad _ 3 _ _ ?_
              repeat (with_reducible first | exact HNX.out | refine Nx.drew ?_ | refine Nx.setCell ?_ (Nat.le_refl _) _ | refine Nx.alloc ?_ _)
      · have hs := acc_go 10 l i x hx v hd
        have hT := HT.out
        rw [hs] at hT
        have hdl := digP_le x
        have bd : decide ((10 : Int) ≤ (digP x : Nat)) = false := decide_eq_false (by omega)
        have HT2 := Lib.hid (show accP 10 (l.drop 0) 0 = ((accP 10 (l.drop (i + 1)) (min (v * 10 + digP x) 4294967296)).1, (i + 1 - 0) + (accP 10 (l.drop (i + 1)) (min (v * 10 + digP x) 4294967296)).2) by rw [hT]; simp; omega)
        clear hT hs hd HT hx
        generalize digP x = d at *
        have hdI : (d : Int) ≤ 256 := by omega
        go_wp2_with fail
        refine (CD.out _).mono ?_
        rintro e w2 ⟨rfl, rfl⟩
        go_wp2
        go_roundw
        case rel => exact ⟨i + 1, min (v * 10 + d) 4294967296, by omega, by omega, by go_num, by congr 1; omega, by omega, HH.out, HNX.out, HT2⟩
        case measure => simp [intOf]; omega
    · obtain rfl : i = l.length := by omega
      have hT := HT.out
      rw [List.drop_length, acc_end] at hT
      have HV3 := Lib.hid (num_end l 0 10 l.length v HF.out HBS.out hi1 (by rw [hT]; rfl))
      clear hT HT
      obtain ⟨i, hil⟩ : ∃ i, i = l.length := ⟨_, rfl⟩
      rw [← hil] at HV3 hi1 hi2 ⊢
      have hge : l.length ≤ i := by omega
      have dlt : decide ((i : Int) < l.length) = false := decide_eq_false (by omega)
      clear hil hlt
      by_cases hif : i = 0
      · have HV2 := Lib.hid (HV3.out.trans (show numEnd l 0 i v = (0, 0) from if_pos (Or.inl (by omega))))
        have bq : ((i : Int) == 0) = true := by rw [hif]; rfl
        clear HV3 hif
        go_wp2
        refine bodyPost_ret (v := .tuple #[.agg #[.int .i64 0, .int .i64 0, .int .i64 0, .string (B []), .int .u32 0, .int .i64 0], .int .i64 0, .iface 83 (.int .i64 3)]) (by simp [results, Tryd.results81, go_sem, r0, r1, r2, r3, r4, r5, f0, f1, f2, f3, f4, f5]) rfl ?_
        rw [HV2.out]
        refine tokE_bad _ 3 _ _ ?_
        repeat (with_reducible first | exact HNX.out | refine Nx.drew ?_ | refine Nx.setCell ?_ (Nat.le_refl _) _ | refine Nx.alloc ?_ _)
      · have bq : ((i : Int) == 0) = false := beq_eq_false_iff_ne.2 (by omega)
        have hip : 0 < i := by omega
        by_cases hbig : 4294967296 ≤ v
        · have HV2 := Lib.hid (HV3.out.trans (show numEnd l 0 i v = (0, 0) from if_pos (Or.inr (Or.inl hbig))))
          have bv : decide ((4294967296 : Int) ≤ v) = true := decide_eq_true (by omega)
          clear HV3 hif hbig
          go_wp2
          refine bodyPost_ret (v := .tuple #[.agg #[.int .i64 0, .int .i64 0, .int .i64 0, .string (B []), .int .u32 0, .int .i64 0], .int .i64 0, .iface 83 (.int .i64 3)]) (by simp [results, Tryd.results81, go_sem, r0, r1, r2, r3, r4, r5, f0, f1, f2, f3, f4, f5]) rfl ?_
          rw [HV2.out]
          refine tokE_bad _ 3 _ _ ?_
          repeat (with_reducible first | exact HNX.out | refine Nx.drew ?_ | refine Nx.setCell ?_ (Nat.le_refl _) _ | refine Nx.alloc ?_ _)
        · have bv : decide ((4294967296 : Int) ≤ v) = false := decide_eq_false (by omega)
          have hvI : (v : Int) < 4294967296 := by omega
          have HV2 := Lib.hid (HV3.out.trans (show numEnd l 0 i v = (v, i) from if_neg (by intro h; rcases h with h | h | h; omega; omega; omega)))
          clear HV3 hif hbig
          go_wp2
          refine bodyPost_ret (v := .tuple #[.agg #[.int .i64 5, .int .i64 0, .int .i64 0, .string (B []), .int .u32 v, .int .i64 0], .int .i64 (i : Int), .nilIface]) (by simp [results, Tryd.results81, go_sem, r0, r1, r2, r3, r4, r5, f0, f1, f2, f3, f4, f5]) rfl ?_
          rw [HV2.out]
          refine tokE_is (tokU v) (i) 3 (i : Int) (by omega) (by omega) w _ ?_
          repeat (with_reducible first | exact HNX.out | refine Nx.drew ?_ | refine Nx.setCell ?_ (Nat.le_refl _) _ | refine Nx.alloc ?_ _)


theorem lnum_any (g o c : Nat) (l : List UInt8) (w : World) (hb : BysAt w g o l) (h1 : 1 ≤ l.length) (hl : l.length ≤ 1000000) (hlc : l.length ≤ c) : Calls Tryd.prog 81 #[.slice (some ⟨g, o, none⟩) l.length c] w (RetTokE (tokU (numR l).1, (numR l).2, 3) w) := by
  rcases num_begins l h1 with ⟨x, h0, hx, ⟨rfl, h3, h4⟩ | ⟨rfl, h3, h4⟩ | ⟨h5, h6, h3, h4⟩⟩ | ⟨h5 | ⟨y, z, h0, hx, h5⟩, h3, h4⟩
  · exact lnum_x g o c l w hb h1 hl hlc h0 hx h3 h4
  · exact lnum_b g o c l w hb h1 hl hlc h0 hx h3 h4
  · exact lnum_o g o c l w hb h1 hl hlc x h0 hx h5 h6 h3 h4
  · exact lnum_s g o c l w hb h1 hl hlc (by omega) h3 h4
  · exact lnum_n g o c l w hb h1 hl hlc y z h0 hx h5 h3 h4

end Go.Proofs.YtbkgdepblaibkaaDoor
