/- The walks of the laws of package typecaselaw03: InsNames, InsRegs. -/
import Derived.Test.YtcdjabfhmhibjaaDoorLawc
namespace Go.Proofs.YtcdjabfhmhibjaaDoor
open Go.RowKit
set_option linter.unusedVariables false
set_option linter.unusedSimpArgs false

/-- What holds at a round's head. -/
def OpSeen (s : List UInt8) (k o : Nat) : Prop := (o = 0 ∧ ∀ j, 1 ≤ j → j < k → ¬ nmB.getD j [] = s) ∨ (o = opP s ∧ ∃ j, 1 ≤ j ∧ j < k ∧ nmB.getD j [] = s)

theorem seen_hit {s : List UInt8} {k o : Nat} (h : OpSeen s k o) (h1 : 1 ≤ k) (h2 : k ≤ 48) (e : nmB.getD k [] = s) : OpSeen s (k + 1) k :=
  Or.inr ⟨(op_found s k h1 h2 e).symm, k, h1, by omega, e⟩

theorem seen_miss {s : List UInt8} {k o : Nat} (h : OpSeen s k o) (e : ¬ nmB.getD k [] = s) : OpSeen s (k + 1) o := by
  rcases h with ⟨h0, h⟩ | ⟨h0, j, h1, h2, h3⟩
  · refine Or.inl ⟨h0, fun j h1 h2 => ?_⟩
    by_cases hj : j = k
    · rw [hj]; exact e
    · exact h j h1 (by omega)
  · exact Or.inr ⟨h0, j, h1, by omega, h3⟩

theorem seen_end {s : List UInt8} {o : Nat} (h : OpSeen s 49 o) : o = opP s := by
  rcases h with ⟨h0, h⟩ | ⟨h0, _⟩
  · rw [h0, op_none s fun j h1 h2 => h j h1 (by omega)]
  · exact h0

theorem reg_back (n : Int) : (0 ≤ n ∧ n < 32 → regP (regNP n) = some n.toNat) ∧ (¬ (0 ≤ n ∧ n < 32) → regP (regNP n) = none) := by
  refine ⟨fun h => ?_, fun h => ?_⟩
  · unfold regNP
    rw [if_neg (by omega)]
    exact reg_found _ n.toNat (by omega) ((mem_regNs _ _).2 (Or.inl rfl))
  · unfold regNP
    rw [if_pos (by omega)]
    exact (by decide +kernel : regP [] = none)

theorem regP_lt {s : List UInt8} {n : Nat} (h : regP s = some n) : n < 32 := by
  unfold regP at h
  exact List.mem_range.1 (List.mem_of_find?_eq_some h)

theorem ret_of {s : List UInt8} {w : World} {e : Ending} {w' : World} (h : RetReg s w e w') : ∃ (q : Nat) (b : Bool), e = .returned (.tuple #[.int .i64 q, .bool b]) ∧ w = w' ∧ Hid (q = (regP s).getD 0) ∧ Hid (b = (regP s).isSome) := ⟨_, _, h.1, h.2, Lib.hid rfl, Lib.hid rfl⟩

set_option maxHeartbeats 4000000 in
set_option maxRecDepth 100000 in
theorem InsNames_walk0 (l : List UInt8) (n : Int) (w : World) (hl : l.length ≤ maxLen) (hN : NamesAt w) :
    Calls Tryd.prog 4 #[.string (B l), .int .i64 n] w fun e w' => e = .returned (.bool true) ∧ Nx w w' := by
  have HN := Lib.hid hN
  clear hN
  unfold maxLen at hl
  by_cases h50 : 50 < l.length
  · have d1 : decide (50 < (l.length : Int)) = true := decide_eq_true (by omega)
    go_enter Tryd.func4, Tryd.ntmps4
    go_wp2_with fail
    refine (awakec_any _ HN.out).mono ?_
    rintro e w1 ⟨rfl, hn1⟩
    have H1 := Lib.hid hn1
    clear hn1
    go_wp2
    go_ret
    exact ⟨rfl, H1.out⟩
  · have d1 : decide (50 < (l.length : Int)) = false := decide_eq_false (by omega)
    go_enter Tryd.func4, Tryd.ntmps4
    go_wp2_with fail
    refine (awakec_any _ HN.out).mono ?_
    rintro e w1 ⟨rfl, hn1⟩
    have H1 := Lib.hid hn1
    clear hn1
    go_wp2
    go_loopw [5, 6] (fun ov iv wr => ∃ k o : Nat, 1 ≤ k ∧ k ≤ 49 ∧ ov = .int .i64 o ∧ iv = .int .i64 k ∧ Hid (OpSeen l k o) ∧ Nx w wr) (fun _ iv _ => 49 - (intOf iv).toNat)
    case atStart => exact ⟨1, 0, by omega, by omega, rfl, rfl, Lib.hid (Or.inl ⟨rfl, fun j h1 h2 => by omega⟩), H1.out⟩
    case round =>
      obtain ⟨k, o, hk1, hk2, rfl, rfl, HS, hnx⟩ := hrel
      have HNX := Lib.hid hnx
      clear hnx
      by_cases hlt : k ≤ 48
      · have CN := Lib.hid (fun w' => names_at k _ (nmB_at k (by omega)) w')
        have S1 := Lib.hid (seen_hit HS.out hk1 hlt)
        have S2 := Lib.hid (seen_miss (k := k) HS.out)
        generalize nmB.getD k [] = x at *
        clear HS
        by_cases hx : x = l
        · have bx : (x == l) = true := by simpa using hx
          have HS := Lib.hid (S1.out hx)
          clear hx S1 S2
          go_wp2_with fail
          refine (CN.out _).mono ?_
          rintro e w2 ⟨g, rfl, hg, hn2⟩
          have HN2 := Lib.hid (HNX.out.trans hn2)
          clear hn2
          go_wp2
          go_roundw
          case rel => exact ⟨k + 1, k, by omega, by omega, rfl, by go_num, HS, HN2.out⟩
          case measure => simp [intOf]; omega
        · have bx : (x == l) = false := by simpa using hx
          have HS := Lib.hid (S2.out hx)
          clear hx S1 S2
          go_wp2_with fail
          refine (CN.out _).mono ?_
          rintro e w2 ⟨g, rfl, hg, hn2⟩
          have HN2 := Lib.hid (HNX.out.trans hn2)
          clear hn2
          go_wp2
          go_roundw
          case rel => exact ⟨k + 1, o, by omega, by omega, rfl, by go_num, HS, HN2.out⟩
          case measure => simp [intOf]; omega
      · obtain rfl : k = 49 := by omega
        have C1 := Lib.hid (reg_any l wr (HN.out.keep HNX.out))
        have C2 := Lib.hid (rreg2_any l wr)
        have he := seen_end HS.out
        clear HS
        have CO := Lib.hid (fun w' (hw : Nx w w') => op_any l w' (HN.out.keep hw))
        rw [← he] at CO
        clear he
        have CA := Lib.hid (fun w' (hw : Nx w w') => regName_any n w' (HN.out.keep hw))
        have CB := Lib.hid (fun w' => rregName_any n w')
        have CC := Lib.hid (fun w' (hw : Nx w w') => reg_any (regNP n) w' (HN.out.keep hw))
        have hb := reg_back n
        generalize regNP n = m at *
        unfold RetReg at C1 CC
        unfold RetRegN at C2
        generalize (regP l).getD 0 = q at *
        generalize (regP l).isSome = b at *
        have bo : (o != o) = false := by simp
        have bq : (q != q) = false := by simp
        have bb : (b != b) = false := by simp
        have bm : (m != m) = false := by simp
        have fin : ∃ (z : Nat) (t : Bool), (regP m).getD 0 = z ∧ (regP m).isSome = t ∧ ((decide (0 ≤ n) = false ∧ t = false) ∨ (decide (0 ≤ n) = true ∧ decide (n < 32) = false ∧ t = false) ∨ (decide (0 ≤ n) = true ∧ decide (n < 32) = true ∧ t = true ∧ ((z : Int) == n) = true)) := by
          refine ⟨_, _, rfl, rfl, ?_⟩
          by_cases h1 : 0 ≤ n
          · by_cases h2 : n < 32
            · rw [hb.1 ⟨h1, h2⟩]
              exact Or.inr (Or.inr ⟨decide_eq_true h1, decide_eq_true h2, rfl, by simp; omega⟩)
            · rw [hb.2 (by omega)]
              exact Or.inr (Or.inl ⟨decide_eq_true h1, decide_eq_false h2, rfl⟩)
          · rw [hb.2 (by omega)]
            exact Or.inl ⟨decide_eq_false h1, rfl⟩
        obtain ⟨z, t, hz, ht, fin⟩ := fin
        rw [hz, ht] at CC
        clear hz ht hb
        rcases fin with ⟨f1, rfl⟩ | ⟨f1, f2, rfl⟩ | ⟨f1, f2, rfl, f3⟩
        all_goals
          go_wp2_with fail
          refine C1.out.mono ?_
          rintro e w2 ⟨rfl, rfl⟩
          go_wp2_with fail
          refine C2.out.mono ?_
          rintro e w2 ⟨rfl, hn2⟩
          have H2 := Lib.hid (HNX.out.trans hn2)
          clear hn2
          go_wp2_with fail
          refine (CO.out _ H2.out).mono ?_
          rintro e w3 ⟨rfl, rfl⟩
          go_wp2_with fail
          refine (CA.out _ H2.out).mono ?_
          rintro e w3 ⟨rfl, rfl⟩
          go_wp2_with fail
          refine (CB.out _).mono ?_
          rintro e w3 ⟨rfl, hn3⟩
          have H3 := Lib.hid (H2.out.trans hn3)
          clear hn3
          go_wp2_with fail
          refine (CA.out _ H3.out).mono ?_
          rintro e w4 ⟨rfl, rfl⟩
          go_wp2_with fail
          refine (CC.out _ H3.out).mono ?_
          rintro e w4 ⟨rfl, rfl⟩
          go_wp2
          go_ret
          exact ⟨rfl, H3.out⟩

theorem InsNames_walk (a : ByteArray) (n : Int) (ha : a.size ≤ maxLen) (w : World) (hN : NamesAt w) :
    Calls Tryd.prog 4 #[.string a, .int .i64 n] w fun e w' => e = .returned (.bool true) ∧ Nx w w' := by
  obtain ⟨⟨l⟩⟩ := a
  exact InsNames_walk0 l n w ha hN

theorem may_rd (op rd rs1 rs2 imm : Int) (r : Nat) (hr : r < 32) (h : mayB op rd rs1 rs2 imm = true) (h3 : ¬ formN op = 3) (h5 : ¬ formN op = 5) (h9 : ¬ formN op = 9) : mayB op r rs1 rs2 imm = true := by
  unfold mayB at h ⊢
  simp only [Bool.and_eq_true] at h ⊢
  obtain ⟨h1, h2, h3'⟩ := h
  refine ⟨h1, ?_, h3'⟩
  have hn : needD (formN op) = true := by
    rcases formN_range op with hf | hf | hf | hf | hf | hf | hf | hf | hf | hf
    · rw [hf] at h1; cases h1
    · rw [hf]; rfl
    · rw [hf]; rfl
    · exact absurd hf h3
    · rw [hf]; rfl
    · exact absurd hf h5
    · rw [hf]; rfl
    · rw [hf]; rfl
    · rw [hf]; rfl
    · exact absurd hf h9
  rw [hn]
  unfold regB
  simp
  omega

set_option maxHeartbeats 4000000 in
set_option maxRecDepth 100000 in
theorem InsRegs_walk (op rd rs1 rs2 imm n : Int) (hv : -2147483648 ≤ imm) (hv' : imm ≤ 2147483647) (hn : 0 ≤ n) (hn' : n < 256) (w : World) (hN : NamesAt w) :
    Calls Tryd.prog 5 #[.agg #[.int .i64 op, .int .i64 rd, .int .i64 rs1, .int .i64 rs2, .int .i32 imm], .int .u8 n] w fun e w' => e = .returned (.bool true) ∧ Nx w w' := by
  have HN := Lib.hid hN
  clear hN
  have CM := Lib.hid (fun w' => may_any op rd rs1 rs2 imm w' hv hv')
  cases hm : mayB op rd rs1 rs2 imm
  · rw [hm] at CM
    clear hm
    go_enter Tryd.func5, Tryd.ntmps5
    go_wp2_with fail
    refine (awakec_any _ (HN.out.keep ((Nx.refl w).alloc _))).mono ?_
    rintro e w1 ⟨rfl, hn1⟩
    obtain ⟨c0, c1, c2, c3, c4, hz⟩ := five_in hn1
    have H1 := Lib.hid (((Nx.refl w).alloc _).trans hn1)
    clear hn1
    go_wp2_with fail
    refine (CM.out _).mono ?_
    rintro e w2 ⟨rfl, hn2⟩
    have H2 := Lib.hid (H1.out.trans hn2)
    clear hn2
    go_wp2
    go_ret
    exact ⟨rfl, H2.out⟩
  · rw [hm] at CM
    obtain ⟨r, hr⟩ : ∃ r : Nat, n % 32 = r := ⟨(n % 32).toNat, by omega⟩
    have hr32 : r < 32 := by omega
    have CF := Lib.hid (fun w' => form_any op w')
    have CK := Lib.hid (fun w' (h3 : ¬ formN op = 3) (h5 : ¬ formN op = 5) (h9 : ¬ formN op = 9) => (show Calls Tryd.prog 8 #[.agg #[.int .i64 op, .int .i64 r, .int .i64 rs1, .int .i64 rs2, .int .i32 imm]] w' (fun e w2 => e = .returned (.bool true) ∧ Nx w' w2) from by have := may_any op r rs1 rs2 imm w' hv hv'; rw [may_rd op rd rs1 rs2 imm r hr32 hm h3 h5 h9] at this; exact this))
    have CA := Lib.hid (fun w' (hw : Nx w w') => (show Calls Tryd.prog 16 #[.int .i64 r] w' (fun e w2 => e = .returned (.string (B (regT.getD r []))) ∧ w' = w2) from by have := regName_any r w' (HN.out.keep hw); rw [show regNP r = regT.getD r [] from if_neg (by omega)] at this; exact this))
    have CB := Lib.hid (fun w' => num_any [120] r (by omega) (by simp) w')
    have CR1 := Lib.hid (fun w' (hw : Nx w w') => (show Calls Tryd.prog 14 #[.string (B (regT.getD r []))] w' (fun e w2 => e = .returned (.tuple #[.int .i64 r, .bool true]) ∧ w' = w2) from by have := reg_any (regT.getD r []) w' (HN.out.keep hw); unfold RetReg at this; rw [reg_found _ r hr32 ((mem_regNs _ _).2 (Or.inl rfl))] at this; exact this))
    have CR2 := Lib.hid (fun w' (hw : Nx w w') => (show Calls Tryd.prog 14 #[.string (B ([120] ++ numT r))] w' (fun e w2 => e = .returned (.tuple #[.int .i64 r, .bool true]) ∧ w' = w2) from by have := reg_any ([120] ++ numT r) w' (HN.out.keep hw); unfold RetReg at this; rw [reg_found ([120] ++ numT r) r hr32 ((mem_regNs _ _).2 (Or.inr (Or.inl rfl)))] at this; exact this))
    generalize [120] ++ numT r = xr at *
    generalize regT.getD r [] = tr at *
    have br : ((r : Int) == r) = true := by simp
    have hrI : (r : Int) < 32 := by omega
    clear hm
    generalize hf : formN op = f at *
    have four : (f = 3) ∨ (f = 5) ∨ (f = 9) ∨ ((f != 3) = true ∧ (f != 5) = true ∧ (f != 9) = true ∧ ¬ f = 3 ∧ ¬ f = 5 ∧ ¬ f = 9) := by
      by_cases h3 : f = 3
      · exact Or.inl h3
      · by_cases h5 : f = 5
        · exact Or.inr (Or.inl h5)
        · by_cases h9 : f = 9
          · exact Or.inr (Or.inr (Or.inl h9))
          · exact Or.inr (Or.inr (Or.inr ⟨by simpa using h3, by simpa using h5, by simpa using h9, h3, h5, h9⟩))
    clear hf
    rcases four with rfl | rfl | rfl | ⟨b3, b5, b9, h3, h5, h9⟩
    rotate_left 3
    · have CK2 := Lib.hid (fun w' => CK.out w' h3 h5 h9)
      clear CK h3 h5 h9
      go_enter Tryd.func5, Tryd.ntmps5
      go_wp2_with fail
      refine (awakec_any _ (HN.out.keep ((Nx.refl w).alloc _))).mono ?_
      rintro e w1 ⟨rfl, hn1⟩
      obtain ⟨c0, c1, c2, c3, c4, hz⟩ := five_in hn1
      have H1 := Lib.hid (((Nx.refl w).alloc _).trans hn1)
      clear hn1
      go_wp2_with fail
      refine (CM.out _).mono ?_
      rintro e w2 ⟨rfl, hn2⟩
      have e0 := hn2.cell c0
      have e1 := hn2.cell c1
      have e2 := hn2.cell c2
      have e3 := hn2.cell c3
      have e4 := hn2.cell c4
      have hz2 : w.heap.size < w2.heap.size := Nat.lt_of_lt_of_le hz hn2.size
      have H2 := Lib.hid (H1.out.trans hn2)
      clear hn2 c0 c1 c2 c3 c4
      go_wp2_with fail
      refine (CF.out _).mono ?_
      rintro e w3 ⟨rfl, hn3⟩
      obtain ⟨c0, c1, c2, c3, c4, hz3⟩ := five_in hn3
      have H3 := Lib.hid ((H2.out.alloc (.cells #[.int .i64 op, .int .i64 rd, .int .i64 rs1, .int .i64 rs2, .int .i32 imm] 23)).trans hn3)
      have f0 := ((Has.new w2 (.cells #[.int .i64 op, .int .i64 rd, .int .i64 rs1, .int .i64 rs2, .int .i32 imm] 23)).nx hn3).free 1
      have H4 := Lib.hid (Nx.setCell (b := w3) H3.out (p := ({ block := w2.heap.size, off := 1, spot := none } : Addr)) H2.out.size (.int .i64 r))
      clear hn3 e0 e1 e2 e3 e4
      go_wp2_with fail
      refine (CA.out _ H4.out).mono ?_
      rintro e w4 ⟨rfl, rfl⟩
      go_wp2_with fail
      refine (CR1.out _ H4.out).mono ?_
      rintro e w4 ⟨rfl, rfl⟩
      go_wp2_with fail
      refine (CB.out _).mono ?_
      rintro e w4 ⟨rfl, rfl⟩
      go_wp2_with fail
      refine (CR2.out _ H4.out).mono ?_
      rintro e w4 ⟨rfl, rfl⟩
      go_wp2_with fail
      refine (CK2.out _).mono ?_
      rintro e w5 ⟨rfl, hn5⟩
      have H5 := Lib.hid ((H4.out).trans hn5)
      clear hn5
      go_wp2
      go_ret
      exact ⟨rfl, H5.out⟩
    all_goals
      clear CK
      go_enter Tryd.func5, Tryd.ntmps5
      go_wp2_with fail
      refine (awakec_any _ (HN.out.keep ((Nx.refl w).alloc _))).mono ?_
      rintro e w1 ⟨rfl, hn1⟩
      obtain ⟨c0, c1, c2, c3, c4, hz⟩ := five_in hn1
      have H1 := Lib.hid (((Nx.refl w).alloc _).trans hn1)
      clear hn1
      go_wp2_with fail
      refine (CM.out _).mono ?_
      rintro e w2 ⟨rfl, hn2⟩
      have e0 := hn2.cell c0
      have e1 := hn2.cell c1
      have e2 := hn2.cell c2
      have e3 := hn2.cell c3
      have e4 := hn2.cell c4
      have hz2 : w.heap.size < w2.heap.size := Nat.lt_of_lt_of_le hz hn2.size
      have H2 := Lib.hid (H1.out.trans hn2)
      clear hn2 c0 c1 c2 c3 c4
      go_wp2_with fail
      refine (CF.out _).mono ?_
      rintro e w3 ⟨rfl, hn3⟩
      obtain ⟨c0, c1, c2, c3, c4, hz3⟩ := five_in hn3
      have H3 := Lib.hid ((H2.out.alloc (.cells #[.int .i64 op, .int .i64 rd, .int .i64 rs1, .int .i64 rs2, .int .i32 imm] 23)).trans hn3)
      have f0 := ((Has.new w2 (.cells #[.int .i64 op, .int .i64 rd, .int .i64 rs1, .int .i64 rs2, .int .i32 imm] 23)).nx hn3).free 1
      have H4 := Lib.hid (Nx.setCell (b := w3) H3.out (p := ({ block := w2.heap.size, off := 1, spot := none } : Addr)) H2.out.size (.int .i64 r))
      clear hn3 e0 e1 e2 e3 e4
      go_wp2_with fail
      refine (CA.out _ H3.out).mono ?_
      rintro e w4 ⟨rfl, rfl⟩
      go_wp2_with fail
      refine (CR1.out _ H3.out).mono ?_
      rintro e w4 ⟨rfl, rfl⟩
      go_wp2_with fail
      refine (CB.out _).mono ?_
      rintro e w4 ⟨rfl, rfl⟩
      go_wp2_with fail
      refine (CR2.out _ H3.out).mono ?_
      rintro e w4 ⟨rfl, rfl⟩
      go_wp2_with fail
      refine (CM.out _).mono ?_
      rintro e w5 ⟨rfl, hn5⟩
      have H5 := Lib.hid ((H3.out).trans hn5)
      clear hn5
      go_wp2
      go_ret
      exact ⟨rfl, H5.out⟩

end Go.Proofs.YtcdjabfhmhibjaaDoor
